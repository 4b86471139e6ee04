import Derived.Test.YtalbfkgififmfaaGreatDoorL1
set_option linter.defProp false
set_option linter.unusedVariables false
set_option linter.unusedSimpArgs false
namespace Go.VM
section
variable{N:Nat}
def Eh (c:UInt8):Bool:=K6 c||(Fj c||([45,46,95,126]:B8).contains c)
def ZB (c:UInt8):DZ N (AJ c)=some (Eh c):=by have:=Bl (f:=λn=>DZ N (n:Int)) (g:=λn=>some (Eh (UInt8.ofNat n))) (by kernel_rfl) c;simp only[bP]at this;exact this
def Zo (c:UInt8):DX N (AJ c)=some (Eh c):=by have:=Bl (f:=λn=>DX N (n:Int)) (g:=λn=>some (Eh (UInt8.ofNat n))) (by kernel_rfl) c;simp only[bP]at this;exact this
def AF3 (c:UInt8) (h:J5 c=true):Le N (AJ c)=some ((Gt c.toNat:Nat):Int):=by have:=Bl (f:=λn=>if VU n=true then Le N (n:Int)else none) (g:=λn=>if VU n=true then some ((Gt n:Nat):Int)else none) (by kernel_rfl) c;simp only[show VU c.toNat=true from h,az]at this;exact this
def AGr (c:UInt8) (h:J5 c=true):Oq N (AJ c)=some ((Gt c.toNat:Nat):Int):=by have:=Bl (f:=λn=>if VU n=true then Oq N (n:Int)else none) (g:=λn=>if VU n=true then some ((Gt n:Nat):Int)else none) (by kernel_rfl) c;simp only[show VU c.toNat=true from h,az]at this;exact this
def AX (a b:UInt8):UInt8:=UInt8.ofNat (16 * Gt a.toNat+Gt b.toNat)
def A3D{x y:Nat} (AX:x<16) (hy:y<16):Qw .u8 (AIJ .u8 (x:Int) 4) (y:Int)=AJ (UInt8.ofNat (16 * x+y)):=by have:=Bl (f:=λn=>Qw .u8 (AIJ .u8 ((n / 16:Nat):Int) 4) ((n % 16:Nat):Int)) (g:=λn=>AJ (UInt8.ofNat n)) (by kernel_rfl) (UInt8.ofNat (16 * x+y));grind[UInt8.ofNat,UInt8.toNat_ofNat']
def A29{x y:Nat} (AX:x<16) (hy:y<16):wr .u8 ((wr .u8 (16 * (x:Int)))+(y:Int))=AJ (UInt8.ofNat (16 * x+y)):=by grind[UInt8.ofNat,UInt8.toNat_ofNat',AWN,NS]
def OI:B8->Option UInt8|a::b::_=>if(J5 a&&J5 b)=true then some (AX a b)else none|_=>none
def AB5:Option UInt8->Int×Bool|some x=>(AJ x,true)|none=>(0,false)
section
variable{l t:B8}{i:Nat}{c:UInt8}
def Ac2 (h:l.drop i=c::t) (hb:l.length<=2^40):JV N l (i:Int)=some (AB5 (OI t)):=by
 have hi:i<=l.length:=by have:=br List.length h;grind
 have hl:=Nq h hi;simp only[ae]at hl;unfold JV;dsimp only[AB];rw[Ak fM];match t,h,hl with
 |[],h,hl=>simp only[aq]at hl;rw[an (by grind),an rfl];rfl
 |[a],h,hl=>simp only[ae,aq]at hl;rw[an (by grind),an rfl];rfl
 | a::b::r,h,hl=>
  simp only[ae]at hl;rw[aj (by grind),show wr .i64 ((i:Int)+1)=((i+1:Nat):Int) by grind[Ak],show wr .i64 ((i:Int)+2)=((i+2:Nat):Int) by grind[Ak],O8 (j:=1) h rfl,O8 (j:=2) h rfl,aa,aa,ACQ,aa,aa,ACQ,aa];unfold OI;cases ha:J5 a;·grind[AB5]
  ·cases hb2:J5 b;·grind[AB5]
   ·simp only[bo,cU,az,ap,aA];rw[AF3 a ha,aa,aa,AF3 b hb2,aa,A3D (WW a ha) (WW b hb2)];simp[AB5,ha,hb2,AX]
def Acu (h:l.drop i=37::t) (hb:l.length<=2^40):M7 N l (i:Int)=some (AB5 (OI t)):=by
 have hi:i<=l.length:=by have:=br List.length h;grind
 have hl:=Nq h hi;simp only[ae]at hl;unfold M7;dsimp only[AB];rw[show wr .i64 ((i:Int)+1)=((i+1:Nat):Int) by grind[Ak],show wr .i64 ((i:Int)+2)=((i+2:Nat):Int) by grind[Ak]];match t,h,hl with
 |[],h,hl=>simp only[aq]at hl;rw[an (by grind),an rfl];rfl
 |[a],h,hl=>simp only[ae,aq]at hl;rw[an (by grind),an rfl];rfl
 | a::b::r,h,hl=>
  simp only[ae]at hl;rw[aj (by grind),show idx l (i:Int)=some 37 from O8 (j:=0) h rfl,aa,aj fO,O8 (j:=1) h rfl,O8 (j:=2) h rfl,aa,aa,ACN,aa,aa,ACN,aa];unfold OI;cases ha:J5 a;·grind[AB5]
  ·cases hb2:J5 b;·grind[AB5]
   ·simp only[bo,cU,az,ap,aA];rw[AGr a ha,aa,aa,AGr b hb2,aa,A29 (WW a ha) (WW b hb2)];simp[AB5,ha,hb2,AX]
def Vs:Nat->B8->B8->B8×Int|0,_,_=>([],2)|_+1,[],out=>(out,0)|k+1,c::t,out=>if c=37 then(match OI t with|some x=>Vs k (t.drop 2) (out++[x])|none=>([],2))else Vs k t (out++[c])
def Pz{n:Nat} (h:n<=1000000000):Af n 1:=by grind[Af]
def WP{x:UInt8} (h:OI t=some x):2<=t.length:=by match t,h with|[],h=>cases h|[_],h=>cases h|_::_::_,_=>simp
def TU (c:UInt8):(AJ c==37)=decide (c=37):=by have:=Bl (f:=λn=>((n:Int)==37)) (g:=λn=>decide (UInt8.ofNat n=37)) (by kernel_rfl) c;simp only[bP]at this;exact this
def AAN (hb:l.length<=100000): ∀(k:Nat) (t:B8) (i:Nat) (out:B8),l.drop i=t->i<=l.length->t.length<k->out.length<=i->Du N l (λj=>some (List.map Fg j,0)) k (List.map AJ out) (i:Int)=some (Vs k t out)
 |0,t,i,out,_,_,h,_=>by omega
 |k+1,[],i,out,h,hi,hk,ho=>by have hl:=Nq h hi;rw[Du,aj (by grind),MJ];rfl
 |k+1,c::t,i,out,h,hi,hk,ho=>by
  have hl:=Nq h hi;simp only[ae]at hl hk;rw[Du,an (by grind),show idx l (i:Int)=some c from O8 (j:=0) h rfl,aa,AB,TU];have hd:l.drop (i+1)=t:=by rw[<-aT,h];rfl
  by_cases hc:c=37;·rw[aC hc,an rfl,Ac2 h fM,aa,Vs,an hc];cases he:OI t with|none=>rfl|some x=>have:=WP he;simp only[AB5,az];rw[AP (Pz (by grind)),show wr .i64 (wr .i64 ((i:Int)+2)+1)=((i+3:Nat):Int) by grind[Ak],show List.map AJ out++[AJ x]=List.map AJ (out++[x]) by simp];exact AAN hb k _ (i+3) (out++[x]) (by grind[List.drop_drop]) fM (by grind) (by grind)
  ·rw[aF hc,aj fO,Vs,aj hc];dsimp only;rw[AP (Pz (by grind)),show wr .i64 ((i:Int)+1)=((i+1:Nat):Int) by grind[Ak],show List.map AJ out++[AJ c]=List.map AJ (out++[c]) by simp];exact AAN hb k t (i+1) (out++[c]) hd fM fM (by grind)
def AAb (hb:l.length<=100000): ∀(k:Nat) (t:B8) (i:Nat) (out:B8),l.drop i=t->i<=l.length->t.length<k->out.length<=i->E9 N l (λj=>some (List.map Fg j,0)) k (List.map AJ out) (i:Int)=some (Vs k t out)
 |0,t,i,out,_,_,h,_=>by omega
 |k+1,[],i,out,h,hi,hk,ho=>by have hl:=Nq h hi;rw[E9,aj (by grind),MJ];rfl
 |k+1,c::t,i,out,h,hi,hk,ho=>by
  have hl:=Nq h hi;simp only[ae]at hl hk;rw[E9,an (by grind),show idx l (i:Int)=some c from O8 (j:=0) h rfl,aa,AB,TU];have hd:l.drop (i+1)=t:=by rw[<-aT,h];rfl
  by_cases hc:c=37;·subst hc;rw[aC rfl,an rfl,Acu h fM,aa,Vs,an rfl];cases he:OI t with|none=>rfl|some x=>have:=WP he;simp only[AB5,az];rw[AP (Pz (by grind)),show wr .i64 (wr .i64 ((i:Int)+2)+1)=((i+3:Nat):Int) by grind[Ak],show List.map AJ out++[AJ x]=List.map AJ (out++[x]) by simp];exact AAb hb k _ (i+3) (out++[x]) (by grind[List.drop_drop]) fM (by grind) (by grind)
  ·rw[aF hc,aj fO,Vs,aj hc];dsimp only;rw[AP (Pz (by grind)),show wr .i64 ((i:Int)+1)=((i+1:Nat):Int) by grind[Ak],show List.map AJ out++[AJ c]=List.map AJ (out++[c]) by simp];exact AAb hb k t (i+1) (out++[c]) hd fM fM (by grind)
end
def Ah (N:Nat) (s:B8):B8×Int:=if s.length>16384 then([],5)else Vs N s []
def SI (s:B8) (hN:20000<=N):Fx N s=some (Ah N s):=by
 unfold Fx Ah;by_cases h:s.length>16384;·rw[an (by grind),an h]
 ·rw[aj (by grind),aj h,AB];exact AAN (l:=s) fM N s 0 [] rfl fM fM fN
def Py (s:B8) (hN:20000<=N):G5 N s=some (Ah N s):=by
 unfold G5 Ah;by_cases h:s.length>16384;·rw[an (by grind),an h]
 ·rw[aj (by grind),aj h,AB];exact AAb (l:=s) fM N s 0 [] rfl fM fM fN
end
section
variable{N:Nat}
def U5 (n:Nat):UInt8:=([48,49,50,51,52,53,54,55,56,57,65,66,67,68,69,70]:B8).getD n 0
def OO (c:UInt8):B8:=[37,U5 (c.toNat / 16),U5 (c.toNat % 16)]
def WA (c:UInt8):Ji N (AJ c)=some (OO c):=by have:=Bl (f:=λn=>Ji N (n:Int)) (g:=λn=>some ([37,U5 (n / 16),U5 (n % 16)]:B8)) (by kernel_rfl) c;exact this
def VP (also:B8):Nat->B8->B8->B8×Int|0,_,_=>([],2)|_+1,[],out=>(out,0)|k+1,c::t,out=>if c=37 then(match OI t with|some x=>VP also k (t.drop 2) (out++(if Eh x=true then [x]else OO x))|none=>([],2))else if(Eh c||also.contains c)=true then VP also k t (out++[c])else([],1)
section
variable{l also:B8}
def WZ (hb:l.length<=100000) (ha:also.length<=1000): ∀(k:Nat) (t:B8) (i:Nat) (out:B8),l.drop i=t->i<=l.length->t.length<k->out.length<=3 * i->Cs N l also (λj=>some (List.map Fg j,0)) k (List.map AJ out) (i:Int)=some (VP also k t out)
 |0,t,i,out,_,_,h,_=>by omega
 |k+1,[],i,out,h,hi,hk,ho=>by have hl:=Nq h hi;rw[Cs,aj (by grind),MJ];rfl
 | k+1,c::t,i,out,h,hi,hk,ho=>by
  have hl:=Nq h hi;simp only[ae]at hl hk;rw[Cs,an (by grind),AB,show idx l (i:Int)=some c from O8 (j:=0) h rfl,aa,bne,TU,VP];have hd:l.drop (i+1)=t:=by rw[<-aT,h];rfl
  by_cases hc:c=37
  ·subst hc;rw[aC rfl,aj fO,an rfl,Acu h fM,aa];cases he:OI t with
   |none=>rfl
   |some x=>
    have:=WP he;simp only[AB5,az];rw[AB,Zo,aa];have e3:wr .i64 (wr .i64 ((i:Int)+2)+1)=((i+3:Nat):Int):=by grind[Ak]
    cases hu:Eh x;·rw[aj fO,WA,aa,AP (Pz (by grind[OO]))];dsimp only;rw[e3,show List.map AJ out++List.map AJ (OO x)=List.map AJ (out++OO x) by simp];exact WZ hb ha k _ (i+3) (out++OO x) (by grind[List.drop_drop]) fM (by grind) (by grind[OO])
    ·rw[an rfl,AP (Pz (by grind))];dsimp only;rw[e3,show List.map AJ out++[AJ x]=List.map AJ (out++[x]) by simp];exact WZ hb ha k _ (i+3) (out++[x]) (by grind[List.drop_drop]) fM (by grind) (by grind)
  ·rw[aF hc,an fO,aj hc,AB,Zo,aa];have step:grd (Af ((List.map AJ out).length+1) 1) ((λj6:List Int×Int=>Cs N l also (λj=>some (List.map Fg j,0)) k j6.1 (wr .i64 (j6.2+1))) (List.map AJ out++[AJ c],(i:Int)))=some (VP also k t (out++[c])):=by rw[AP (Pz (by grind))];dsimp only;rw[show wr .i64 ((i:Int)+1)=((i+1:Nat):Int) by grind[Ak],show List.map AJ out++[AJ c]=List.map AJ (out++[c]) by simp];exact WZ hb ha k t (i+1) (out++[c]) hd fM fM (by grind)
   cases hu:Eh c;·rw[aj fO,YS c also ha,aa,bk];grind
   simp_all
end
def De (N:Nat) (s also:B8):B8×Int:=if s.length>16384 then([],5)else VP also N s []
def QW (s also:B8) (hN:20000<=N) (ha:also.length<=1000):Dm N s also=some (De N s also):=by
 unfold Dm De;by_cases h:s.length>16384;·rw[an (by grind),an h]
 ·rw[aj (by grind),aj h,AB];exact WZ (l:=s) fM ha N s 0 [] rfl fM fM fN
def M3 (keep:B8) (c:UInt8):B8:=if(Eh c||(!decide (c=37)&&keep.contains c))=true then [c]else OO c
def ADd (keep:B8) (c:UInt8):(M3 keep c).length<=3:=by unfold M3;split<;>simp[OO]
def Xf{keep:B8} (ha:keep.length<=1000) (l:B8) (hb:l.length<=1000000): ∀(t pre out:B8),l=pre++t->out.length<=3 * pre.length->Dh N l keep (λj=>some j) t (pre.length:Int) out=some (out++t.flatMap (M3 keep))
 |[],pre,out,h,ho=>by rw[Dh];simp
 | c::t,pre,out,h,ho=>by
  have hl:=br List.length h;simp only[ag,ae]at hl;have hlen:=ADd keep c;have nxt: ∀x:B8,x=M3 keep c->Dh N l keep (λj=>some j) t ((pre.length:Int)+1) (out++x)=some (out++(c::t).flatMap (M3 keep)):=λx AX=>by have:=Xf ha l hb t (pre++[c]) (out++x) (by rw[h];simp) (by rw[AX];simp only[ag,ae,aq];omega);rw[aR,<-aJ,<-AX,<-this];congr 1;simp
  have hsub:sub l (pre.length:Int) ((pre.length:Int)+1)=some [c]:=by rw[show(pre.length:Int)+1=((pre.length+1:Nat):Int) by omega,Av l _ _ fM fM,h,c7];simp
  rw[Dh,AB,AB,Zo,aa];have yes:(Eh c||(!decide (c=37)&&keep.contains c))=true->Option.bind (sub l (pre.length:Int) ((pre.length:Int)+1)) (λx18=>grd (AL (out.length+x18.length)) (Dh N l keep (λj=>some j) t ((pre.length:Int)+1) (out++x18)))=some (out++(c::t).flatMap (M3 keep)):=λhy=>by rw[hsub,aa,Ap fP];exact nxt [c] (by unfold M3;rw[an hy])
  have no:(Eh c||(!decide (c=37)&&keep.contains c))=false->Option.bind (Ji N (AJ c)) (λy19=>grd (AL (out.length+y19.length)) (Dh N l keep (λj=>some j) t ((pre.length:Int)+1) (out++y19)))=some (out++(c::t).flatMap (M3 keep)):=λhy=>by rw[WA,aa,Ap (by simp[OO];omega)];exact nxt (OO c) (by unfold M3;rw[hy,aj fO])
  cases hu:Eh c
  ·rw[aj fO,bne,TU];rw[hu,bk]at yes no;by_cases hc:c=37;·rw[aC hc]at yes no⊢;simpa using no fN
   ·rw[aF hc]at yes no⊢;rw[an fO,YS c keep ha,aa];cases hk:keep.contains c;·rw[hk]at no;simpa using no rfl
    ·rw[hk]at yes;simpa using yes rfl
  ·rw[an rfl];rw[hu]at yes;simpa using yes rfl
def Vi (s keep:B8) (ha:keep.length<=1000) (hb:s.length<=1000000):Mx N s keep=some (s.flatMap (M3 keep)):=by unfold Mx;rw[AB,Ap fM];simpa using Xf (N:=N) ha s hb s [] [] rfl fN
end
section
variable{N:Nat}
def IV (c:UInt8): ∀l:B8,decide (Go.Lib.indexByte l c>=0)=l.contains c
 |[]=>rfl
 | b::l=>by
  have ih:=IV c l;have hge:=Go.Lib.indexByte_ge l c;unfold Go.Lib.indexByte;rw[bA];by_cases h:b=c;·grind
  ·rw[aj (by grind),show(c==b)=false by grind,bk,<-ih];by_cases h1:Go.Lib.indexByte l c= -1;·grind
   ·rw[aj (by grind)];congr 1;simp only[eq_iff_iff];constructor<;>intro<;>omega
def V7 (out:B8) (c:UInt8) (ho:out.length<=900000000):GA N (List.map AJ out) (AJ c)=some (List.map AJ (out++OO c)):=by have h1:=Bl (f:=λn=>idx ([48,49,50,51,52,53,54,55,56,57,65,66,67,68,69,70]:B8) (AFX .u8 (n:Int) 4)) (g:=λn=>some (U5 (n / 16))) (by kernel_rfl) c;have h2:=Bl (f:=λn=>idx ([48,49,50,51,52,53,54,55,56,57,65,66,67,68,69,70]:B8) (Q3 .u8 (n:Int) 15)) (g:=λn=>some (U5 (n % 16))) (by kernel_rfl) c;unfold GA;rw[show AJ c=(c.toNat:Int)from rfl,h1,aa,h2,aa,AP (Pz (by grind))];simp[OO,AJ]
theorem AG0{keep:B8} (k2:List Int->Option B8): ∀(t out:B8),out.length+3 * t.length<=900000000->Dv N keep k2 t (List.map AJ out)=k2 (List.map AJ (out++t.flatMap (M3 keep)))
 |[],out,ho=>by rw[Dv];simp
 | c::t,out,ho=>by
  simp only[ae]at ho;have hlen:=ADd keep c;have nxt: ∀x:B8,x=M3 keep c->Dv N keep k2 t (List.map AJ (out++x))=k2 (List.map AJ (out++(c::t).flatMap (M3 keep))):=λx AX=>by rw[AG0 k2 t (out++x) (by rw[AX,ag];omega),aR,<-aJ,<-AX]
  have e1:List.map AJ out++[AJ c]=List.map AJ (out++[c]):=fN;rw[Dv];dsimp only[AB];rw[ZB,aa,V7 out c fM,aa,e1,AP (Pz fP),bne,TU,KP,aa,IV];have hE:M3 keep c=if(Eh c||(!decide (c=37)&&keep.contains c))=true then [c]else OO c:=rfl;cases hu:Eh c
  ·by_cases hc:c=37;·simp only[aC hc,bo,az,ap,aA];exact nxt (OO c) (by rw[hE,hu,aC hc];rfl)
   ·cases hk:keep.contains c;·simp only[aF hc,ba,az,ap,aA];exact nxt (OO c) (by rw[hE,hu,aF hc,hk];rfl)
    ·simp only[aF hc,ba,az,ap,aA];exact nxt [c] (by rw[hE,hu,aF hc,hk];rfl)
  ·simp only[az];exact nxt [c] (by rw[hE,hu];rfl)
def YQ (s keep:B8) (hb:s.length<=1000000):I6 N s keep=some (s.flatMap (M3 keep)):=by unfold I6;rw[AB,Ap fM];have:=AG0 (N:=N) (keep:=keep) (λj1=>some (List.map Fg j1)) s [] fP;rw[MJ]at this;exact this
section
variable{l also:B8}
def WL (hb:l.length<=100000): ∀(k:Nat) (t:B8) (i:Nat) (out:B8),l.drop i=t->i<=l.length->t.length<k->out.length<=i->CR N l also (λj=>some (List.map Fg j,0)) k (i:Int) (List.map AJ out)=some (VP also k t out)
 |0,t,i,out,_,_,h,_=>by omega
 |k+1,[],i,out,h,hi,hk,ho=>by have hl:=Nq h hi;rw[CR,aj (by grind),MJ];rfl
 | k+1,c::t,i,out,h,hi,hk,ho=>by
  have hl:=Nq h hi;simp only[ae]at hl hk;rw[CR,an (by grind)];dsimp only[AB];rw[show idx l (i:Int)=some c from O8 (j:=0) h rfl,aa,TU,VP];have hd:l.drop (i+1)=t:=by rw[<-aT,h];rfl
  by_cases hc:c=37
  ·rw[aC hc,an rfl,an hc,Ac2 h fM,aa];cases he:OI t with
   |none=>rfl
   |some x=>
    have:=WP he;simp only[AB5,az];rw[ZB,aa];have e3:wr .i64 (wr .i64 ((i:Int)+2)+1)=((i+3:Nat):Int):=by grind[Ak]
    cases hu:Eh x;·rw[aj fO,V7 out x fM,aa,e3];exact WL hb k _ (i+3) (out++OO x) (by grind[List.drop_drop]) fM (by grind) (by grind[OO])
    ·rw[an rfl,AP (Pz (by grind)),e3,show List.map AJ out++[AJ x]=List.map AJ (out++[x]) by simp];exact WL hb k _ (i+3) (out++[x]) (by grind[List.drop_drop]) fM (by grind) (by grind)
  ·rw[aF hc,aj fO,aj hc,ZB,aa,KP,aa,IV];have step:grd (Af ((List.map AJ out).length+1) 1) (CR N l also (λj=>some (List.map Fg j,0)) k (wr .i64 ((i:Int)+1)) (List.map AJ out++[AJ c]))=some (VP also k t (out++[c])):=by rw[AP (Pz (by grind)),show wr .i64 ((i:Int)+1)=((i+1:Nat):Int) by grind[Ak],show List.map AJ out++[AJ c]=List.map AJ (out++[c]) by simp];exact WL hb k t (i+1) (out++[c]) hd fM fM (by grind)
   cases hu:Eh c;·rw[aj fO,bk];grind
   simp_all
end
def Nf (s also:B8) (hN:20000<=N):CY N s also=some (De N s also):=by
 unfold CY De;by_cases h:s.length>16384;·rw[an (by grind),an h]
 ·rw[aj (by grind),aj h,AB];exact WL (l:=s) fM N s 0 [] rfl fM fM fN
end
section
variable{N:Nat}
def Mw{l:B8}{i:Nat}{c:UInt8} (h:l[i]?=some c) (hc:c.toNat<128):Df l i=(c.toNat,1):=by
 have hi:i<l.length:=by grind
 have e:l[i]=c:=by grind
 unfold Df;have hs:i<(⟨l.toArray⟩:ByteArray).size:=hi;have AX:((⟨l.toArray⟩:ByteArray)[i]'hs)=c:=e;grind[decode_ascii]
def ALS{set:B8}{c:UInt8} (hc:c.toNat<128):CX N set ((c.toNat:Nat):Int)=some (Go.Lib.indexByte set c):=by
 unfold CX;dsimp only[AB];have e:wr .u8 ((c.toNat:Nat):Int)=AJ c:=by rw[AWN fM];rfl
 rw[an fN,an (by grind),e,KP];rfl
def AAU (set l:B8):Int:=if(l.any set.contains)=true then(((l.takeWhile λc=>!set.contains c).length:Nat):Int)else-1
def AG7{as:List Bool}{set:B8} (hs:AWc as set) (k17:List Bool->Option Int): ∀(l:B8) (i:Int),Dr N k17 l i as=if(l.any set.contains)=true then some (i+(((l.takeWhile λc=>!set.contains c).length:Nat):Int))else k17 as
 |[],i=>by grind[Dr]
 |c::l,i=>by
  rw[Dr,AU9 hs,aa];dsimp only;cases h:set.contains c;·rw[aj fO,AG7 hs k17 l (i+1)];simp only[bN,h,bk,bg,ba,az,ae];grind
  simp_all
def AHC{set l:B8} (k24:Unit->Option Int): ∀(t pre:B8) (k:Nat),l=pre++t->t.length<k->(∀c,c∈(t.takeWhile λc=>!set.contains c)->c.toNat<128)->(∀c,c∈set->c.toNat<128)->Bo N l set k24 k pre.length=if(t.any set.contains)=true then some (((pre.length+(t.takeWhile λc=>!set.contains c).length:Nat):Int))else k24 ()
 |_,_,0,_,h,_,_=>by omega
 |[],pre,k+1,h,_,_,_=>by simp_all[Bo]
 |c::t,pre,k+1,h,hk,ha,hset=>by
  simp only[ae]at hk;have hget:l[pre.length]?=some c:=by grind
  have hc:c.toNat<128:=by grind[AX,List.takeWhile_cons]
  rw[Bo,an (by grind),Mw hget hc];dsimp only;rw[ALS hc,aa,IV];cases AX:set.contains c;·rw[aj fO];have:=AHC (l:=l) (set:=set) k24 t (pre++[c]) k (by grind) fM (λx hm=>ha x (by simp_all)) hset;rw[ag,bu]at this;rw[this];simp only[bN,AX,bk,bg,ba,az,ae];grind
  simp_all
theorem Ws{set l:B8} (h2:2<=set.length) (hs:set.length<=1000) (hset: ∀c,c∈set->c.toNat<128) (ha:l.length<=8->∀c,c∈(l.takeWhile λc=>!set.contains c)->c.toNat<128) (hb:l.length<=1000000) (hN:20<=N):strings_IndexAny N l set=some (AAU set l):=by
 unfold strings_IndexAny AAU;have hne:set≠ []:=λe=>by grind
 have hsh:strings_shouldUseASCIISet N (l.length:Int)=some (decide ((l.length:Int)>8)):=rfl;obtain⟨as,e1,e2⟩:=Amt (N:=N) set hset hs;rw[aj (by grind),aj (by grind)];dsimp only[AB];rw[hsh,aa];by_cases h:l.length>8;·rw[an (by grind),e1,aa,AP ADj];dsimp only;rw[AP e2.1,an rfl,Ap fM,AG7 e2];split<;>simp
 ·rw[aj (by grind),show(0:Nat)=([]:B8).length from rfl,AHC (l:=l) _ l [] N rfl fM (ha fM) hset];split<;>simp
def AaI{set l:B8} (h2:2<=set.length) (hs:set.length<=1000) (hset: ∀c,c∈set->c.toNat<128) (ha:l.length<=8->∀c,c∈(l.takeWhile λc=>!set.contains c)->c.toNat<128) (hb:l.length<=1000000) (hN:20<=N):strings_ContainsAny N l set=some (l.any set.contains):=by unfold strings_ContainsAny;rw[Ws h2 hs hset ha hb hN,aa];unfold AAU;cases l.any set.contains<;>simp
def AzV (l:B8) (i:Nat):(⟨l.toArray⟩:ByteArray).get! i=l.getD i 0:=by change (l.toArray[i]!)=_;rw[List.getElem!_toArray,List.getElem!_eq_getElem?_getD,List.getD_eq_getElem?_getD];rfl
theorem AUd{l:B8}{i:Nat}{c:UInt8} (h:l[i]?=some c) (hc:128<=c.toNat):∃r w,Df l i=(r,w)/\128<=r/\r<=1114111/\(Go.Utf8.valid r=true)/\1<=w/\i+w<=l.length/\∀j,j<w->∀d,l[i+j]?=some d->128<=d.toNat:=by
 have hi:i<l.length:=by grind
 have h0:l.getD i 0=c:=by grind
 have one: ∀j,j<1->∀d,l[i+j]?=some d->128<=d.toNat:=λj hj d hd=>by simp_all
 have bad: ∃r w,(Go.Utf8.runeError,1)=(r,w)/\128<=r/\r<=1114111/\(Go.Utf8.valid r=true)/\1<=w/\i+w<=l.length/\∀j,j<w->∀d,l[i+j]?=some d->128<=d.toNat:=⟨_,_,rfl,fO,fO,fO,av 1,fM,one⟩;have hsz:(⟨l.toArray⟩:ByteArray).size=l.length:=rfl;unfold Df Go.Utf8.decode;simp only[AzV,hsz,bW,h0];have hb:=UInt8.toNat_lt c;rw[aj fM];split
 ·rename_i h2;simp only[aw,be,au]at h2;split
  ·rename_i h3;refine⟨_,_,rfl,fM,fM,?_,fM,fM,λj hj=>?_⟩;·unfold Go.Utf8.valid;simp only[cf,aw,au];omega
   ·rcases (by omega:j=0\/j=1)with rfl|rfl;·grind
    grind
  omega
 split
 ·rename_i h2;simp only[aw,be,au]at h2;split
  ·rename_i h3;simp only[aw,ge_iff_le,au]at h3;refine⟨_,_,rfl,fM,fM,h3.2,fM,fM,λj hj=>?_⟩;rcases (by omega:j=0\/j=1\/j=2)with rfl|rfl|rfl;·grind
   ·grind
   grind
  omega
 split
 ·rename_i h2;simp only[aw,be,au]at h2;split
  ·rename_i h3;simp only[aw,ge_iff_le,au]at h3;have hv:=h3.2;unfold Go.Utf8.valid at hv;simp only[cf,aw,au]at hv;refine⟨_,_,rfl,fM,fM,h3.2,fM,fM,λj hj=>?_⟩;rcases (by omega:j=0\/j=1\/j=2\/j=3)with rfl|rfl|rfl|rfl;·grind
   ·grind
   ·grind
   grind
  omega
 omega
def ACp{l:B8}{set:B8}: ∀(w i:Nat),i+w<=l.length->(∀j,j<w->∀d,l[i+j]?=some d->set.contains d=false)->(l.drop i).any set.contains=(l.drop (i+w)).any set.contains/\((l.drop i).takeWhile λc=>!set.contains c).length=w+((l.drop (i+w)).takeWhile λc=>!set.contains c).length|0,i,_,_=>by simp|w+1,i,h,hs=>by have hi:i<l.length:=fM;have h0:=hs 0 fM l[i] fN;obtain⟨e1,e2⟩:=ACp (l:=l) (set:=set) w (i+1) fM λj hj d hd=>hs (j+1) fM d (by grind);rw[bQ hi,bN,h0,bk,e1,bg,h0];simp only[ba,az,ae];rw[e2,show i+1+w=i+(w+1) by omega];exact⟨rfl,fM⟩
def AZf{r:Nat} (hv:Go.Utf8.valid r=true):Go.Utf8.encode (r:Int)=(if r<128 then⟨#[UInt8.ofNat r]⟩else if r<2048 then⟨#[UInt8.ofNat (0xC0+r / 64),UInt8.ofNat (0x80+r % 64)]⟩else if r<65536 then⟨#[UInt8.ofNat (0xE0+r / 4096),UInt8.ofNat (0x80+r / 64 % 64),UInt8.ofNat (0x80+r % 64)]⟩else⟨#[UInt8.ofNat (0xF0+r / 262144),UInt8.ofNat (0x80+r / 4096 % 64),UInt8.ofNat (0x80+r / 64 % 64),UInt8.ofNat (0x80+r % 64)]⟩:ByteArray):=by
 have e:(if Go.Utf8.valid r=true then(r:Int).toNat else Go.Utf8.runeError)=r:=by simp_all
 simp_all[Go.Utf8.encode]
def AqW{n:Nat} (h:n<64):128<=(UInt8.ofNat (0x80+n)).toNat:=by grind[UInt8.toNat_ofNat']
theorem enc2{r:Nat} (hv:Go.Utf8.valid r=true) (h1: ¬r<128) (h2:r<2048): ∃a b,Go.Utf8.encode (r:Int)=⟨#[a,b]⟩/\128<=b.toNat:=by rw[AZf hv,aj h1,an h2];exact⟨_,_,rfl,AqW (fH _ fM)⟩
theorem enc3{r:Nat} (hv:Go.Utf8.valid r=true) (h1: ¬r<128) (h2: ¬r<2048) (h3:r<65536): ∃a b c,Go.Utf8.encode (r:Int)=⟨#[a,b,c]⟩/\128<=c.toNat:=by rw[AZf hv,aj h1,aj h2,an h3];exact⟨_,_,_,rfl,AqW (fH _ fM)⟩
theorem enc4{r:Nat} (hv:Go.Utf8.valid r=true) (h1: ¬r<128) (h2: ¬r<2048) (h3: ¬r<65536): ∃a b c d,Go.Utf8.encode (r:Int)=⟨#[a,b,c,d]⟩/\128<=d.toNat:=by rw[AZf hv,aj h1,aj h2,aj h3];exact⟨_,_,_,_,rfl,AqW (fH _ fM)⟩
theorem A2B{a b:UInt8}:(⟨#[a,b]⟩:ByteArray).data.toList=[a,b]:=rfl
theorem A1c{a b c:UInt8}:(⟨#[a,b,c]⟩:ByteArray).data.toList=[a,b,c]:=rfl
theorem A1Q{a b c d:UInt8}:(⟨#[a,b,c,d]⟩:ByteArray).data.toList=[a,b,c,d]:=rfl
def HiT (u:B8):Prop:= ∃k c,u.length=k+2/\k<=2/\u[k+1]?=some c/\128<=c.toNat
theorem A28{a b:UInt8} (h:128<=b.toNat):HiT [a,b]:=⟨0,b,rfl,fM,rfl,h⟩
theorem A3p{a b c:UInt8} (h:128<=c.toNat):HiT [a,b,c]:=⟨1,c,rfl,fM,rfl,h⟩
theorem A32{a b c d:UInt8} (h:128<=d.toNat):HiT [a,b,c,d]:=⟨2,d,rfl,fM,rfl,h⟩
def A3B{r:Nat} (hv:Go.Utf8.valid r=true) (h1: ¬r<128) (h:r<2048):HiT (Go.Utf8.encode (r:Int)).data.toList:=by grind[enc2,A2B,A28]
def A30{r:Nat} (hv:Go.Utf8.valid r=true) (h1: ¬r<128) (h: ¬r<2048) (h':r<65536):HiT (Go.Utf8.encode (r:Int)).data.toList:=by grind[enc3,A1c,A3p]
def A3Q{r:Nat} (hv:Go.Utf8.valid r=true) (h1: ¬r<128) (h: ¬r<2048) (h': ¬r<65536):HiT (Go.Utf8.encode (r:Int)).data.toList:=by grind[enc4,A1Q,A32]
def hiu{r:Nat} (hv:Go.Utf8.valid r=true) (h1: ¬r<128):HiT (Go.Utf8.encode (r:Int)).data.toList:=(Classical.em (r<2048)).elim (λh=>A3B hv h1 h) λh=>(Classical.em (r<65536)).elim (λh'=>A30 hv h1 h h') λh'=>A3Q hv h1 h h'
def AiL (q:Int):JL q=(Go.Utf8.encode q).data.toList:=by rw[JL]
def AcJ{r:Nat} (hv:Go.Utf8.valid r=true) (h1: ¬r<128):HiT (JL (r:Int)):=(AiL r).symm▸hiu hv h1
theorem Azc{q:Int} (h:0<=q) (k:q<55296\/(57343<q/\q<=1114111)):Ck N q=some true:=by
 unfold Ck;have h0:decide (0<=q)=true:=aC h;by_cases h':q<55296;·have h1:=aC h';simp only[AB,h0,h1,az]
 ·have h1:=aF h';have h2:decide (57343<q)=true:=aC fM;have h3:decide (q<=1114111)=true:=aC fM;simp only[AB,h0,h1,h2,h3,az,ap,aA]
def ATZ{r:Nat} (hv:Go.Utf8.valid r=true):Ck N r=some true:=by unfold Go.Utf8.valid at hv;simp only[cf,aw,au]at hv;grind[Azc]
def Asx{q:Int}{u:B8} (hu:JL q=u){k15:Unit->Option Int} (n s9:Nat) (w:wr .i64 ((u.length:Int)-1)=(s9:Int)){c x:UInt8} (AX:([58,47]:B8)[s9]?=some x) (hc:u[s9]?=some c) (hne:(AJ x !=AJ c)=true){t:B8} (ht:sub ([58,47]:B8) (wr .i64 ((s9:Int)+1)) ((([58,47]:B8).length:Nat):Int)=some t) (hb:strings_IndexByte N t (AJ c)=some (-1)) (hlt:s9<2):BC N [58,47] q k15 (n+1) (s9:Int)=some (-1):=by
 have e9:decide ((s9:Int)<((([58,47]:B8).length:Nat):Int))=true:=by simp only[au,ae,aq];omega
 rw[BC,an e9];simp only[AB];rw[hu,w,D7,D7,AX,aa,hc,aa,an hne,ht,aa,hb,aa];rfl
def ArC{r:Nat}{k15:Unit->Option Int} (hr:128<=r) (hv:Go.Utf8.valid r=true) (hk:k15 ()=some (-1)) (n:Nat):BC N [58,47] (r:Int) k15 (n+1) (wr .i64 (((JL (r:Int)).length:Int)-1))=some (-1):=by
 obtain⟨k,c,e1,e2,e3,e4⟩:=AcJ hv fM;have w:wr .i64 (((JL (r:Int)).length:Int)-1)=((k+1:Nat):Int):=by grind[Ak]
 have hc:c≠47:=λe=>by simp_all
 generalize (r:Int)=q at *;rw[w];rcases (by omega:k=0\/¬k=0)with h0|h0;·subst h0;exact Asx (t:=[]) rfl n 1 w rfl e3 (by grind[bne,AoK]) rfl (by rw[KP];rfl) fM
 ·rw[BC,aj (by simp only[au,ae,aq];omega),hk]
def irh{r:Nat} (h0:decide (0<=(r:Int))=true) (h1:decide ((r:Int)<128)=false):CX N [58,47] (r:Int)=if((r:Int)==65533)=true then BQ N [58,47] (λ_=>some (-1)) N 0 else(Ck N r).bind λy12=>if y12=true then BC N [58,47] r (λ_=>some (-1)) N (wr .i64 (((JL r).length:Int)-1))else some (-1):=by generalize (r:Int)=q at *;unfold CX;dsimp only[AB];rw[an h0,h1,aj fO]
def ArI{r:Nat} (hr:128<=r) (hv:Go.Utf8.valid r=true) (hN:20<=N):CX N [58,47] (r:Int)=some (-1):=by
 obtain⟨n,rfl⟩: ∃n,N=n+3:=⟨N-3,fM⟩;rw[irh (aC fM) (aF fM)];by_cases h:((r:Int)==65533)=true;·have d0:Df ([58,47]:B8) 0=(58,1):=Mw (c:=58) rfl fO;have d1:Df ([58,47]:B8) 1=(47,1):=Mw (c:=47) rfl fO;rw[an h,BQ,an fO,d0,aj fO];rw[BQ,an fO,show(0:Nat)+((58:Nat),(1:Nat)).2=1 from rfl,d1,aj fO];rw[BQ,aj fO]
 ·rw[aj h,ATZ hv,aa,an rfl];exact ArC hr hv rfl _
def AAB{l:B8} (hN:20<=N) (k24:Unit->Option Int): ∀(k i:Nat),i<=l.length->l.length-i<k->Bo N l [58,47] k24 k i=if((l.drop i).any ([58,47]:B8).contains)=true then some (((i+((l.drop i).takeWhile λc=>!([58,47]:B8).contains c).length:Nat):Int))else k24 ()
 |0,i,_,h=>by omega
 | k+1,i,hi,hk=>by
  rw[Bo];by_cases he:i<l.length;case neg=>rw[aj (by grind),bL fM];rfl
  rw[an (by grind)];have hget:l[i]?=some l[i]:=aS he;by_cases hc:l[i].toNat<128
  ·rw[Mw hget hc];dsimp only;rw[ALS hc,aa,IV,bQ he,bN,bg];cases AX:([58,47]:B8).contains l[i];·rw[aj fO,AAB hN k24 k (i+1) fM fM];simp only[bk,ba,az,ae];grind
   simp
  ·obtain⟨r,w,e1,e2,e3,e4,e5,e6,e7⟩:=AUd hget fM;rw[e1];dsimp only;rw[ArI e2 e4 hN,aa,aj fO,AAB hN k24 k (i+w) fM fM];obtain⟨s1,s2⟩:=ACp (set:=[58,47]) w i e6 λj hj d hd=>by
    have:=e7 j hj d hd;have h1:d≠58:=λe=>by simp_all
    have h2:d≠47:=λe=>by simp_all
    grind
   grind
theorem AhX{l:B8} (hb:l.length<=1000000) (hN:20<=N):strings_IndexAny N l [58,47]=some (AAU [58,47] l):=by
 by_cases h:l.length>8;·exact Ws fO fO fO (λh'=>absurd h' fM) hb hN
 ·have hsh:strings_shouldUseASCIISet N (l.length:Int)=some (decide ((l.length:Int)>8)):=rfl;unfold strings_IndexAny AAU;rw[aj fO,aj fO];dsimp only[AB];rw[hsh,aa,aj (by grind),AAB hN _ N 0 fM fM,aN];split<;>simp
def Aln{q:Int}{u:B8} (hu:JL q=u){k15:Unit->Option Int} (n s9:Nat) (w:wr .i64 ((u.length:Int)-1)=(s9:Int)){c x:UInt8} (AX:([13,10]:B8)[s9]?=some x) (hc:u[s9]?=some c) (hne:(AJ x !=AJ c)=true){t:B8} (ht:sub ([13,10]:B8) (wr .i64 ((s9:Int)+1)) ((([13,10]:B8).length:Nat):Int)=some t) (hb:strings_IndexByte N t (AJ c)=some (-1)) (hlt:s9<2):BC N [13,10] q k15 (n+1) (s9:Int)=some (-1):=by
 have e9:decide ((s9:Int)<((([13,10]:B8).length:Nat):Int))=true:=by simp only[au,ae,aq];omega
 rw[BC,an e9];simp only[AB];rw[hu,w,D7,D7,AX,aa,hc,aa,an hne,ht,aa,hb,aa];rfl
def Aio{r:Nat}{k15:Unit->Option Int} (hr:128<=r) (hv:Go.Utf8.valid r=true) (hk:k15 ()=some (-1)) (n:Nat):BC N [13,10] (r:Int) k15 (n+1) (wr .i64 (((JL (r:Int)).length:Int)-1))=some (-1):=by
 obtain⟨k,c,e1,e2,e3,e4⟩:=AcJ hv fM;have w:wr .i64 (((JL (r:Int)).length:Int)-1)=((k+1:Nat):Int):=by grind[Ak]
 have hc:c≠10:=λe=>by simp_all
 generalize (r:Int)=q at *;rw[w];rcases (by omega:k=0\/¬k=0)with h0|h0;·subst h0;exact Aln (t:=[]) rfl n 1 w rfl e3 (by grind[bne,AoK]) rfl (by rw[KP];rfl) fM
 ·rw[BC,aj (by simp only[au,ae,aq];omega),hk]
def A3w{r:Nat} (h0:decide (0<=(r:Int))=true) (h1:decide ((r:Int)<128)=false):CX N [13,10] (r:Int)=if((r:Int)==65533)=true then BQ N [13,10] (λ_=>some (-1)) N 0 else(Ck N r).bind λy12=>if y12=true then BC N [13,10] r (λ_=>some (-1)) N (wr .i64 (((JL r).length:Int)-1))else some (-1):=by generalize (r:Int)=q at *;unfold CX;dsimp only[AB];rw[an h0,h1,aj fO]
def Ahw{r:Nat} (hr:128<=r) (hv:Go.Utf8.valid r=true) (hN:20<=N):CX N [13,10] (r:Int)=some (-1):=by
 obtain⟨n,rfl⟩: ∃n,N=n+3:=⟨N-3,fM⟩;rw[A3w (aC fM) (aF fM)];by_cases h:((r:Int)==65533)=true;·have d0:Df ([13,10]:B8) 0=(13,1):=Mw (c:=13) rfl fO;have d1:Df ([13,10]:B8) 1=(10,1):=Mw (c:=10) rfl fO;rw[an h,BQ,an fO,d0,aj fO];rw[BQ,an fO,show(0:Nat)+((13:Nat),(1:Nat)).2=1 from rfl,d1,aj fO];rw[BQ,aj fO]
 ·rw[aj h,ATZ hv,aa,an rfl];exact Aio hr hv rfl _
def YE{l:B8} (hN:20<=N) (k24:Unit->Option Int): ∀(k i:Nat),i<=l.length->l.length-i<k->Bo N l [13,10] k24 k i=if((l.drop i).any ([13,10]:B8).contains)=true then some (((i+((l.drop i).takeWhile λc=>!([13,10]:B8).contains c).length:Nat):Int))else k24 ()
 |0,i,_,h=>by omega
 | k+1,i,hi,hk=>by
  rw[Bo];by_cases he:i<l.length;case neg=>rw[aj (by grind),bL fM];rfl
  rw[an (by grind)];have hget:l[i]?=some l[i]:=aS he;by_cases hc:l[i].toNat<128
  ·rw[Mw hget hc];dsimp only;rw[ALS hc,aa,IV,bQ he,bN,bg];cases AX:([13,10]:B8).contains l[i];·rw[aj fO,YE hN k24 k (i+1) fM fM];simp only[bk,ba,az,ae];grind
   simp
  ·obtain⟨r,w,e1,e2,e3,e4,e5,e6,e7⟩:=AUd hget fM;rw[e1];dsimp only;rw[Ahw e2 e4 hN,aa,aj fO,YE hN k24 k (i+w) fM fM];obtain⟨s1,s2⟩:=ACp (set:=[13,10]) w i e6 λj hj d hd=>by
    have:=e7 j hj d hd;have h1:d≠13:=λe=>by simp_all
    have h2:d≠10:=λe=>by simp_all
    grind
   grind
theorem AYG{l:B8} (hb:l.length<=1000000) (hN:20<=N):strings_IndexAny N l [13,10]=some (AAU [13,10] l):=by
 by_cases h:l.length>8;·exact Ws fO fO fO (λh'=>absurd h' fM) hb hN
 ·have hsh:strings_shouldUseASCIISet N (l.length:Int)=some (decide ((l.length:Int)>8)):=rfl;unfold strings_IndexAny AAU;rw[aj fO,aj fO];dsimp only[AB];rw[hsh,aa,aj (by grind),YE hN _ N 0 fM fM,aN];split<;>simp
end
section
variable{N:Nat}
def ABN (set:B8) (hs:set.length<=1000) (k2:Unit->Option Int) (n:Int) (h:k2 ()=some n): ∀(l:B8) (i:Nat),((i+l.length:Nat):Int)=n->Ha N set k2 l (i:Int)=some ((i+(l.takeWhile λc=>!set.contains c).length:Nat):Int)
 |[],i,hn=>by simp_all[Ha]
 |c::l,i,hn=>by
  rw[Ha,YS _ _ hs,aa,bg];cases hc:set.contains c;·simp only[ae]at hn;rw[aj fO,show(i:Int)+1=((i+1:Nat):Int) by simp,ABN set hs k2 n h l (i+1) fM];simp only[ba,az,ae];grind
  ·simp
theorem OW (l set:B8) (hs:set.length<=1000) (hb:l.length<=2^60):BO N l set=some (((l.takeWhile λc=>!set.contains c).length:Nat):Int):=by unfold BO;rw[AB,AP (by grind[AL]),show(0:Int)=((0:Nat):Int)from rfl,ABN set hs _ _ rfl l 0 fN];simp
section
variable{s sg W F FR P EX:B8}
end
end
section
variable{N:Nat}
def preB (p l:B8):Bool:=if p.length<=l.length then l.take p.length==p else false
theorem AbB (p l:B8):Bi N l p=some (preB p l):=by
 unfold Bi preB;by_cases h:p.length<=l.length;·rw[an (by grind),an h,show(0:Int)=((0:Nat):Int)from rfl,Av l 0 _ (aM _) h,aa];simp
 ·rw[aj (by grind),aj h]
def Ww (p l:B8):strings_HasPrefix N l p=some (preB p l):=by grind[strings_HasPrefix,AbB]
def WX (p l:B8):E8 N l p=some (preB p l):=by
 unfold E8 preB;by_cases h:p.length<=l.length;·rw[an (by grind),an h,show(0:Int)=((0:Nat):Int)from rfl,Av l 0 _ (aM _) h,aa];simp
 ·rw[aj (by grind),aj h]
def RU{p l:B8} (h:preB p l=true): ∃t,l=p++t:=by
 unfold preB at h;split at h;·have:=be.1 h;grind[List.take_append_drop]
 grind
def BP{l:B8}{n:Nat} (h:n<=l.length):sub l (n:Int) (l.length:Int)=some (l.drop n):=by rw[Av l n l.length h (av _),bc fN]
def AUv (p l:B8):strings_TrimPrefix N l p=some (if preB p l=true then l.drop p.length else l):=by
 unfold strings_TrimPrefix D9;rw[AbB,aa];by_cases h:preB p l=true;·obtain⟨t,rfl⟩:=RU h;rw[an h,an h,BP fN,aa,aa]
 simp_all
def AHW (p l:B8):strings_CutPrefix N l p=some (if preB p l=true then(l.drop p.length,true)else(l,false)):=by
 unfold strings_CutPrefix EZ;rw[AbB,aa];by_cases h:preB p l=true;·obtain⟨t,rfl⟩:=RU h;rw[an h,an h,BP fN,aa,aa]
 simp_all
def RI (l:B8):Nat->Option Nat|0=>none|n+1=>if l[n]?=some 47 then some n else RI l n
def ZP{l:B8}{i:Nat}: ∀ {n:Nat},RI l n=some i->i<n
 |0,h=>by cases h
 |n+1,h=>by
  rw[RI]at h;split at h;·grind
  ·have:=ZP h;omega
def b47 (c:UInt8):(AJ c==47)=decide (c=47):=by have:=Bl (f:=λn=>((n:Int)==47)) (g:=λn=>decide (UInt8.ofNat n=47)) (by kernel_rfl) c;simp only[bP]at this;exact this
def AGI{l:B8} (hb:l.length<=1000000): ∀(n k:Nat),n<=l.length->n<k->Ao N l 47 (λ_=>some (-1)) k ((n:Int)-1)=some (match RI l n with|some i=>(i:Int)|none=> -1)
 |n,0,_,h=>by omega
 |0,k+1,_,_=>by rw[Ao,aj fO];rfl
 |n+1,k+1,hn,hk=>by
  rw[Ao,an fN,show((n+1:Nat):Int)-1=(n:Int) by omega,D7,aS fM,aa,b47,RI,aS fM];by_cases h:l[n]=47;·simp_all
  ·rw[aF h,aj fO,aj (by grind),Ak fM];exact AGI hb n k fM fM
def AGO (l:B8) (hb:l.length<=1000000) (hN:l.length<N):strings_LastIndexByte N l 47=some (match RI l l.length with|some i=>(i:Int)|none=> -1):=by unfold strings_LastIndexByte Cx;rw[AB,Ak fM,AGI hb l.length N (av _) hN];rfl
def Lr (l:B8):B8:=match RI l l.length with|some i=>l.take i|none=>[]
def AEI{l:B8} (hb:l.length<=1000000): ∀(n k:Nat),n<=l.length->n<k->FK N l (λ_=>some []) k ((n:Int)-1)=some (match RI l n with|some i=>l.take i|none=>[])
 |n,0,_,h=>by omega
 |0,k+1,_,_=>by rw[FK,aj fO];rfl
 |n+1,k+1,hn,hk=>by
  rw[FK,an fN,show((n+1:Nat):Int)-1=(n:Int) by omega,D7,aS fM,aa,b47,RI,aS fM];by_cases h:l[n]=47;·rw[aC h,an rfl,an (by rw[h]),show(0:Int)=((0:Nat):Int)from rfl,Av l 0 n (aM _) fM,aa];simp
  ·rw[aF h,aj fO,aj (by grind),Ak fM];exact AEI hb n k fM fM
def AGk (l:B8) (hb:l.length<=1000000) (hN:l.length<N):Lf N l=some (Lr l):=by unfold Lf Lr;rw[AB,Ak fM,AEI hb l.length N (av _) hN]
def QI (s:B8):Nat:=1+((s.drop 1).takeWhile (· !=47)).length
def Ll:Nat->B8->B8->B8|0,_,_=>[]|k+1,s,out=>if s=[]then out else if preB [46,46,47] s=true then Ll k (s.drop 3) out else if preB [46,47] s=true then Ll k (s.drop 2) out else if preB [47,46,47] s=true then Ll k (s.drop 2) out else if s=[47,46]then Ll k [47] out else if preB [47,46,46,47] s=true then Ll k (s.drop 3) (Lr out)else if s=[47,46,46]then Ll k [47] (Lr out)else if s=[46]\/s=[46,46]then Ll k [] out else Ll k (s.drop (QI s)) (out++s.take (QI s))
def WQ (l:B8):(Lr l).length<=l.length:=by grind[Lr]
def AkU{s:B8} (h:s≠ []):QI s<=s.length:=by cases s with|nil=>grind|cons c t=>grind[QI,UK,List.drop_one,List.tail_cons,List.length_cons]
def RP{p l:B8} (h:preB p l=true):p.length<=l.length:=by obtain⟨t,rfl⟩:=RU h;simp
def La{M:Nat} (hM:M<=100000) (hN:M+100<=N) (k2:B8->Option B8): ∀(k:Nat) (s out:B8),s.length<k->s.length+out.length<=M->Ar N k2 k s out=k2 (Ll k s out)
 |0,s,out,h,_=>by omega
 | k+1,s,out,hk,hb=>by
  rw[Ar,Ll];by_cases h0:s=[];·simp_all
  have hpos:0<s.length:=bS.2 h0;have hso:=WQ out;rw[aj (by grind),aj h0,WX,aa];by_cases h1:preB [46,46,47] s=true;·have:=RP h1;simp only[ae,aq]at this;rw[an h1,an h1,show(3:Int)=((3:Nat):Int)from rfl,BP fM,aa];exact La hM hN k2 k _ out (by grind) (by grind)
  rw[aj h1,aj h1,WX,aa];by_cases h2:preB [46,47] s=true;·have:=RP h2;simp only[ae,aq]at this;rw[an h2,an h2,show(2:Int)=((2:Nat):Int)from rfl,BP fM,aa];exact La hM hN k2 k _ out (by grind) (by grind)
  rw[aj h2,aj h2,WX,aa];by_cases h3:preB [47,46,47] s=true;·have:=RP h3;simp only[ae,aq]at this;rw[an h3,an h3,show(2:Int)=((2:Nat):Int)from rfl,BP fM,aa];exact La hM hN k2 k _ out (by grind) (by grind)
  rw[aj h3,aj h3];by_cases h4:s=[47,46];·rw[an (by grind),an h4];have:=br List.length h4;simp only[ae,aq]at this;exact La hM hN k2 k _ out (by grind) (by grind)
  rw[aj (by grind),aj h4,WX,aa];by_cases h5:preB [47,46,46,47] s=true;·have:=RP h5;simp only[ae,aq]at this;rw[an h5,an h5,show(3:Int)=((3:Nat):Int)from rfl,BP fM,aa,AGk out fM fM,aa];exact La hM hN k2 k _ _ (by grind) (by grind)
  rw[aj h5,aj h5];by_cases h6:s=[47,46,46];·rw[an (by grind),an h6,AGk out fM fM,aa];have:=br List.length h6;simp only[ae,aq]at this;exact La hM hN k2 k _ _ (by grind) (by grind)
  rw[aj (by grind),aj h6];dsimp only[AB];have hdd:(if(s==([46]:B8))=true then Ar N k2 k [] out else if(s==([46,46]:B8))=true then Ar N k2 k [] out else(sub s 1 (s.length:Int)).bind λx26=>(BO N x26 ([47]:B8)).bind λy27=>(sub s (wr .i64 (1+y27)) (s.length:Int)).bind λx29=>(sub s 0 (wr .i64 (1+y27))).bind λx30=>grd (AL (out.length+x30.length)) (Ar N k2 k x29 (out++x30)))=k2 (if s=[46]\/s=[46,46]then Ll k [] out else Ll k (s.drop (QI s)) (out++s.take (QI s))):=by
   have hrec:=La hM hN k2 k [] out (by grind) (by grind);by_cases h7:s=[46];·simp_all
   by_cases h8:s=[46,46];·simp_all
   have hw:(λc:UInt8=>!([47]:B8).contains c)=(λc=>c !=47):=by grind
   have hsl:=AkU h0;rw[aj (by grind),aj (by grind),aj (by grind),show(1:Int)=((1:Nat):Int)from rfl,BP fM,aa,OW _ [47] fO (by grind),aa,hw];have e:wr .i64 (((1:Nat):Int)+(((s.drop 1).takeWhile (λc=>c !=47)).length:Int))=((QI s:Nat):Int):=by grind[QI,Ak]
   rw[e,BP hsl,aa,show(0:Int)=((0:Nat):Int)from rfl,Av s 0 _ (aM _) hsl,aa,Ap (by grind),aN,bw];have h1s:1<=QI s:=by grind[QI]
   exact La hM hN k2 k _ _ (by grind) (by grind)
  simp_all
def Ats (s:B8) (hN:20000<=N) (hb:s.length<=16400):Cj N s=some (Ll N s []):=by unfold Cj;rw[AB,La (M:=16400) fM fM _ N s [] fM fP]
def ZI (s:B8) (hN:100000<=N) (hb:s.length<=40000):Cj N s=some (Ll N s []):=by unfold Cj;rw[AB,La (M:=40000) fM fM _ N s [] fM fP]
end
end Go.VM
