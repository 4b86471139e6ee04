import Derived.Test.YtenhbiooanampaaGreatDoorL1
set_option linter.defProp false
set_option linter.unusedVariables false
set_option linter.unusedSimpArgs false
namespace Go.VM
section
variable{N:Nat}
def FY (c:UInt8):Bool:=Me c||(GH c||([45,46,95,126]:B8).contains c)
def AA0 (c:UInt8):Dx N (AJ c)=some (FY c):=by have:=Bt (f:=λn=>Dx N (n:Int)) (g:=λn=>some (FY (UInt8.ofNat n))) (by kernel_rfl) c;simp only[bP]at this;exact this
def AA3 (c:UInt8):DV N (AJ c)=some (FY c):=by have:=Bt (f:=λn=>DV N (n:Int)) (g:=λn=>some (FY (UInt8.ofNat n))) (by kernel_rfl) c;simp only[bP]at this;exact this
def AEh (c:UInt8) (h:JX c=true):Kb N (AJ c)=some ((Gc c.toNat:Nat):Int):=by have:=Bt (f:=λn=>if UI n=true then Kb N (n:Int)else none) (g:=λn=>if UI n=true then some ((Gc n:Nat):Int)else none) (by kernel_rfl) c;simp only[show UI c.toNat=true from h,aB]at this;exact this
def AFR (c:UInt8) (h:JX c=true):Na N (AJ c)=some ((Gc c.toNat:Nat):Int):=by have:=Bt (f:=λn=>if UI n=true then Na N (n:Int)else none) (g:=λn=>if UI n=true then some ((Gc n:Nat):Int)else none) (by kernel_rfl) c;simp only[show UI c.toNat=true from h,aB]at this;exact this
def AX (a b:UInt8):UInt8:=UInt8.ofNat (16 * Gc a.toNat+Gc b.toNat)
def AzR{x y:Nat} (AX:x<16) (hy:y<16):Pm .u8 (AOW .u8 (x:Int) 4) (y:Int)=AJ (UInt8.ofNat (16 * x+y)):=by have:=Bt (f:=λn=>Pm .u8 (AOW .u8 ((n / 16:Nat):Int) 4) ((n % 16:Nat):Int)) (g:=λn=>AJ (UInt8.ofNat n)) (by kernel_rfl) (UInt8.ofNat (16 * x+y));grind[UInt8.ofNat,UInt8.toNat_ofNat']
def Azb{x y:Nat} (AX:x<16) (hy:y<16):wr .u8 ((wr .u8 (16 * (x:Int)))+(y:Int))=AJ (UInt8.ofNat (16 * x+y)):=by grind[UInt8.ofNat,UInt8.toNat_ofNat',AUt,NE]
def NU:B8->Option UInt8|a::b::_=>if(JX a&&JX b)=true then some (AX a b)else none|_=>none
def AAp:Option UInt8->Int×Bool|some x=>(AJ x,true)|none=>(0,false)
section
variable{l t:B8}{i:Nat}{c:UInt8}
def Aal (h:l.drop i=c::t) (hb:l.length<=2^40):Ip N l (i:Int)=some (AAp (NU t)):=by
 have hi:i<=l.length:=by have:=br List.length h;grind
 have hl:=NB h hi;simp only[ae]at hl;unfold Ip;dsimp only[AB];rw[Ai fH];match t,h,hl with
 |[],h,hl=>simp only[ap]at hl;rw[an (by grind),an rfl];rfl
 |[a],h,hl=>simp only[ae,ap]at hl;rw[an (by grind),an rfl];rfl
 | a::b::r,h,hl=>
  simp only[ae]at hl;rw[aj (by grind),show wr .i64 ((i:Int)+1)=((i+1:Nat):Int) by grind[Ai],show wr .i64 ((i:Int)+2)=((i+2:Nat):Int) by grind[Ai],OE (j:=1) h rfl,OE (j:=2) h rfl,aa,aa,AA1,aa,aa,AA1,aa];unfold NU;cases ha:JX a;·grind[AAp]
  ·cases hb2:JX b;·grind[AAp]
   ·simp only[bE,cS,aB,aq,az];rw[AEh a ha,aa,aa,AEh b hb2,aa,AzR (VB a ha) (VB b hb2)];simp[AAp,ha,hb2,AX]
def Aav (h:l.drop i=37::t) (hb:l.length<=2^40):MI N l (i:Int)=some (AAp (NU t)):=by
 have hi:i<=l.length:=by have:=br List.length h;grind
 have hl:=NB h hi;simp only[ae]at hl;unfold MI;dsimp only[AB];rw[show wr .i64 ((i:Int)+1)=((i+1:Nat):Int) by grind[Ai],show wr .i64 ((i:Int)+2)=((i+2:Nat):Int) by grind[Ai]];match t,h,hl with
 |[],h,hl=>simp only[ap]at hl;rw[an (by grind),an rfl];rfl
 |[a],h,hl=>simp only[ae,ap]at hl;rw[an (by grind),an rfl];rfl
 | a::b::r,h,hl=>
  simp only[ae]at hl;rw[aj (by grind),show idx l (i:Int)=some 37 from OE (j:=0) h rfl,aa,aj fJ,OE (j:=1) h rfl,OE (j:=2) h rfl,aa,aa,AAu,aa,aa,AAu,aa];unfold NU;cases ha:JX a;·grind[AAp]
  ·cases hb2:JX b;·grind[AAp]
   ·simp only[bE,cS,aB,aq,az];rw[AFR a ha,aa,aa,AFR b hb2,aa,Azb (VB a ha) (VB b hb2)];simp[AAp,ha,hb2,AX]
def UY:Nat->B8->B8->B8×Int|0,_,_=>([],2)|_+1,[],out=>(out,0)|k+1,c::t,out=>if c=37 then(match NU t with|some x=>UY k (t.drop 2) (out++[x])|none=>([],2))else UY k t (out++[c])
def O0{n:Nat} (h:n<=1000000000):Ae n 1:=by grind[Ae]
def VV{x:UInt8} (h:NU t=some x):2<=t.length:=by match t,h with|[],h=>cases h|[_],h=>cases h|_::_::_,_=>simp
def TR (c:UInt8):(AJ c==37)=decide (c=37):=by have:=Bt (f:=λn=>((n:Int)==37)) (g:=λn=>decide (UInt8.ofNat n=37)) (by kernel_rfl) c;simp only[bP]at this;exact this
def ZR (hb:l.length<=100000): ∀(k:Nat) (t:B8) (i:Nat) (out:B8),l.drop i=t->i<=l.length->t.length<k->out.length<=i->Dn N l (λj=>some (List.map FQ j,0)) k (List.map AJ out) (i:Int)=some (UY k t out)
 |0,t,i,out,_,_,h,_=>by omega
 |k+1,[],i,out,h,hi,hk,ho=>by have hl:=NB h hi;rw[Dn,aj (by grind),Lp];rfl
 |k+1,c::t,i,out,h,hi,hk,ho=>by
  have hl:=NB h hi;simp only[ae]at hl hk;rw[Dn,an (by grind),show idx l (i:Int)=some c from OE (j:=0) h rfl,aa,AB,TR];have hd:l.drop (i+1)=t:=by rw[<-aT,h];rfl
  by_cases hc:c=37;·rw[aE hc,an rfl,Aal h fH,aa,UY,an hc];cases he:NU t with|none=>rfl|some x=>have:=VV he;simp only[AAp,aB];rw[AO (O0 (by grind)),show wr .i64 (wr .i64 ((i:Int)+2)+1)=((i+3:Nat):Int) by grind[Ai],show List.map AJ out++[AJ x]=List.map AJ (out++[x]) by simp];exact ZR hb k _ (i+3) (out++[x]) (by grind[List.drop_drop]) fH (by grind) (by grind)
  ·rw[aJ hc,aj fJ,UY,aj hc];dsimp only;rw[AO (O0 (by grind)),show wr .i64 ((i:Int)+1)=((i+1:Nat):Int) by grind[Ai],show List.map AJ out++[AJ c]=List.map AJ (out++[c]) by simp];exact ZR hb k t (i+1) (out++[c]) hd fH fH (by grind)
def ZY (hb:l.length<=100000): ∀(k:Nat) (t:B8) (i:Nat) (out:B8),l.drop i=t->i<=l.length->t.length<k->out.length<=i->Ep N l (λj=>some (List.map FQ j,0)) k (List.map AJ out) (i:Int)=some (UY k t out)
 |0,t,i,out,_,_,h,_=>by omega
 |k+1,[],i,out,h,hi,hk,ho=>by have hl:=NB h hi;rw[Ep,aj (by grind),Lp];rfl
 |k+1,c::t,i,out,h,hi,hk,ho=>by
  have hl:=NB h hi;simp only[ae]at hl hk;rw[Ep,an (by grind),show idx l (i:Int)=some c from OE (j:=0) h rfl,aa,AB,TR];have hd:l.drop (i+1)=t:=by rw[<-aT,h];rfl
  by_cases hc:c=37;·subst hc;rw[aE rfl,an rfl,Aav h fH,aa,UY,an rfl];cases he:NU t with|none=>rfl|some x=>have:=VV he;simp only[AAp,aB];rw[AO (O0 (by grind)),show wr .i64 (wr .i64 ((i:Int)+2)+1)=((i+3:Nat):Int) by grind[Ai],show List.map AJ out++[AJ x]=List.map AJ (out++[x]) by simp];exact ZY hb k _ (i+3) (out++[x]) (by grind[List.drop_drop]) fH (by grind) (by grind)
  ·rw[aJ hc,aj fJ,UY,aj hc];dsimp only;rw[AO (O0 (by grind)),show wr .i64 ((i:Int)+1)=((i+1:Nat):Int) by grind[Ai],show List.map AJ out++[AJ c]=List.map AJ (out++[c]) by simp];exact ZY hb k t (i+1) (out++[c]) hd fH fH (by grind)
end
def Ao (N:Nat) (s:B8):B8×Int:=if s.length>16384 then([],5)else UY N s []
def Ta (s:B8) (hN:20000<=N):Gy N s=some (Ao N s):=by
 unfold Gy Ao;by_cases h:s.length>16384;·rw[an (by grind),an h]
 ·rw[aj (by grind),aj h,AB];exact ZR (l:=s) fH N s 0 [] rfl fH fH fI
def Qz (s:B8) (hN:20000<=N):Gm N s=some (Ao N s):=by
 unfold Gm Ao;by_cases h:s.length>16384;·rw[an (by grind),an h]
 ·rw[aj (by grind),aj h,AB];exact ZY (l:=s) fH N s 0 [] rfl fH fH fI
end
section
variable{N:Nat}
def Tw (n:Nat):UInt8:=([48,49,50,51,52,53,54,55,56,57,65,66,67,68,69,70]:B8).getD n 0
def NZ (c:UInt8):B8:=[37,Tw (c.toNat / 16),Tw (c.toNat % 16)]
def UA (c:UInt8):I8 N (AJ c)=some (NZ c):=by have:=Bt (f:=λn=>I8 N (n:Int)) (g:=λn=>some ([37,Tw (n / 16),Tw (n % 16)]:B8)) (by kernel_rfl) c;exact this
def Ub (also:B8):Nat->B8->B8->B8×Int|0,_,_=>([],2)|_+1,[],out=>(out,0)|k+1,c::t,out=>if c=37 then(match NU t with|some x=>Ub also k (t.drop 2) (out++(if FY x=true then [x]else NZ x))|none=>([],2))else if(FY c||also.contains c)=true then Ub also k t (out++[c])else([],1)
section
variable{l also:B8}
def Vb (hb:l.length<=100000) (ha:also.length<=1000): ∀(k:Nat) (t:B8) (i:Nat) (out:B8),l.drop i=t->i<=l.length->t.length<k->out.length<=3 * i->Cr N l also (λj=>some (List.map FQ j,0)) k (List.map AJ out) (i:Int)=some (Ub also k t out)
 |0,t,i,out,_,_,h,_=>by omega
 |k+1,[],i,out,h,hi,hk,ho=>by have hl:=NB h hi;rw[Cr,aj (by grind),Lp];rfl
 | k+1,c::t,i,out,h,hi,hk,ho=>by
  have hl:=NB h hi;simp only[ae]at hl hk;rw[Cr,an (by grind),AB,show idx l (i:Int)=some c from OE (j:=0) h rfl,aa,bne,TR,Ub];have hd:l.drop (i+1)=t:=by rw[<-aT,h];rfl
  by_cases hc:c=37
  ·subst hc;rw[aE rfl,aj fJ,an rfl,Aav h fH,aa];cases he:NU t with
   |none=>rfl
   |some x=>
    have:=VV he;simp only[AAp,aB];rw[AB,AA3,aa];have e3:wr .i64 (wr .i64 ((i:Int)+2)+1)=((i+3:Nat):Int):=by grind[Ai]
    cases hu:FY x;·rw[aj fJ,UA,aa,AO (O0 (by grind[NZ]))];dsimp only;rw[e3,show List.map AJ out++List.map AJ (NZ x)=List.map AJ (out++NZ x) by simp];exact Vb hb ha k _ (i+3) (out++NZ x) (by grind[List.drop_drop]) fH (by grind) (by grind[NZ])
    ·rw[an rfl,AO (O0 (by grind))];dsimp only;rw[e3,show List.map AJ out++[AJ x]=List.map AJ (out++[x]) by simp];exact Vb hb ha k _ (i+3) (out++[x]) (by grind[List.drop_drop]) fH (by grind) (by grind)
  ·rw[aJ hc,an fJ,aj hc,AB,AA3,aa];have step:grd (Ae ((List.map AJ out).length+1) 1) ((λj6:List Int×Int=>Cr N l also (λj=>some (List.map FQ j,0)) k j6.1 (wr .i64 (j6.2+1))) (List.map AJ out++[AJ c],(i:Int)))=some (Ub also k t (out++[c])):=by rw[AO (O0 (by grind))];dsimp only;rw[show wr .i64 ((i:Int)+1)=((i+1:Nat):Int) by grind[Ai],show List.map AJ out++[AJ c]=List.map AJ (out++[c]) by simp];exact Vb hb ha k t (i+1) (out++[c]) hd fH fH (by grind)
   cases hu:FY c;·rw[aj fJ,ACt c also ha,aa,be];grind
   simp_all
end
def EP (N:Nat) (s also:B8):B8×Int:=if s.length>16384 then([],5)else Ub also N s []
def R9 (s also:B8) (hN:20000<=N) (ha:also.length<=1000):DZ N s also=some (EP N s also):=by
 unfold DZ EP;by_cases h:s.length>16384;·rw[an (by grind),an h]
 ·rw[aj (by grind),aj h,AB];exact Vb (l:=s) fH ha N s 0 [] rfl fH fH fI
def P8 (keep:B8) (c:UInt8):B8:=if(FY c||(!decide (c=37)&&keep.contains c))=true then [c]else NZ c
def ABy (keep:B8) (c:UInt8):(P8 keep c).length<=3:=by unfold P8;split<;>simp[NZ]
def Vt{keep:B8} (ha:keep.length<=1000) (l:B8) (hb:l.length<=1000000): ∀(t pre out:B8),l=pre++t->out.length<=3 * pre.length->Db N l keep (λj=>some j) t (pre.length:Int) out=some (out++t.flatMap (P8 keep))
 |[],pre,out,h,ho=>by rw[Db];simp
 | c::t,pre,out,h,ho=>by
  have hl:=br List.length h;simp only[ah,ae]at hl;have hlen:=ABy keep c;have nxt: ∀x:B8,x=P8 keep c->Db N l keep (λj=>some j) t ((pre.length:Int)+1) (out++x)=some (out++(c::t).flatMap (P8 keep)):=λx AX=>by have:=Vt ha l hb t (pre++[c]) (out++x) (by rw[h];simp) (by rw[AX];simp only[ah,ae,ap];omega);rw[aR,<-aH,<-AX,<-this];congr 1;simp
  have hsub:sub l (pre.length:Int) ((pre.length:Int)+1)=some [c]:=by rw[show(pre.length:Int)+1=((pre.length+1:Nat):Int) by omega,A8 l _ _ fH fH,h,cX];simp
  rw[Db,AB,AB,AA3,aa];have yes:(FY c||(!decide (c=37)&&keep.contains c))=true->Option.bind (sub l (pre.length:Int) ((pre.length:Int)+1)) (λx18=>grd (AL (out.length+x18.length)) (Db N l keep (λj=>some j) t ((pre.length:Int)+1) (out++x18)))=some (out++(c::t).flatMap (P8 keep)):=λhy=>by rw[hsub,aa,A9 fK];exact nxt [c] (by unfold P8;rw[an hy])
  have no:(FY c||(!decide (c=37)&&keep.contains c))=false->Option.bind (I8 N (AJ c)) (λy19=>grd (AL (out.length+y19.length)) (Db N l keep (λj=>some j) t ((pre.length:Int)+1) (out++y19)))=some (out++(c::t).flatMap (P8 keep)):=λhy=>by rw[UA,aa,A9 (by simp[NZ];omega)];exact nxt (NZ c) (by unfold P8;rw[hy,aj fJ])
  cases hu:FY c
  ·rw[aj fJ,bne,TR];rw[hu,be]at yes no;by_cases hc:c=37;·rw[aE hc]at yes no⊢;simpa using no fI
   ·rw[aJ hc]at yes no⊢;rw[an fJ,ACt c keep ha,aa];cases hk:keep.contains c;·rw[hk]at no;simpa using no rfl
    ·rw[hk]at yes;simpa using yes rfl
  ·rw[an rfl];rw[hu]at yes;simpa using yes rfl
def ACc (s keep:B8) (ha:keep.length<=1000) (hb:s.length<=1000000):ME N s keep=some (s.flatMap (P8 keep)):=by unfold ME;rw[AB,A9 fH];simpa using Vt (N:=N) ha s hb s [] [] rfl fI
end
section
variable{N:Nat}
def Js (c:UInt8): ∀l:B8,decide (Go.Lib.indexByte l c>=0)=l.contains c
 |[]=>rfl
 | b::l=>by
  have ih:=Js c l;have hge:=Go.Lib.indexByte_ge l c;unfold Go.Lib.indexByte;rw[bC];by_cases h:b=c;·grind
  ·rw[aj (by grind),show(c==b)=false by grind,be,<-ih];by_cases h1:Go.Lib.indexByte l c= -1;·grind
   ·rw[aj (by grind)];congr 1;simp only[eq_iff_iff];constructor<;>intro<;>omega
def UF (out:B8) (c:UInt8) (ho:out.length<=900000000):Fj N (List.map AJ out) (AJ c)=some (List.map AJ (out++NZ c)):=by have h1:=Bt (f:=λn=>idx ([48,49,50,51,52,53,54,55,56,57,65,66,67,68,69,70]:B8) (ADg .u8 (n:Int) 4)) (g:=λn=>some (Tw (n / 16))) (by kernel_rfl) c;have h2:=Bt (f:=λn=>idx ([48,49,50,51,52,53,54,55,56,57,65,66,67,68,69,70]:B8) (Pg .u8 (n:Int) 15)) (g:=λn=>some (Tw (n % 16))) (by kernel_rfl) c;unfold Fj;rw[show AJ c=(c.toNat:Int)from rfl,h1,aa,h2,aa,AO (O0 (by grind))];simp[NZ,AJ]
theorem AEu{keep:B8} (k2:List Int->Option B8): ∀(t out:B8),out.length+3 * t.length<=900000000->Dl N keep k2 t (List.map AJ out)=k2 (List.map AJ (out++t.flatMap (P8 keep)))
 |[],out,ho=>by rw[Dl];simp
 | c::t,out,ho=>by
  simp only[ae]at ho;have hlen:=ABy keep c;have nxt: ∀x:B8,x=P8 keep c->Dl N keep k2 t (List.map AJ (out++x))=k2 (List.map AJ (out++(c::t).flatMap (P8 keep))):=λx AX=>by rw[AEu k2 t (out++x) (by rw[AX,ah];omega),aR,<-aH,<-AX]
  have e1:List.map AJ out++[AJ c]=List.map AJ (out++[c]):=fI;rw[Dl];dsimp only[AB];rw[AA0,aa,UF out c fH,aa,e1,AO (O0 fK),bne,TR,MC,aa,Js];have hE:P8 keep c=if(FY c||(!decide (c=37)&&keep.contains c))=true then [c]else NZ c:=rfl;cases hu:FY c
  ·by_cases hc:c=37;·simp only[aE hc,bE,aB,aq,az];exact nxt (NZ c) (by rw[hE,hu,aE hc];rfl)
   ·cases hk:keep.contains c;·simp only[aJ hc,bA,aB,aq,az];exact nxt (NZ c) (by rw[hE,hu,aJ hc,hk];rfl)
    ·simp only[aJ hc,bA,aB,aq,az];exact nxt [c] (by rw[hE,hu,aJ hc,hk];rfl)
  ·simp only[aB];exact nxt [c] (by rw[hE,hu];rfl)
def ACl (s keep:B8) (hb:s.length<=1000000):Jm N s keep=some (s.flatMap (P8 keep)):=by unfold Jm;rw[AB,A9 fH];have:=AEu (N:=N) (keep:=keep) (λj1=>some (List.map FQ j1)) s [] fK;rw[Lp]at this;exact this
section
variable{l also:B8}
def VZ (hb:l.length<=100000): ∀(k:Nat) (t:B8) (i:Nat) (out:B8),l.drop i=t->i<=l.length->t.length<k->out.length<=i->CP N l also (λj=>some (List.map FQ j,0)) k (i:Int) (List.map AJ out)=some (Ub also k t out)
 |0,t,i,out,_,_,h,_=>by omega
 |k+1,[],i,out,h,hi,hk,ho=>by have hl:=NB h hi;rw[CP,aj (by grind),Lp];rfl
 | k+1,c::t,i,out,h,hi,hk,ho=>by
  have hl:=NB h hi;simp only[ae]at hl hk;rw[CP,an (by grind)];dsimp only[AB];rw[show idx l (i:Int)=some c from OE (j:=0) h rfl,aa,TR,Ub];have hd:l.drop (i+1)=t:=by rw[<-aT,h];rfl
  by_cases hc:c=37
  ·rw[aE hc,an rfl,an hc,Aal h fH,aa];cases he:NU t with
   |none=>rfl
   |some x=>
    have:=VV he;simp only[AAp,aB];rw[AA0,aa];have e3:wr .i64 (wr .i64 ((i:Int)+2)+1)=((i+3:Nat):Int):=by grind[Ai]
    cases hu:FY x;·rw[aj fJ,UF out x fH,aa,e3];exact VZ hb k _ (i+3) (out++NZ x) (by grind[List.drop_drop]) fH (by grind) (by grind[NZ])
    ·rw[an rfl,AO (O0 (by grind)),e3,show List.map AJ out++[AJ x]=List.map AJ (out++[x]) by simp];exact VZ hb k _ (i+3) (out++[x]) (by grind[List.drop_drop]) fH (by grind) (by grind)
  ·rw[aJ hc,aj fJ,aj hc,AA0,aa,MC,aa,Js];have step:grd (Ae ((List.map AJ out).length+1) 1) (CP N l also (λj=>some (List.map FQ j,0)) k (wr .i64 ((i:Int)+1)) (List.map AJ out++[AJ c]))=some (Ub also k t (out++[c])):=by rw[AO (O0 (by grind)),show wr .i64 ((i:Int)+1)=((i+1:Nat):Int) by grind[Ai],show List.map AJ out++[AJ c]=List.map AJ (out++[c]) by simp];exact VZ hb k t (i+1) (out++[c]) hd fH fH (by grind)
   cases hu:FY c;·rw[aj fJ,be];grind
   simp_all
end
def PP (s also:B8) (hN:20000<=N):Ci N s also=some (EP N s also):=by
 unfold Ci EP;by_cases h:s.length>16384;·rw[an (by grind),an h]
 ·rw[aj (by grind),aj h,AB];exact VZ (l:=s) fH N s 0 [] rfl fH fH fI
end
section
variable{N:Nat}
def LY{l:B8}{i:Nat}{c:UInt8} (h:l[i]?=some c) (hc:c.toNat<128):Da l i=(c.toNat,1):=by
 have hi:i<l.length:=by grind
 have e:l[i]=c:=by grind
 unfold Da;have hs:i<(⟨l.toArray⟩:ByteArray).size:=hi;have AX:((⟨l.toArray⟩:ByteArray)[i]'hs)=c:=e;grind[decode_ascii]
def AMe{set:B8}{c:UInt8} (hc:c.toNat<128):CU N set ((c.toNat:Nat):Int)=some (Go.Lib.indexByte set c):=by
 unfold CU;dsimp only[AB];have e:wr .u8 ((c.toNat:Nat):Int)=AJ c:=by rw[AUt fH];rfl
 rw[an fI,an (by grind),e,MC];rfl
def AAc (set l:B8):Int:=if(l.any set.contains)=true then(((l.takeWhile λc=>!set.contains c).length:Nat):Int)else-1
def AEl{as:List Bool}{set:B8} (hs:ARz as set) (k17:List Bool->Option Int): ∀(l:B8) (i:Int),Dj N k17 l i as=if(l.any set.contains)=true then some (i+(((l.takeWhile λc=>!set.contains c).length:Nat):Int))else k17 as
 |[],i=>by grind[Dj]
 |c::l,i=>by
  rw[Dj,ASO hs,aa];dsimp only;cases h:set.contains c;·rw[aj fJ,AEl hs k17 l (i+1)];simp only[bT,h,be,bc,bA,aB,ae];grind
  simp_all
def AEX{set l:B8} (k24:Unit->Option Int): ∀(t pre:B8) (k:Nat),l=pre++t->t.length<k->(∀c,c∈(t.takeWhile λc=>!set.contains c)->c.toNat<128)->(∀c,c∈set->c.toNat<128)->Bh N l set k24 k pre.length=if(t.any set.contains)=true then some (((pre.length+(t.takeWhile λc=>!set.contains c).length:Nat):Int))else k24 ()
 |_,_,0,_,h,_,_=>by omega
 |[],pre,k+1,h,_,_,_=>by simp_all[Bh]
 |c::t,pre,k+1,h,hk,ha,hset=>by
  simp only[ae]at hk;have hget:l[pre.length]?=some c:=by grind
  have hc:c.toNat<128:=by grind[AX,List.takeWhile_cons]
  rw[Bh,an (by grind),LY hget hc];dsimp only;rw[AMe hc,aa,Js];cases AX:set.contains c;·rw[aj fJ];have:=AEX (l:=l) (set:=set) k24 t (pre++[c]) k (by grind) fH (λx hm=>ha x (by simp_all)) hset;rw[ah,bh]at this;rw[this];simp only[bT,AX,be,bc,bA,aB,ae];grind
  simp_all
theorem ZK{set l:B8} (h2:2<=set.length) (hs:set.length<=1000) (hset: ∀c,c∈set->c.toNat<128) (ha:l.length<=8->∀c,c∈(l.takeWhile λc=>!set.contains c)->c.toNat<128) (hb:l.length<=1000000) (hN:20<=N):strings_IndexAny N l set=some (AAc set l):=by
 unfold strings_IndexAny AAc;have hne:set≠ []:=λe=>by grind
 have hsh:strings_shouldUseASCIISet N (l.length:Int)=some (decide ((l.length:Int)>8)):=rfl;obtain⟨as,e1,e2⟩:=AiU (N:=N) set hset hs;rw[aj (by grind),aj (by grind)];dsimp only[AB];rw[hsh,aa];by_cases h:l.length>8;·rw[an (by grind),e1,aa,AO ABG];dsimp only;rw[AO e2.1,an rfl,A9 fH,AEl e2];split<;>simp
 ·rw[aj (by grind),show(0:Nat)=([]:B8).length from rfl,AEX (l:=l) _ l [] N rfl fH (ha fH) hset];split<;>simp
def AvO (l:B8) (i:Nat):(⟨l.toArray⟩:ByteArray).get! i=l.getD i 0:=by change (l.toArray[i]!)=_;rw[List.getElem!_toArray,List.getElem!_eq_getElem?_getD,List.getD_eq_getElem?_getD];rfl
theorem ARJ{l:B8}{i:Nat}{c:UInt8} (h:l[i]?=some c) (hc:128<=c.toNat):∃r w,Da l i=(r,w)/\128<=r/\r<=1114111/\(Go.Utf8.valid r=true)/\1<=w/\i+w<=l.length/\∀j,j<w->∀d,l[i+j]?=some d->128<=d.toNat:=by
 have hi:i<l.length:=by grind
 have h0:l.getD i 0=c:=by grind
 have one: ∀j,j<1->∀d,l[i+j]?=some d->128<=d.toNat:=λj hj d hd=>by simp_all
 have bad: ∃r w,(Go.Utf8.runeError,1)=(r,w)/\128<=r/\r<=1114111/\(Go.Utf8.valid r=true)/\1<=w/\i+w<=l.length/\∀j,j<w->∀d,l[i+j]?=some d->128<=d.toNat:=⟨_,_,rfl,fJ,fJ,fJ,av 1,fH,one⟩;have hsz:(⟨l.toArray⟩:ByteArray).size=l.length:=rfl;unfold Da Go.Utf8.decode;simp only[AvO,hsz,bW,h0];have hb:=UInt8.toNat_lt c;rw[aj fH];split
 ·rename_i h2;simp only[aw,bf,au]at h2;split
  ·rename_i h3;refine⟨_,_,rfl,fH,fH,?_,fH,fH,λj hj=>?_⟩;·unfold Go.Utf8.valid;simp only[ce,aw,au];omega
   ·rcases (by omega:j=0\/j=1)with rfl|rfl;·grind
    grind
  omega
 split
 ·rename_i h2;simp only[aw,bf,au]at h2;split
  ·rename_i h3;simp only[aw,ge_iff_le,au]at h3;refine⟨_,_,rfl,fH,fH,h3.2,fH,fH,λj hj=>?_⟩;rcases (by omega:j=0\/j=1\/j=2)with rfl|rfl|rfl;·grind
   ·grind
   grind
  omega
 split
 ·rename_i h2;simp only[aw,bf,au]at h2;split
  ·rename_i h3;simp only[aw,ge_iff_le,au]at h3;have hv:=h3.2;unfold Go.Utf8.valid at hv;simp only[ce,aw,au]at hv;refine⟨_,_,rfl,fH,fH,h3.2,fH,fH,λj hj=>?_⟩;rcases (by omega:j=0\/j=1\/j=2\/j=3)with rfl|rfl|rfl|rfl;·grind
   ·grind
   ·grind
   grind
  omega
 omega
def ACa{l:B8}{set:B8}: ∀(w i:Nat),i+w<=l.length->(∀j,j<w->∀d,l[i+j]?=some d->set.contains d=false)->(l.drop i).any set.contains=(l.drop (i+w)).any set.contains/\((l.drop i).takeWhile λc=>!set.contains c).length=w+((l.drop (i+w)).takeWhile λc=>!set.contains c).length|0,i,_,_=>by simp|w+1,i,h,hs=>by have hi:i<l.length:=fH;have h0:=hs 0 fH l[i] fI;obtain⟨e1,e2⟩:=ACa (l:=l) (set:=set) w (i+1) fH λj hj d hd=>hs (j+1) fH d (by grind);rw[bN hi,bT,h0,be,e1,bc,h0];simp only[bA,aB,ae];rw[e2,show i+1+w=i+(w+1) by omega];exact⟨rfl,fH⟩
def AVs{r:Nat} (hv:Go.Utf8.valid r=true):Go.Utf8.encode (r:Int)=(if r<128 then⟨#[UInt8.ofNat r]⟩else if r<2048 then⟨#[UInt8.ofNat (0xC0+r / 64),UInt8.ofNat (0x80+r % 64)]⟩else if r<65536 then⟨#[UInt8.ofNat (0xE0+r / 4096),UInt8.ofNat (0x80+r / 64 % 64),UInt8.ofNat (0x80+r % 64)]⟩else⟨#[UInt8.ofNat (0xF0+r / 262144),UInt8.ofNat (0x80+r / 4096 % 64),UInt8.ofNat (0x80+r / 64 % 64),UInt8.ofNat (0x80+r % 64)]⟩:ByteArray):=by
 have e:(if Go.Utf8.valid r=true then(r:Int).toNat else Go.Utf8.runeError)=r:=by simp_all
 simp_all[Go.Utf8.encode]
def AjR{n:Nat} (h:n<64):128<=(UInt8.ofNat (0x80+n)).toNat:=by grind[UInt8.toNat_ofNat']
theorem enc2{r:Nat} (hv:Go.Utf8.valid r=true) (h1: ¬r<128) (h2:r<2048): ∃a b,Go.Utf8.encode (r:Int)=⟨#[a,b]⟩/\128<=b.toNat:=by rw[AVs hv,aj h1,an h2];exact⟨_,_,rfl,AjR (fC _ fH)⟩
theorem enc3{r:Nat} (hv:Go.Utf8.valid r=true) (h1: ¬r<128) (h2: ¬r<2048) (h3:r<65536): ∃a b c,Go.Utf8.encode (r:Int)=⟨#[a,b,c]⟩/\128<=c.toNat:=by rw[AVs hv,aj h1,aj h2,an h3];exact⟨_,_,_,rfl,AjR (fC _ fH)⟩
theorem enc4{r:Nat} (hv:Go.Utf8.valid r=true) (h1: ¬r<128) (h2: ¬r<2048) (h3: ¬r<65536): ∃a b c d,Go.Utf8.encode (r:Int)=⟨#[a,b,c,d]⟩/\128<=d.toNat:=by rw[AVs hv,aj h1,aj h2,aj h3];exact⟨_,_,_,_,rfl,AjR (fC _ fH)⟩
theorem Ayp{a b:UInt8}:(⟨#[a,b]⟩:ByteArray).data.toList=[a,b]:=rfl
theorem AxU{a b c:UInt8}:(⟨#[a,b,c]⟩:ByteArray).data.toList=[a,b,c]:=rfl
theorem Axc{a b c d:UInt8}:(⟨#[a,b,c,d]⟩:ByteArray).data.toList=[a,b,c,d]:=rfl
def HiT (u:B8):Prop:= ∃k c,u.length=k+2/\k<=2/\u[k+1]?=some c/\128<=c.toNat
theorem Azv{a b:UInt8} (h:128<=b.toNat):HiT [a,b]:=⟨0,b,rfl,fH,rfl,h⟩
theorem A0C{a b c:UInt8} (h:128<=c.toNat):HiT [a,b,c]:=⟨1,c,rfl,fH,rfl,h⟩
theorem AzD{a b c d:UInt8} (h:128<=d.toNat):HiT [a,b,c,d]:=⟨2,d,rfl,fH,rfl,h⟩
def Az5{r:Nat} (hv:Go.Utf8.valid r=true) (h1: ¬r<128) (h:r<2048):HiT (Go.Utf8.encode (r:Int)).data.toList:=by grind[enc2,Ayp,Azv]
def Az7{r:Nat} (hv:Go.Utf8.valid r=true) (h1: ¬r<128) (h: ¬r<2048) (h':r<65536):HiT (Go.Utf8.encode (r:Int)).data.toList:=by grind[enc3,AxU,A0C]
def Az9{r:Nat} (hv:Go.Utf8.valid r=true) (h1: ¬r<128) (h: ¬r<2048) (h': ¬r<65536):HiT (Go.Utf8.encode (r:Int)).data.toList:=by grind[enc4,Axc,AzD]
def hiu{r:Nat} (hv:Go.Utf8.valid r=true) (h1: ¬r<128):HiT (Go.Utf8.encode (r:Int)).data.toList:=(Classical.em (r<2048)).elim (λh=>Az5 hv h1 h) λh=>(Classical.em (r<65536)).elim (λh'=>Az7 hv h1 h h') λh'=>Az9 hv h1 h h'
def AcA (q:Int):Ik q=(Go.Utf8.encode q).data.toList:=by rw[Ik]
def Aaw{r:Nat} (hv:Go.Utf8.valid r=true) (h1: ¬r<128):HiT (Ik (r:Int)):=(AcA r).symm▸hiu hv h1
theorem AvU{q:Int} (h:0<=q) (k:q<55296\/(57343<q/\q<=1114111)):Ch N q=some true:=by
 unfold Ch;have h0:decide (0<=q)=true:=aE h;by_cases h':q<55296;·have h1:=aE h';simp only[AB,h0,h1,aB]
 ·have h1:=aJ h';have h2:decide (57343<q)=true:=aE fH;have h3:decide (q<=1114111)=true:=aE fH;simp only[AB,h0,h1,h2,h3,aB,aq,az]
def ARj{r:Nat} (hv:Go.Utf8.valid r=true):Ch N r=some true:=by unfold Go.Utf8.valid at hv;simp only[ce,aw,au]at hv;grind[AvU]
def ArY{q:Int}{u:B8} (hu:Ik q=u){k15:Unit->Option Int} (n s9:Nat) (w:wr .i64 ((u.length:Int)-1)=(s9:Int)){c x:UInt8} (AX:([58,47]:B8)[s9]?=some x) (hc:u[s9]?=some c) (hne:(AJ x !=AJ c)=true){t:B8} (ht:sub ([58,47]:B8) (wr .i64 ((s9:Int)+1)) ((([58,47]:B8).length:Nat):Int)=some t) (hb:strings_IndexByte N t (AJ c)=some (-1)) (hlt:s9<2):BB N [58,47] q k15 (n+1) (s9:Int)=some (-1):=by
 have e9:decide ((s9:Int)<((([58,47]:B8).length:Nat):Int))=true:=by simp only[au,ae,ap];omega
 rw[BB,an e9];simp only[AB];rw[hu,w,Ea,Ea,AX,aa,hc,aa,an hne,ht,aa,hb,aa];rfl
def Ahq{r:Nat}{k15:Unit->Option Int} (hr:128<=r) (hv:Go.Utf8.valid r=true) (hk:k15 ()=some (-1)) (n:Nat):BB N [58,47] (r:Int) k15 (n+1) (wr .i64 (((Ik (r:Int)).length:Int)-1))=some (-1):=by
 obtain⟨k,c,e1,e2,e3,e4⟩:=Aaw hv fH;have w:wr .i64 (((Ik (r:Int)).length:Int)-1)=((k+1:Nat):Int):=by grind[Ai]
 have hc:c≠47:=λe=>by simp_all
 generalize (r:Int)=q at *;rw[w];rcases (by omega:k=0\/¬k=0)with h0|h0;·subst h0;exact ArY (t:=[]) rfl n 1 w rfl e3 (by grind[bne,AmR]) rfl (by rw[MC];rfl) fH
 ·rw[BB,aj (by simp only[au,ae,ap];omega),hk]
def irh{r:Nat} (h0:decide (0<=(r:Int))=true) (h1:decide ((r:Int)<128)=false):CU N [58,47] (r:Int)=if((r:Int)==65533)=true then BJ N [58,47] (λ_=>some (-1)) N 0 else(Ch N r).bind λy12=>if y12=true then BB N [58,47] r (λ_=>some (-1)) N (wr .i64 (((Ik r).length:Int)-1))else some (-1):=by generalize (r:Int)=q at *;unfold CU;dsimp only[AB];rw[an h0,h1,aj fJ]
def Akx{r:Nat} (hr:128<=r) (hv:Go.Utf8.valid r=true) (hN:20<=N):CU N [58,47] (r:Int)=some (-1):=by
 obtain⟨n,rfl⟩: ∃n,N=n+3:=⟨N-3,fH⟩;rw[irh (aE fH) (aJ fH)];by_cases h:((r:Int)==65533)=true;·have d0:Da ([58,47]:B8) 0=(58,1):=LY (c:=58) rfl fJ;have d1:Da ([58,47]:B8) 1=(47,1):=LY (c:=47) rfl fJ;rw[an h,BJ,an fJ,d0,aj fJ];rw[BJ,an fJ,show(0:Nat)+((58:Nat),(1:Nat)).2=1 from rfl,d1,aj fJ];rw[BJ,aj fJ]
 ·rw[aj h,ARj hv,aa,an rfl];exact Ahq hr hv rfl _
def Yj{l:B8} (hN:20<=N) (k24:Unit->Option Int): ∀(k i:Nat),i<=l.length->l.length-i<k->Bh N l [58,47] k24 k i=if((l.drop i).any ([58,47]:B8).contains)=true then some (((i+((l.drop i).takeWhile λc=>!([58,47]:B8).contains c).length:Nat):Int))else k24 ()
 |0,i,_,h=>by omega
 | k+1,i,hi,hk=>by
  rw[Bh];by_cases he:i<l.length;case neg=>rw[aj (by grind),bK fH];rfl
  rw[an (by grind)];have hget:l[i]?=some l[i]:=aS he;by_cases hc:l[i].toNat<128
  ·rw[LY hget hc];dsimp only;rw[AMe hc,aa,Js,bN he,bT,bc];cases AX:([58,47]:B8).contains l[i];·rw[aj fJ,Yj hN k24 k (i+1) fH fH];simp only[be,bA,aB,ae];grind
   simp
  ·obtain⟨r,w,e1,e2,e3,e4,e5,e6,e7⟩:=ARJ hget fH;rw[e1];dsimp only;rw[Akx e2 e4 hN,aa,aj fJ,Yj hN k24 k (i+w) fH fH];obtain⟨s1,s2⟩:=ACa (set:=[58,47]) w i e6 λj hj d hd=>by
    have:=e7 j hj d hd;have h1:d≠58:=λe=>by simp_all
    have h2:d≠47:=λe=>by simp_all
    grind
   grind
theorem Afr{l:B8} (hb:l.length<=1000000) (hN:20<=N):strings_IndexAny N l [58,47]=some (AAc [58,47] l):=by
 by_cases h:l.length>8;·exact ZK fJ fJ fJ (λh'=>absurd h' fH) hb hN
 ·have hsh:strings_shouldUseASCIISet N (l.length:Int)=some (decide ((l.length:Int)>8)):=rfl;unfold strings_IndexAny AAc;rw[aj fJ,aj fJ];dsimp only[AB];rw[hsh,aa,aj (by grind),Yj hN _ N 0 fH fH,aO];split<;>simp
def An2{q:Int}{u:B8} (hu:Ik q=u){k15:Unit->Option Int} (n s9:Nat) (w:wr .i64 ((u.length:Int)-1)=(s9:Int)){c x:UInt8} (AX:([13,10]:B8)[s9]?=some x) (hc:u[s9]?=some c) (hne:(AJ x !=AJ c)=true){t:B8} (ht:sub ([13,10]:B8) (wr .i64 ((s9:Int)+1)) ((([13,10]:B8).length:Nat):Int)=some t) (hb:strings_IndexByte N t (AJ c)=some (-1)) (hlt:s9<2):BB N [13,10] q k15 (n+1) (s9:Int)=some (-1):=by
 have e9:decide ((s9:Int)<((([13,10]:B8).length:Nat):Int))=true:=by simp only[au,ae,ap];omega
 rw[BB,an e9];simp only[AB];rw[hu,w,Ea,Ea,AX,aa,hc,aa,an hne,ht,aa,hb,aa];rfl
def Ab9{r:Nat}{k15:Unit->Option Int} (hr:128<=r) (hv:Go.Utf8.valid r=true) (hk:k15 ()=some (-1)) (n:Nat):BB N [13,10] (r:Int) k15 (n+1) (wr .i64 (((Ik (r:Int)).length:Int)-1))=some (-1):=by
 obtain⟨k,c,e1,e2,e3,e4⟩:=Aaw hv fH;have w:wr .i64 (((Ik (r:Int)).length:Int)-1)=((k+1:Nat):Int):=by grind[Ai]
 have hc:c≠10:=λe=>by simp_all
 generalize (r:Int)=q at *;rw[w];rcases (by omega:k=0\/¬k=0)with h0|h0;·subst h0;exact An2 (t:=[]) rfl n 1 w rfl e3 (by grind[bne,AmR]) rfl (by rw[MC];rfl) fH
 ·rw[BB,aj (by simp only[au,ae,ap];omega),hk]
def Azz{r:Nat} (h0:decide (0<=(r:Int))=true) (h1:decide ((r:Int)<128)=false):CU N [13,10] (r:Int)=if((r:Int)==65533)=true then BJ N [13,10] (λ_=>some (-1)) N 0 else(Ch N r).bind λy12=>if y12=true then BB N [13,10] r (λ_=>some (-1)) N (wr .i64 (((Ik r).length:Int)-1))else some (-1):=by generalize (r:Int)=q at *;unfold CU;dsimp only[AB];rw[an h0,h1,aj fJ]
def AeR{r:Nat} (hr:128<=r) (hv:Go.Utf8.valid r=true) (hN:20<=N):CU N [13,10] (r:Int)=some (-1):=by
 obtain⟨n,rfl⟩: ∃n,N=n+3:=⟨N-3,fH⟩;rw[Azz (aE fH) (aJ fH)];by_cases h:((r:Int)==65533)=true;·have d0:Da ([13,10]:B8) 0=(13,1):=LY (c:=13) rfl fJ;have d1:Da ([13,10]:B8) 1=(10,1):=LY (c:=10) rfl fJ;rw[an h,BJ,an fJ,d0,aj fJ];rw[BJ,an fJ,show(0:Nat)+((13:Nat),(1:Nat)).2=1 from rfl,d1,aj fJ];rw[BJ,aj fJ]
 ·rw[aj h,ARj hv,aa,an rfl];exact Ab9 hr hv rfl _
def Ww{l:B8} (hN:20<=N) (k24:Unit->Option Int): ∀(k i:Nat),i<=l.length->l.length-i<k->Bh N l [13,10] k24 k i=if((l.drop i).any ([13,10]:B8).contains)=true then some (((i+((l.drop i).takeWhile λc=>!([13,10]:B8).contains c).length:Nat):Int))else k24 ()
 |0,i,_,h=>by omega
 | k+1,i,hi,hk=>by
  rw[Bh];by_cases he:i<l.length;case neg=>rw[aj (by grind),bK fH];rfl
  rw[an (by grind)];have hget:l[i]?=some l[i]:=aS he;by_cases hc:l[i].toNat<128
  ·rw[LY hget hc];dsimp only;rw[AMe hc,aa,Js,bN he,bT,bc];cases AX:([13,10]:B8).contains l[i];·rw[aj fJ,Ww hN k24 k (i+1) fH fH];simp only[be,bA,aB,ae];grind
   simp
  ·obtain⟨r,w,e1,e2,e3,e4,e5,e6,e7⟩:=ARJ hget fH;rw[e1];dsimp only;rw[AeR e2 e4 hN,aa,aj fJ,Ww hN k24 k (i+w) fH fH];obtain⟨s1,s2⟩:=ACa (set:=[13,10]) w i e6 λj hj d hd=>by
    have:=e7 j hj d hd;have h1:d≠13:=λe=>by simp_all
    have h2:d≠10:=λe=>by simp_all
    grind
   grind
theorem AWa{l:B8} (hb:l.length<=1000000) (hN:20<=N):strings_IndexAny N l [13,10]=some (AAc [13,10] l):=by
 by_cases h:l.length>8;·exact ZK fJ fJ fJ (λh'=>absurd h' fH) hb hN
 ·have hsh:strings_shouldUseASCIISet N (l.length:Int)=some (decide ((l.length:Int)>8)):=rfl;unfold strings_IndexAny AAc;rw[aj fJ,aj fJ];dsimp only[AB];rw[hsh,aa,aj (by grind),Ww hN _ N 0 fH fH,aO];split<;>simp
end
section
variable{N:Nat}
def AAG (set:B8) (hs:set.length<=1000) (k2:Unit->Option Int) (n:Int) (h:k2 ()=some n): ∀(l:B8) (i:Nat),((i+l.length:Nat):Int)=n->Gu N set k2 l (i:Int)=some ((i+(l.takeWhile λc=>!set.contains c).length:Nat):Int)
 |[],i,hn=>by simp_all[Gu]
 |c::l,i,hn=>by
  rw[Gu,ACt _ _ hs,aa,bc];cases hc:set.contains c;·simp only[ae]at hn;rw[aj fJ,show(i:Int)+1=((i+1:Nat):Int) by simp,AAG set hs k2 n h l (i+1) fH];simp only[bA,aB,ae];grind
  ·simp
theorem PH (l set:B8) (hs:set.length<=1000) (hb:l.length<=2^60):BK N l set=some (((l.takeWhile λc=>!set.contains c).length:Nat):Int):=by unfold BK;rw[AB,AO (by grind[AL]),show(0:Int)=((0:Nat):Int)from rfl,AAG set hs _ _ rfl l 0 fI];simp
section
variable{s sg W F FR P EX:B8}
end
end
section
variable{N:Nat}
def preB (p l:B8):Bool:=if p.length<=l.length then l.take p.length==p else false
theorem AWm (p l:B8):Bf N l p=some (preB p l):=by
 unfold Bf preB;by_cases h:p.length<=l.length;·rw[an (by grind),an h,show(0:Int)=((0:Nat):Int)from rfl,A8 l 0 _ (aK _) h,aa];simp
 ·rw[aj (by grind),aj h]
def VU (p l:B8):strings_HasPrefix N l p=some (preB p l):=by grind[strings_HasPrefix,AWm]
def VC (p l:B8):Er N l p=some (preB p l):=by
 unfold Er preB;by_cases h:p.length<=l.length;·rw[an (by grind),an h,show(0:Int)=((0:Nat):Int)from rfl,A8 l 0 _ (aK _) h,aa];simp
 ·rw[aj (by grind),aj h]
def QK{p l:B8} (h:preB p l=true): ∃t,l=p++t:=by
 unfold preB at h;split at h;·have:=bf.1 h;grind[List.take_append_drop]
 grind
def Be{l:B8}{n:Nat} (h:n<=l.length):sub l (n:Int) (l.length:Int)=some (l.drop n):=by rw[A8 l n l.length h (av _),ba fI]
def AP6 (p l:B8):strings_TrimPrefix N l p=some (if preB p l=true then l.drop p.length else l):=by
 unfold strings_TrimPrefix Du;rw[AWm,aa];by_cases h:preB p l=true;·obtain⟨t,rfl⟩:=QK h;rw[an h,an h,Be fI,aa,aa]
 simp_all
def AJO (p l:B8):strings_CutPrefix N l p=some (if preB p l=true then(l.drop p.length,true)else(l,false)):=by
 unfold strings_CutPrefix EL;rw[AWm,aa];by_cases h:preB p l=true;·obtain⟨t,rfl⟩:=QK h;rw[an h,an h,Be fI,aa,aa]
 simp_all
def QJ (l:B8):Nat->Option Nat|0=>none|n+1=>if l[n]?=some 47 then some n else QJ l n
def Xz{l:B8}{i:Nat}: ∀ {n:Nat},QJ l n=some i->i<n
 |0,h=>by cases h
 |n+1,h=>by
  rw[QJ]at h;split at h;·grind
  ·have:=Xz h;omega
def b47 (c:UInt8):(AJ c==47)=decide (c=47):=by have:=Bt (f:=λn=>((n:Int)==47)) (g:=λn=>decide (UInt8.ofNat n=47)) (by kernel_rfl) c;simp only[bP]at this;exact this
def AFc{l:B8} (hb:l.length<=1000000): ∀(n k:Nat),n<=l.length->n<k->Al N l 47 (λ_=>some (-1)) k ((n:Int)-1)=some (match QJ l n with|some i=>(i:Int)|none=> -1)
 |n,0,_,h=>by omega
 |0,k+1,_,_=>by rw[Al,aj fJ];rfl
 |n+1,k+1,hn,hk=>by
  rw[Al,an fI,show((n+1:Nat):Int)-1=(n:Int) by omega,Ea,aS fH,aa,b47,QJ,aS fH];by_cases h:l[n]=47;·simp_all
  ·rw[aJ h,aj fJ,aj (by grind),Ai fH];exact AFc hb n k fH fH
def AEz (l:B8) (hb:l.length<=1000000) (hN:l.length<N):strings_LastIndexByte N l 47=some (match QJ l l.length with|some i=>(i:Int)|none=> -1):=by unfold strings_LastIndexByte Cw;rw[AB,Ai fH,AFc hb l.length N (av _) hN];rfl
def Ko (l:B8):B8:=match QJ l l.length with|some i=>l.take i|none=>[]
def ACR{l:B8} (hb:l.length<=1000000): ∀(n k:Nat),n<=l.length->n<k->Ez N l (λ_=>some []) k ((n:Int)-1)=some (match QJ l n with|some i=>l.take i|none=>[])
 |n,0,_,h=>by omega
 |0,k+1,_,_=>by rw[Ez,aj fJ];rfl
 |n+1,k+1,hn,hk=>by
  rw[Ez,an fI,show((n+1:Nat):Int)-1=(n:Int) by omega,Ea,aS fH,aa,b47,QJ,aS fH];by_cases h:l[n]=47;·rw[aE h,an rfl,an (by rw[h]),show(0:Int)=((0:Nat):Int)from rfl,A8 l 0 n (aK _) fH,aa];simp
  ·rw[aJ h,aj fJ,aj (by grind),Ai fH];exact ACR hb n k fH fH
def AE1 (l:B8) (hb:l.length<=1000000) (hN:l.length<N):Ka N l=some (Ko l):=by unfold Ka Ko;rw[AB,Ai fH,ACR hb l.length N (av _) hN]
def PD (s:B8):Nat:=1+((s.drop 1).takeWhile (· !=47)).length
def Kn:Nat->B8->B8->B8|0,_,_=>[]|k+1,s,out=>if s=[]then out else if preB [46,46,47] s=true then Kn k (s.drop 3) out else if preB [46,47] s=true then Kn k (s.drop 2) out else if preB [47,46,47] s=true then Kn k (s.drop 2) out else if s=[47,46]then Kn k [47] out else if preB [47,46,46,47] s=true then Kn k (s.drop 3) (Ko out)else if s=[47,46,46]then Kn k [47] (Ko out)else if s=[46]\/s=[46,46]then Kn k [] out else Kn k (s.drop (PD s)) (out++s.take (PD s))
def VS (l:B8):(Ko l).length<=l.length:=by grind[Ko]
def AkR{s:B8} (h:s≠ []):PD s<=s.length:=by cases s with|nil=>grind|cons c t=>grind[PD,Sj,List.drop_one,List.tail_cons,List.length_cons]
def QO{p l:B8} (h:preB p l=true):p.length<=l.length:=by obtain⟨t,rfl⟩:=QK h;simp
def Kj{M:Nat} (hM:M<=100000) (hN:M+100<=N) (k2:B8->Option B8): ∀(k:Nat) (s out:B8),s.length<k->s.length+out.length<=M->Aq N k2 k s out=k2 (Kn k s out)
 |0,s,out,h,_=>by omega
 | k+1,s,out,hk,hb=>by
  rw[Aq,Kn];by_cases h0:s=[];·simp_all
  have hpos:0<s.length:=bR.2 h0;have hso:=VS out;rw[aj (by grind),aj h0,VC,aa];by_cases h1:preB [46,46,47] s=true;·have:=QO h1;simp only[ae,ap]at this;rw[an h1,an h1,show(3:Int)=((3:Nat):Int)from rfl,Be fH,aa];exact Kj hM hN k2 k _ out (by grind) (by grind)
  rw[aj h1,aj h1,VC,aa];by_cases h2:preB [46,47] s=true;·have:=QO h2;simp only[ae,ap]at this;rw[an h2,an h2,show(2:Int)=((2:Nat):Int)from rfl,Be fH,aa];exact Kj hM hN k2 k _ out (by grind) (by grind)
  rw[aj h2,aj h2,VC,aa];by_cases h3:preB [47,46,47] s=true;·have:=QO h3;simp only[ae,ap]at this;rw[an h3,an h3,show(2:Int)=((2:Nat):Int)from rfl,Be fH,aa];exact Kj hM hN k2 k _ out (by grind) (by grind)
  rw[aj h3,aj h3];by_cases h4:s=[47,46];·rw[an (by grind),an h4];have:=br List.length h4;simp only[ae,ap]at this;exact Kj hM hN k2 k _ out (by grind) (by grind)
  rw[aj (by grind),aj h4,VC,aa];by_cases h5:preB [47,46,46,47] s=true;·have:=QO h5;simp only[ae,ap]at this;rw[an h5,an h5,show(3:Int)=((3:Nat):Int)from rfl,Be fH,aa,AE1 out fH fH,aa];exact Kj hM hN k2 k _ _ (by grind) (by grind)
  rw[aj h5,aj h5];by_cases h6:s=[47,46,46];·rw[an (by grind),an h6,AE1 out fH fH,aa];have:=br List.length h6;simp only[ae,ap]at this;exact Kj hM hN k2 k _ _ (by grind) (by grind)
  rw[aj (by grind),aj h6];dsimp only[AB];have hdd:(if(s==([46]:B8))=true then Aq N k2 k [] out else if(s==([46,46]:B8))=true then Aq N k2 k [] out else(sub s 1 (s.length:Int)).bind λx26=>(BK N x26 ([47]:B8)).bind λy27=>(sub s (wr .i64 (1+y27)) (s.length:Int)).bind λx29=>(sub s 0 (wr .i64 (1+y27))).bind λx30=>grd (AL (out.length+x30.length)) (Aq N k2 k x29 (out++x30)))=k2 (if s=[46]\/s=[46,46]then Kn k [] out else Kn k (s.drop (PD s)) (out++s.take (PD s))):=by
   have hrec:=Kj hM hN k2 k [] out (by grind) (by grind);by_cases h7:s=[46];·simp_all
   by_cases h8:s=[46,46];·simp_all
   have hw:(λc:UInt8=>!([47]:B8).contains c)=(λc=>c !=47):=by grind
   have hsl:=AkR h0;rw[aj (by grind),aj (by grind),aj (by grind),show(1:Int)=((1:Nat):Int)from rfl,Be fH,aa,PH _ [47] fJ (by grind),aa,hw];have e:wr .i64 (((1:Nat):Int)+(((s.drop 1).takeWhile (λc=>c !=47)).length:Int))=((PD s:Nat):Int):=by grind[PD,Ai]
   rw[e,Be hsl,aa,show(0:Int)=((0:Nat):Int)from rfl,A8 s 0 _ (aK _) hsl,aa,A9 (by grind),aO,bB];have h1s:1<=PD s:=by grind[PD]
   exact Kj hM hN k2 k _ _ (by grind) (by grind)
  simp_all
def Apx (s:B8) (hN:20000<=N) (hb:s.length<=16400):Cf N s=some (Kn N s []):=by unfold Cf;rw[AB,Kj (M:=16400) fH fH _ N s [] fH fK]
def YE (s:B8) (hN:100000<=N) (hb:s.length<=40000):Cf N s=some (Kn N s []):=by unfold Cf;rw[AB,Kj (M:=40000) fH fH _ N s [] fH fK]
end
end Go.VM
