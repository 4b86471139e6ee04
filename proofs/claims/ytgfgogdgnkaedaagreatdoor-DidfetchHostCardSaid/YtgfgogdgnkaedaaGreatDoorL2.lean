import Derived.Test.YtgfgogdgnkaedaaGreatDoorL1
set_option linter.unusedVariables false
set_option linter.unusedSimpArgs false
namespace Go.VM
section
variable{N:Nat}
def As1:List UInt8:=[123,125,91,93,58,44]
def isWord (w:List UInt8):Bool:=w==[116,114,117,101]||(w==[102,97,108,115,101]||w==[110,117,108,108])
section
variable{l t:List UInt8}{i p:Nat}
end
end
end Go.VM
namespace Go.VM
section
variable{N:Nat}
section
variable{l:List UInt8}
end
theorem Oz: ∀l:List UInt8,List.map FN (List.map AJ l)=l |[]=>rfl|c::l=>by rw[aE,aE,QT,Oz l]
end
end Go.VM
namespace Go.VM
section
variable{N:Nat}
def OP (c:UInt8):Bool:=Mm c||(Gg c||([45,46,95,126]:List UInt8).contains c)
theorem AVW (c:UInt8):Dl N (AJ c)=some (OP c):=by have:=Cq (f:=fun n=>Dl N (n:Int)) (g:=fun n=>some (OP (UInt8.ofNat n))) (by kernel_rfl) c;simp only[bY]at this;exact this
theorem AVk (c:UInt8):C8 N (AJ c)=some (OP c):=by have:=Cq (f:=fun n=>C8 N (n:Int)) (g:=fun n=>some (OP (UInt8.ofNat n))) (by kernel_rfl) c;simp only[bY]at this;exact this
theorem AC4 (c:UInt8) (h:Kv c=true):Jy N (AJ c)=some ((Fq c.toNat:Nat):Int):=by have:=Cq (f:=fun n=>if Rw n=true then Jy N (n:Int)else none) (g:=fun n=>if Rw n=true then some ((Fq n:Nat):Int)else none) (by kernel_rfl) c;simp only[show Rw c.toNat=true from h,aB]at this;exact this
theorem ACj (c:UInt8) (h:Kv c=true):MV N (AJ c)=some ((Fq c.toNat:Nat):Int):=by have:=Cq (f:=fun n=>if Rw n=true then MV N (n:Int)else none) (g:=fun n=>if Rw n=true then some ((Fq n:Nat):Int)else none) (by kernel_rfl) c;simp only[show Rw c.toNat=true from h,aB]at this;exact this
def Bl (a b:UInt8):UInt8:=UInt8.ofNat (16 * Fq a.toNat+Fq b.toNat)
theorem At7{x y:Nat} (Bl:x<16) (hy:y<16):N8 .u8 (AFf .u8 (x:Int) 4) (y:Int)=AJ (UInt8.ofNat (16 * x+y)):=by have:=Cq (f:=fun n=>N8 .u8 (AFf .u8 ((n / 16:Nat):Int) 4) ((n % 16:Nat):Int)) (g:=fun n=>AJ (UInt8.ofNat n)) (by kernel_rfl) (UInt8.ofNat (16 * x+y));grind[UInt8.ofNat,UInt8.toNat_ofNat']
theorem AuS{x y:Nat} (Bl:x<16) (hy:y<16):wr .u8 ((wr .u8 (16 * (x:Int)))+(y:Int))=AJ (UInt8.ofNat (16 * x+y)):=by grind[UInt8.ofNat,UInt8.toNat_ofNat',ANd,LX]
def AGd:List UInt8→Option UInt8 |a::b::_=>if(Kv a&&Kv b)=true then some (Bl a b)else none|_=>none
def ABr:Option UInt8→Int×Bool |some x=>(AJ x,true)|none=>(0,false)
section
variable{l t:List UInt8}{i:Nat}{c:UInt8}
theorem Ams (h:l.drop i=c::t) (hb:l.length≤2^40):Hu N l (i:Int)=some (ABr (AGd t)):=by
 have hi:i≤l.length:=by have:=bl List.length h;grind
 have hl:=Qi h hi;simp only[ag]at hl;unfold Hu;dsimp only[AB];rw[Aq ff];match t,h,hl with
 |[],h,hl=>simp only[an]at hl;rw[ap (by grind),ap rfl];rfl
 |[a],h,hl=>simp only[ag,an]at hl;rw[ap (by grind),ap rfl];rfl
 | a::b::r,h,hl=>
  simp only[ag]at hl;rw[aj (by grind),show wr .i64 ((i:Int)+1)=((i+1:Nat):Int) by grind[Aq],show wr .i64 ((i:Int)+2)=((i+2:Nat):Int) by grind[Aq],PE (j:=1) h rfl,PE (j:=2) h rfl,aa,aa,Y3,aa,aa,Y3,aa];unfold AGd;cases ha:Kv a;·grind[ABr]
  ·cases hb2:Kv b;·grind[ABr]
   ·simp only[bL,cd,aB,al,aC];rw[AC4 a ha,aa,aa,AC4 b hb2,aa,At7 (TG a ha) (TG b hb2)];simp[ABr,ha,hb2,Bl]
theorem AmW (h:l.drop i=37::t) (hb:l.length≤2^40):Ku N l (i:Int)=some (ABr (AGd t)):=by
 have hi:i≤l.length:=by have:=bl List.length h;grind
 have hl:=Qi h hi;simp only[ag]at hl;unfold Ku;dsimp only[AB];rw[show wr .i64 ((i:Int)+1)=((i+1:Nat):Int) by grind[Aq],show wr .i64 ((i:Int)+2)=((i+2:Nat):Int) by grind[Aq]];match t,h,hl with
 |[],h,hl=>simp only[an]at hl;rw[ap (by grind),ap rfl];rfl
 |[a],h,hl=>simp only[ag,an]at hl;rw[ap (by grind),ap rfl];rfl
 | a::b::r,h,hl=>
  simp only[ag]at hl;rw[aj (by grind),show idx l (i:Int)=some 37 from PE (j:=0) h rfl,aa,aj fh,PE (j:=1) h rfl,PE (j:=2) h rfl,aa,aa,Yu,aa,aa,Yu,aa];unfold AGd;cases ha:Kv a;·grind[ABr]
  ·cases hb2:Kv b;·grind[ABr]
   ·simp only[bL,cd,aB,al,aC];rw[ACj a ha,aa,aa,ACj b hb2,aa,AuS (TG a ha) (TG b hb2)];simp[ABr,ha,hb2,Bl]
theorem Ry{n:Nat} (h:n≤1000000000):Ac n 1:=by grind[Ac]
theorem ADT{x:UInt8} (h:AGd t=some x):2≤t.length:=by match t,h with |[],h=>cases h|[_],h=>cases h|_::_::_,_=>simp
theorem Ael (c:UInt8):(AJ c==37)=decide (c=37):=by have:=Cq (f:=fun n=>((n:Int)==37)) (g:=fun n=>decide (UInt8.ofNat n=37)) (by kernel_rfl) c;simp only[bY]at this;exact this
end
end
end Go.VM
namespace Go.VM
section
variable{N:Nat}
def AXa (n:Nat):UInt8:=([48,49,50,51,52,53,54,55,56,57,65,66,67,68,69,70]:List UInt8).getD n 0
def XH (c:UInt8):List UInt8:=[37,AXa (c.toNat / 16),AXa (c.toNat % 16)]
theorem ANO (c:UInt8):Jb N (AJ c)=some (XH c):=by have:=Cq (f:=fun n=>Jb N (n:Int)) (g:=fun n=>some ([37,AXa (n / 16),AXa (n % 16)]:List UInt8)) (by kernel_rfl) c;exact this
def XG (also:List UInt8):Nat→List UInt8→List UInt8→List UInt8×Int |0,_,_=>([],2)|_+1,[],out=>(out,0)| k+1,c::t,out=>if c=37 then(match AGd t with|some x=>XG also k (t.drop 2) (out++(if OP x=true then [x]else XH x))|none=>([],2)) else if(OP c||also.contains c)=true then XG also k t (out++[c])else([],1)
section
variable{l also:List UInt8}
theorem TF (hb:l.length≤100000) (ha:also.length≤1000): ∀(k:Nat) (t:List UInt8) (i:Nat) (out:List UInt8),l.drop i=t→i≤l.length→t.length<k→out.length≤3 * i→Cc N l also (fun j=>some (List.map FN j,0)) k (List.map AJ out) (i:Int)=some (XG also k t out)
 |0,t,i,out,_,_,h,_=>by omega
 | k+1,[],i,out,h,hi,hk,ho=>by have hl:=Qi h hi;rw[Cc,aj (by grind),Oz];rfl
 | k+1,c::t,i,out,h,hi,hk,ho=>by
  have hl:=Qi h hi;simp only[ag]at hl hk;rw[Cc,ap (by grind),AB,show idx l (i:Int)=some c from PE (j:=0) h rfl,aa,bne,Ael,XG];have hd:l.drop (i+1)=t:=by rw[←aT,h];rfl
  by_cases hc:c=37
  ·subst hc;rw[aF rfl,aj fh,ap rfl,AmW h ff,aa];cases he:AGd t with
   |none=>rfl
   | some x=>
    have:=ADT he;simp only[ABr,aB];rw[AB,AVk,aa];have e3:wr .i64 (wr .i64 ((i:Int)+2)+1)=((i+3:Nat):Int):=by grind[Aq]
    cases hu:OP x;·rw[aj fh,ANO,aa,AR (Ry (by grind[XH]))];dsimp only;rw[e3,show List.map AJ out++List.map AJ (XH x)=List.map AJ (out++XH x) by simp];exact TF hb ha k _ (i+3) (out++XH x) (by grind[List.drop_drop]) ff (by grind) (by grind[XH])
    ·rw[ap rfl,AR (Ry (by grind))];dsimp only;rw[e3,show List.map AJ out++[AJ x]=List.map AJ (out++[x]) by simp];exact TF hb ha k _ (i+3) (out++[x]) (by grind[List.drop_drop]) ff (by grind) (by grind)
  ·rw[aN hc,ap fh,aj hc,AB,AVk,aa];have step:grd (Ac ((List.map AJ out).length+1) 1) ((fun j6:List Int×Int=>Cc N l also (fun j=>some (List.map FN j,0)) k j6.1 (wr .i64 (j6.2+1))) (List.map AJ out++[AJ c],(i:Int)))=some (XG also k t (out++[c])):=by rw[AR (Ry (by grind))];dsimp only;rw[show wr .i64 ((i:Int)+1)=((i+1:Nat):Int) by grind[Aq],show List.map AJ out++[AJ c]=List.map AJ (out++[c]) by simp];exact TF hb ha k t (i+1) (out++[c]) hd ff ff (by grind)
   cases hu:OP c;·rw[aj fh,ATo c also ha,aa,bb];grind
   simp_all
end
def EH (N:Nat) (s also:List UInt8):List UInt8×Int:=if s.length>16384 then([],5)else XG also N s []
theorem QE (s also:List UInt8) (hN:20000≤N) (ha:also.length≤1000):FL N s also=some (EH N s also):=by
 unfold FL EH;by_cases h:s.length>16384;·rw[ap (by grind),ap h]
 ·rw[aj (by grind),aj h,AB];exact TF (l:=s) ff ha N s 0 [] rfl ff ff fg
end
end Go.VM
namespace Go.VM
section
variable{N:Nat}
theorem KV (c:UInt8): ∀l:List UInt8,decide (Go.Lib.indexByte l c≥0)=l.contains c
 |[]=>rfl
 | b::l=>by
  have ih:=KV c l;have hge:=Go.Lib.indexByte_ge l c;unfold Go.Lib.indexByte;rw[bu];by_cases h:b=c;·grind
  ·rw[aj (by grind),show(c==b)=false by grind,bb,←ih];by_cases h1:Go.Lib.indexByte l c= -1;·grind
   ·rw[aj (by grind)];congr 1;simp only[eq_iff_iff];constructor<;>intro<;>omega
theorem AAa (out:List UInt8) (c:UInt8) (ho:out.length≤900000000):FH N (List.map AJ out) (AJ c)=some (List.map AJ (out++XH c)):=by have h1:=Cq (f:=fun n=>idx ([48,49,50,51,52,53,54,55,56,57,65,66,67,68,69,70]:List UInt8) (AAs .u8 (n:Int) 4)) (g:=fun n=>some (AXa (n / 16))) (by kernel_rfl) c;have h2:=Cq (f:=fun n=>idx ([48,49,50,51,52,53,54,55,56,57,65,66,67,68,69,70]:List UInt8) (OC .u8 (n:Int) 15)) (g:=fun n=>some (AXa (n % 16))) (by kernel_rfl) c;unfold FH;rw[show AJ c=(c.toNat:Int)from rfl,h1,aa,h2,aa,AR (Ry (by grind))];simp[XH,AJ]
section
variable{l also:List UInt8}
theorem TZ (hb:l.length≤100000): ∀(k:Nat) (t:List UInt8) (i:Nat) (out:List UInt8),l.drop i=t→i≤l.length→t.length<k→out.length≤i→CG N l also (fun j=>some (List.map FN j,0)) k (i:Int) (List.map AJ out)=some (XG also k t out)
 |0,t,i,out,_,_,h,_=>by omega
 | k+1,[],i,out,h,hi,hk,ho=>by have hl:=Qi h hi;rw[CG,aj (by grind),Oz];rfl
 | k+1,c::t,i,out,h,hi,hk,ho=>by
  have hl:=Qi h hi;simp only[ag]at hl hk;rw[CG,ap (by grind)];dsimp only[AB];rw[show idx l (i:Int)=some c from PE (j:=0) h rfl,aa,Ael,XG];have hd:l.drop (i+1)=t:=by rw[←aT,h];rfl
  by_cases hc:c=37
  ·rw [aF hc,ap rfl,ap hc,Ams h ff,aa];cases he:AGd t with
   |none=>rfl
   | some x=>
    have:=ADT he;simp only[ABr,aB];rw[AVW,aa];have e3:wr .i64 (wr .i64 ((i:Int)+2)+1)=((i+3:Nat):Int):=by grind[Aq]
    cases hu:OP x;·rw[aj fh,AAa out x ff,aa,e3];exact TZ hb k _ (i+3) (out++XH x) (by grind[List.drop_drop]) ff (by grind) (by grind[XH])
    ·rw[ap rfl,AR (Ry (by grind)),e3,show List.map AJ out++[AJ x]=List.map AJ (out++[x]) by simp];exact TZ hb k _ (i+3) (out++[x]) (by grind[List.drop_drop]) ff (by grind) (by grind)
  ·rw[aN hc,aj fh,aj hc,AVW,aa,Ma,aa,KV];have step:grd (Ac ((List.map AJ out).length+1) 1) (CG N l also (fun j=>some (List.map FN j,0)) k (wr .i64 ((i:Int)+1)) (List.map AJ out++[AJ c]))=some (XG also k t (out++[c])):=by rw[AR (Ry (by grind)),show wr .i64 ((i:Int)+1)=((i+1:Nat):Int) by grind[Aq],show List.map AJ out++[AJ c]=List.map AJ (out++[c]) by simp];exact TZ hb k t (i+1) (out++[c]) hd ff ff (by grind)
   cases hu:OP c;·rw[aj fh,bb];grind
   simp_all
end
theorem QO (s also:List UInt8) (hN:20000≤N):CL N s also=some (EH N s also):=by
 unfold CL EH;by_cases h:s.length>16384;·rw[ap (by grind),ap h]
 ·rw[aj (by grind),aj h,AB];exact TZ (l:=s) ff N s 0 [] rfl ff ff fg
end
end Go.VM
namespace Go.VM
section
variable{N:Nat}
theorem KI{l:List UInt8}{i:Nat}{c:UInt8} (h:l[i]?=some c) (hc:c.toNat<128):DU l i=(c.toNat,1):=by
 have hi:i<l.length:=by grind
 have e:l[i]=c:=by grind
 unfold DU;have hs:i<(⟨l.toArray⟩:ByteArray).size:=hi;have Bl:((⟨l.toArray⟩:ByteArray)[i]'hs)=c:=e;grind[decode_ascii]
theorem AKd{set:List UInt8}{c:UInt8} (hc:c.toNat<128):CJ N set ((c.toNat:Nat):Int)=some (Go.Lib.indexByte set c):=by
 unfold CJ;dsimp only[AB];have e:wr .u8 ((c.toNat:Nat):Int)=AJ c:=by rw[ANd ff];rfl
 rw[ap fg,ap (by grind),e,Ma];rfl
def Yf (set l:List UInt8):Int:=if(l.any set.contains)=true then(((l.takeWhile fun c=>!set.contains c).length:Nat):Int)else-1
theorem ACw{as:List Bool}{set:List UInt8} (hs:AL6 as set) (k17:List Bool→Option Int): ∀(l:List UInt8) (i:Int),Cj N k17 l i as=if(l.any set.contains)=true then some (i+(((l.takeWhile fun c=>!set.contains c).length:Nat):Int))else k17 as
 |[],i=>by grind[Cj]
 | c::l,i=>by
  rw[Cj,AM3 hs,aa];dsimp only;cases h:set.contains c;·rw[aj fh,ACw hs k17 l (i+1)];simp only[cG,h,bb,aZ,bI,aB,ag];grind
  simp_all
theorem ACu{set l:List UInt8} (k24:Unit→Option Int): ∀(t pre:List UInt8) (k:Nat),l=pre++t→t.length<k→(∀c,c∈(t.takeWhile fun c=>!set.contains c)→c.toNat<128)→(∀c,c∈set→c.toNat<128)→BO N l set k24 k pre.length=if(t.any set.contains)=true then some (((pre.length+(t.takeWhile fun c=>!set.contains c).length:Nat):Int))else k24 ()
 |_,_,0,_,h,_,_=>by omega
 | [],pre,k+1,h,_,_,_=>by simp_all[BO]
 | c::t,pre,k+1,h,hk,ha,hset=>by
  simp only[ag]at hk;have hget:l[pre.length]?=some c:=by grind
  have hc:c.toNat<128:=by grind[Bl,List.takeWhile_cons]
  rw[BO,ap (by grind),KI hget hc];dsimp only;rw[AKd hc,aa,KV];cases Bl:set.contains c;·rw[aj fh];have:=ACu (l:=l) (set:=set) k24 t (pre++[c]) k (by grind) ff (fun x hm=>ha x (by simp_all)) hset;rw[ah,ba]at this;rw[this];simp only[cG,Bl,bb,aZ,bI,aB,ag];grind
  simp_all
theorem XD{set l:List UInt8} (h2:2≤set.length) (hs:set.length≤1000) (hset: ∀c,c∈set→c.toNat<128) (ha:l.length≤8→∀c,c∈(l.takeWhile fun c=>!set.contains c)→c.toNat<128) (hb:l.length≤1000000) (hN:20≤N):strings_IndexAny N l set=some (Yf set l):=by
 unfold strings_IndexAny Yf;have hne:set≠ []:=fun e=>by grind
 have hsh:strings_shouldUseASCIISet N (l.length:Int)=some (decide ((l.length:Int)>8)):=rfl;obtain⟨as,e1,e2⟩:=AjD (N:=N) set hset hs;rw[aj (by grind),aj (by grind)];dsimp only[AB];rw[hsh,aa];by_cases h:l.length>8;·rw[ap (by grind),e1,aa,AR AAG];dsimp only;rw[AR e2.1,ap rfl,Bt ff,ACw e2];split<;>simp
 ·rw[aj (by grind),show(0:Nat)=([]:List UInt8).length from rfl,ACu (l:=l) _ l [] N rfl ff (ha ff) hset];split<;>simp
end
end Go.VM
namespace Go.VM
section
variable{N:Nat}
theorem Ap6 (l:List UInt8) (i:Nat):(⟨l.toArray⟩:ByteArray).get! i=l.getD i 0:=by change (l.toArray[i]!)=_;rw[List.getElem!_toArray,List.getElem!_eq_getElem?_getD,List.getD_eq_getElem?_getD];rfl
theorem AOH{l:List UInt8}{i:Nat}{c:UInt8} (h:l[i]?=some c) (hc:128≤c.toNat):∃r w,DU l i=(r,w)∧128≤r∧r≤1114111∧(Go.Utf8.valid r=true)∧1≤w∧i+w≤l.length∧∀j,j<w→∀d,l[i+j]?=some d→128≤d.toNat:=by
 have hi:i<l.length:=by grind
 have h0:l.getD i 0=c:=by grind
 have one: ∀j,j<1→∀d,l[i+j]?=some d→128≤d.toNat:=fun j hj d hd=>by simp_all
 have bad: ∃r w,(Go.Utf8.runeError,1)=(r,w)∧128≤r∧r≤1114111∧(Go.Utf8.valid r=true)∧1≤w∧i+w≤l.length∧∀j,j<w→∀d,l[i+j]?=some d→128≤d.toNat:=⟨_,_,rfl,fh,fh,fh,aq 1,ff,one⟩;have hsz:(⟨l.toArray⟩:ByteArray).size=l.length:=rfl;unfold DU Go.Utf8.decode;simp only[Ap6,hsz,bO,h0];have hb:=UInt8.toNat_lt c;rw[aj ff];split
 ·rename_i h2;simp only[av,a8,au]at h2;split
  ·rename_i h3;refine⟨_,_,rfl,ff,ff,?_,ff,ff,fun j hj=>?_⟩;·unfold Go.Utf8.valid;simp only[cB,av,au];omega
   ·rcases (by omega:j=0∨j=1)with rfl|rfl;·grind
    grind
  omega
 split
 ·rename_i h2;simp only[av,a8,au]at h2;split
  ·rename_i h3;simp only[av,ge_iff_le,au]at h3;refine⟨_,_,rfl,ff,ff,h3.2,ff,ff,fun j hj=>?_⟩;rcases (by omega:j=0∨j=1∨j=2)with rfl|rfl|rfl;·grind
   ·grind
   grind
  omega
 split
 ·rename_i h2;simp only[av,a8,au]at h2;split
  ·rename_i h3;simp only[av,ge_iff_le,au]at h3;have hv:=h3.2;unfold Go.Utf8.valid at hv;simp only[cB,av,au]at hv;refine⟨_,_,rfl,ff,ff,h3.2,ff,ff,fun j hj=>?_⟩;rcases (by omega:j=0∨j=1∨j=2∨j=3)with rfl|rfl|rfl|rfl;·grind
   ·grind
   ·grind
   grind
  omega
 omega
theorem ZK{l:List UInt8}{set:List UInt8}: ∀(w i:Nat),i+w≤l.length→(∀j,j<w→∀d,l[i+j]?=some d→set.contains d=false)→(l.drop i).any set.contains=(l.drop (i+w)).any set.contains∧((l.drop i).takeWhile fun c=>!set.contains c).length=w+((l.drop (i+w)).takeWhile fun c=>!set.contains c).length |0,i,_,_=>by simp| w+1,i,h,hs=>by have hi:i<l.length:=ff;have h0:=hs 0 ff l[i] fg;obtain⟨e1,e2⟩:=ZK (l:=l) (set:=set) w (i+1) ff fun j hj d hd=>hs (j+1) ff d (by grind);rw[bG hi,cG,h0,bb,e1,aZ,h0];simp only[bI,aB,ag];rw[e2,show i+1+w=i+(w+1) by omega];exact⟨rfl,ff⟩
theorem AUM{r:Nat} (hv:Go.Utf8.valid r=true):Go.Utf8.encode (r:Int)=(if r<128 then⟨#[UInt8.ofNat r]⟩else if r<2048 then⟨#[UInt8.ofNat (0xC0+r / 64),UInt8.ofNat (0x80+r % 64)]⟩ else if r<65536 then⟨#[UInt8.ofNat (0xE0+r / 4096),UInt8.ofNat (0x80+r / 64 % 64),UInt8.ofNat (0x80+r % 64)]⟩ else⟨#[UInt8.ofNat (0xF0+r / 262144),UInt8.ofNat (0x80+r / 4096 % 64),UInt8.ofNat (0x80+r / 64 % 64),UInt8.ofNat (0x80+r % 64)]⟩:ByteArray):=by
 have e:(if Go.Utf8.valid r=true then(r:Int).toNat else Go.Utf8.runeError)=r:=by simp_all
 simp_all[Go.Utf8.encode]
theorem Aeh{n:Nat} (h:n<64):128≤(UInt8.ofNat (0x80+n)).toNat:=by grind[UInt8.toNat_ofNat']
theorem enc2{r:Nat} (hv:Go.Utf8.valid r=true) (h1: ¬r<128) (h2:r<2048): ∃a b,Go.Utf8.encode (r:Int)=⟨#[a,b]⟩∧128≤b.toNat:=by rw[AUM hv,aj h1,ap h2];exact⟨_,_,rfl,Aeh (Nat.mod_lt _ ff)⟩
theorem enc3{r:Nat} (hv:Go.Utf8.valid r=true) (h1: ¬r<128) (h2: ¬r<2048) (h3:r<65536): ∃a b c,Go.Utf8.encode (r:Int)=⟨#[a,b,c]⟩∧128≤c.toNat:=by rw[AUM hv,aj h1,aj h2,ap h3];exact⟨_,_,_,rfl,Aeh (Nat.mod_lt _ ff)⟩
theorem enc4{r:Nat} (hv:Go.Utf8.valid r=true) (h1: ¬r<128) (h2: ¬r<2048) (h3: ¬r<65536): ∃a b c d,Go.Utf8.encode (r:Int)=⟨#[a,b,c,d]⟩∧128≤d.toNat:=by rw[AUM hv,aj h1,aj h2,aj h3];exact⟨_,_,_,_,rfl,Aeh (Nat.mod_lt _ ff)⟩
theorem Atf{a b:UInt8}:(⟨#[a,b]⟩:ByteArray).data.toList=[a,b]:=rfl
theorem AtF{a b c:UInt8}:(⟨#[a,b,c]⟩:ByteArray).data.toList=[a,b,c]:=rfl
theorem Ass{a b c d:UInt8}:(⟨#[a,b,c,d]⟩:ByteArray).data.toList=[a,b,c,d]:=rfl
def HiT (u:List UInt8):Prop:= ∃k c,u.length=k+2∧k≤2∧u[k+1]?=some c∧128≤c.toNat
theorem AuK{a b:UInt8} (h:128≤b.toNat):HiT [a,b]:=⟨0,b,rfl,ff,rfl,h⟩
theorem Aut{a b c:UInt8} (h:128≤c.toNat):HiT [a,b,c]:=⟨1,c,rfl,ff,rfl,h⟩
theorem AuZ{a b c d:UInt8} (h:128≤d.toNat):HiT [a,b,c,d]:=⟨2,d,rfl,ff,rfl,h⟩
theorem AuJ{r:Nat} (hv:Go.Utf8.valid r=true) (h1: ¬r<128) (h:r<2048):HiT (Go.Utf8.encode (r:Int)).data.toList:=by grind[enc2,Atf,AuK]
theorem AuT{r:Nat} (hv:Go.Utf8.valid r=true) (h1: ¬r<128) (h: ¬r<2048) (h':r<65536):HiT (Go.Utf8.encode (r:Int)).data.toList:=by grind[enc3,AtF,Aut]
theorem AuB{r:Nat} (hv:Go.Utf8.valid r=true) (h1: ¬r<128) (h: ¬r<2048) (h': ¬r<65536):HiT (Go.Utf8.encode (r:Int)).data.toList:=by grind[enc4,Ass,AuZ]
theorem hiu{r:Nat} (hv:Go.Utf8.valid r=true) (h1: ¬r<128):HiT (Go.Utf8.encode (r:Int)).data.toList:=(Classical.em (r<2048)).elim (fun h=>AuJ hv h1 h) fun h=>(Classical.em (r<65536)).elim (fun h'=>AuT hv h1 h h') fun h'=>AuB hv h1 h h'
theorem AaO (q:Int):HZ q=(Go.Utf8.encode q).data.toList:=by rw[HZ]
theorem AWG{r:Nat} (hv:Go.Utf8.valid r=true) (h1: ¬r<128):HiT (HZ (r:Int)):=(AaO r).symm▸hiu hv h1
theorem Aqi{q:Int} (h:0≤q) (k:q<55296∨(57343<q∧q≤1114111)):CZ N q=some true:=by
 unfold CZ;have h0:decide (0≤q)=true:=aF h;by_cases h':q<55296;·have h1:=aF h';simp only[AB,h0,h1,aB]
 ·have h1:=aN h';have h2:decide (57343<q)=true:=aF ff;have h3:decide (q≤1114111)=true:=aF ff;simp only[AB,h0,h1,h2,h3,aB,al,aC]
theorem AQj{r:Nat} (hv:Go.Utf8.valid r=true):CZ N r=some true:=by unfold Go.Utf8.valid at hv;simp only[cB,av,au]at hv;grind[Aqi]
theorem AlL{q:Int}{u:List UInt8} (hu:HZ q=u){k15:Unit→Option Int} (n s9:Nat) (w:wr .i64 ((u.length:Int)-1)=(s9:Int)){c x:UInt8} (Bl:([58,47]:List UInt8)[s9]?=some x) (hc:u[s9]?=some c) (hne:(AJ x !=AJ c)=true){t:List UInt8} (ht:sub ([58,47]:List UInt8) (wr .i64 ((s9:Int)+1)) ((([58,47]:List UInt8).length:Nat):Int)=some t) (hb:strings_IndexByte N t (AJ c)=some (-1)) (hlt:s9<2):Au N [58,47] q k15 (n+1) (s9:Int)=some (-1):=by
 have e9:decide ((s9:Int)<((([58,47]:List UInt8).length:Nat):Int))=true:=by simp only[au,ag,an];omega
 rw[Au,ap e9];simp only[AB];rw[hu,w,Ei,Ei,Bl,aa,hc,aa,ap hne,ht,aa,hb,aa];rfl
theorem Ady{r:Nat}{k15:Unit→Option Int} (hr:128≤r) (hv:Go.Utf8.valid r=true) (hk:k15 ()=some (-1)) (n:Nat):Au N [58,47] (r:Int) k15 (n+1) (wr .i64 (((HZ (r:Int)).length:Int)-1))=some (-1):=by
 obtain⟨k,c,e1,e2,e3,e4⟩:=AWG hv ff;have w:wr .i64 (((HZ (r:Int)).length:Int)-1)=((k+1:Nat):Int):=by grind[Aq]
 have hc:c≠47:=fun e=>by simp_all
 generalize (r:Int)=q at *;rw[w];rcases (by omega:k=0∨¬k=0)with h0|h0;·subst h0;exact AlL (t:=[]) rfl n 1 w rfl e3 (by grind[bne,AeI]) rfl (by rw[Ma];rfl) ff
 ·rw[Au,aj (by simp only[au,ag,an];omega),hk]
theorem irh{r:Nat} (h0:decide (0≤(r:Int))=true) (h1:decide ((r:Int)<128)=false):CJ N [58,47] (r:Int)=if((r:Int)==65533)=true then Az N [58,47] (fun _=>some (-1)) N 0 else Option.bind (CZ N r) fun y12=>if y12=true then Au N [58,47] r (fun _=>some (-1)) N (wr .i64 (((HZ r).length:Int)-1))else some (-1):=by generalize (r:Int)=q at *;unfold CJ;dsimp only[AB];rw[ap h0,h1,aj fh]
theorem Afe{r:Nat} (hr:128≤r) (hv:Go.Utf8.valid r=true) (hN:20≤N):CJ N [58,47] (r:Int)=some (-1):=by
 obtain⟨n,rfl⟩: ∃n,N=n+3:=⟨N-3,ff⟩;rw[irh (aF ff) (aN ff)];by_cases h:((r:Int)==65533)=true;·have d0:DU ([58,47]:List UInt8) 0=(58,1):=KI (c:=58) rfl fh;have d1:DU ([58,47]:List UInt8) 1=(47,1):=KI (c:=47) rfl fh;rw[ap h,Az,ap fh,d0,aj fh];rw[Az,ap fh,show(0:Nat)+((58:Nat),(1:Nat)).2=1 from rfl,d1,aj fh];rw[Az,aj fh]
 ·rw[aj h,AQj hv,aa,ap rfl];exact Ady hr hv rfl _
theorem We{l:List UInt8} (hN:20≤N) (k24:Unit→Option Int): ∀(k i:Nat),i≤l.length→l.length-i<k→BO N l [58,47] k24 k i=if((l.drop i).any ([58,47]:List UInt8).contains)=true then some (((i+((l.drop i).takeWhile fun c=>!([58,47]:List UInt8).contains c).length:Nat):Int))else k24 ()
 |0,i,_,h=>by omega
 | k+1,i,hi,hk=>by
  rw[BO];by_cases he:i<l.length;case neg=>rw[aj (by grind),bC ff];rfl
  rw[ap (by grind)];have hget:l[i]?=some l[i]:=aK he;by_cases hc:l[i].toNat<128
  ·rw[KI hget hc];dsimp only;rw[AKd hc,aa,KV,bG he,cG,aZ];cases Bl:([58,47]:List UInt8).contains l[i];·rw[aj fh,We hN k24 k (i+1) ff ff];simp only[bb,bI,aB,ag];grind
   simp
  ·obtain⟨r,w,e1,e2,e3,e4,e5,e6,e7⟩:=AOH hget ff;rw[e1];dsimp only;rw[Afe e2 e4 hN,aa,aj fh,We hN k24 k (i+w) ff ff];obtain⟨s1,s2⟩:=ZK (set:=[58,47]) w i e6 fun j hj d hd=>by
    have:=e7 j hj d hd;have h1:d≠58:=fun e=>by simp_all
    have h2:d≠47:=fun e=>by simp_all
    grind
   grind
theorem AXb{l:List UInt8} (hb:l.length≤1000000) (hN:20≤N):strings_IndexAny N l [58,47]=some (Yf [58,47] l):=by
 by_cases h:l.length>8;·exact XD fh fh fh (fun h'=>absurd h' ff) hb hN
 ·have hsh:strings_shouldUseASCIISet N (l.length:Int)=some (decide ((l.length:Int)>8)):=rfl;unfold strings_IndexAny Yf;rw[aj fh,aj fh];dsimp only[AB];rw[hsh,aa,aj (by grind),We hN _ N 0 ff ff,aJ];split<;>simp
end
end Go.VM
namespace Go.VM
section
variable{N:Nat}
theorem AdD{q:Int}{u:List UInt8} (hu:HZ q=u){k15:Unit→Option Int} (n s9:Nat) (w:wr .i64 ((u.length:Int)-1)=(s9:Int)){c x:UInt8} (Bl:([13,10]:List UInt8)[s9]?=some x) (hc:u[s9]?=some c) (hne:(AJ x !=AJ c)=true){t:List UInt8} (ht:sub ([13,10]:List UInt8) (wr .i64 ((s9:Int)+1)) ((([13,10]:List UInt8).length:Nat):Int)=some t) (hb:strings_IndexByte N t (AJ c)=some (-1)) (hlt:s9<2):Au N [13,10] q k15 (n+1) (s9:Int)=some (-1):=by
 have e9:decide ((s9:Int)<((([13,10]:List UInt8).length:Nat):Int))=true:=by simp only[au,ag,an];omega
 rw[Au,ap e9];simp only[AB];rw[hu,w,Ei,Ei,Bl,aa,hc,aa,ap hne,ht,aa,hb,aa];rfl
theorem AaP{r:Nat}{k15:Unit→Option Int} (hr:128≤r) (hv:Go.Utf8.valid r=true) (hk:k15 ()=some (-1)) (n:Nat):Au N [13,10] (r:Int) k15 (n+1) (wr .i64 (((HZ (r:Int)).length:Int)-1))=some (-1):=by
 obtain⟨k,c,e1,e2,e3,e4⟩:=AWG hv ff;have w:wr .i64 (((HZ (r:Int)).length:Int)-1)=((k+1:Nat):Int):=by grind[Aq]
 have hc:c≠10:=fun e=>by simp_all
 generalize (r:Int)=q at *;rw[w];rcases (by omega:k=0∨¬k=0)with h0|h0;·subst h0;exact AdD (t:=[]) rfl n 1 w rfl e3 (by grind[bne,AeI]) rfl (by rw[Ma];rfl) ff
 ·rw[Au,aj (by simp only[au,ag,an];omega),hk]
theorem At4{r:Nat} (h0:decide (0≤(r:Int))=true) (h1:decide ((r:Int)<128)=false):CJ N [13,10] (r:Int)=if((r:Int)==65533)=true then Az N [13,10] (fun _=>some (-1)) N 0 else Option.bind (CZ N r) fun y12=>if y12=true then Au N [13,10] r (fun _=>some (-1)) N (wr .i64 (((HZ r).length:Int)-1))else some (-1):=by generalize (r:Int)=q at *;unfold CJ;dsimp only[AB];rw[ap h0,h1,aj fh]
theorem AXx{r:Nat} (hr:128≤r) (hv:Go.Utf8.valid r=true) (hN:20≤N):CJ N [13,10] (r:Int)=some (-1):=by
 obtain⟨n,rfl⟩: ∃n,N=n+3:=⟨N-3,ff⟩;rw[At4 (aF ff) (aN ff)];by_cases h:((r:Int)==65533)=true;·have d0:DU ([13,10]:List UInt8) 0=(13,1):=KI (c:=13) rfl fh;have d1:DU ([13,10]:List UInt8) 1=(10,1):=KI (c:=10) rfl fh;rw[ap h,Az,ap fh,d0,aj fh];rw[Az,ap fh,show(0:Nat)+((13:Nat),(1:Nat)).2=1 from rfl,d1,aj fh];rw[Az,aj fh]
 ·rw[aj h,AQj hv,aa,ap rfl];exact AaP hr hv rfl _
theorem UT{l:List UInt8} (hN:20≤N) (k24:Unit→Option Int): ∀(k i:Nat),i≤l.length→l.length-i<k→BO N l [13,10] k24 k i=if((l.drop i).any ([13,10]:List UInt8).contains)=true then some (((i+((l.drop i).takeWhile fun c=>!([13,10]:List UInt8).contains c).length:Nat):Int))else k24 ()
 |0,i,_,h=>by omega
 | k+1,i,hi,hk=>by
  rw[BO];by_cases he:i<l.length;case neg=>rw[aj (by grind),bC ff];rfl
  rw[ap (by grind)];have hget:l[i]?=some l[i]:=aK he;by_cases hc:l[i].toNat<128
  ·rw[KI hget hc];dsimp only;rw[AKd hc,aa,KV,bG he,cG,aZ];cases Bl:([13,10]:List UInt8).contains l[i];·rw[aj fh,UT hN k24 k (i+1) ff ff];simp only[bb,bI,aB,ag];grind
   simp
  ·obtain⟨r,w,e1,e2,e3,e4,e5,e6,e7⟩:=AOH hget ff;rw[e1];dsimp only;rw[AXx e2 e4 hN,aa,aj fh,UT hN k24 k (i+w) ff ff];obtain⟨s1,s2⟩:=ZK (set:=[13,10]) w i e6 fun j hj d hd=>by
    have:=e7 j hj d hd;have h1:d≠13:=fun e=>by simp_all
    have h2:d≠10:=fun e=>by simp_all
    grind
   grind
theorem AUI{l:List UInt8} (hb:l.length≤1000000) (hN:20≤N):strings_IndexAny N l [13,10]=some (Yf [13,10] l):=by
 by_cases h:l.length>8;·exact XD fh fh fh (fun h'=>absurd h' ff) hb hN
 ·have hsh:strings_shouldUseASCIISet N (l.length:Int)=some (decide ((l.length:Int)>8)):=rfl;unfold strings_IndexAny Yf;rw[aj fh,aj fh];dsimp only[AB];rw[hsh,aa,aj (by grind),UT hN _ N 0 ff ff,aJ];split<;>simp
end
end Go.VM
namespace Go.VM
section
variable{N:Nat}
theorem YH (set:List UInt8) (hs:set.length≤1000) (k2:Unit→Option Int) (n:Int) (h:k2 ()=some n): ∀(l:List UInt8) (i:Nat),((i+l.length:Nat):Int)=n→E9 N set k2 l (i:Int)=some ((i+(l.takeWhile fun c=>!set.contains c).length:Nat):Int)
 |[],i,hn=>by simp_all[E9]
 | c::l,i,hn=>by
  rw[E9,ATo _ _ hs,aa,aZ];cases hc:set.contains c;·simp only[ag]at hn;rw[aj fh,show(i:Int)+1=((i+1:Nat):Int) by simp,YH set hs k2 n h l (i+1) ff];simp only[bI,aB,ag];grind
  ·simp
theorem NM (l set:List UInt8) (hs:set.length≤1000) (hb:l.length≤2^60):Br N l set=some (((l.takeWhile fun c=>!set.contains c).length:Nat):Int):=by unfold Br;rw[AB,AR (by grind[AC]),show(0:Int)=((0:Nat):Int)from rfl,YH set hs _ _ rfl l 0 fg];simp
section
variable{s sg W F FR P EX:List UInt8}
end
end
end Go.VM
namespace Go.VM
section
variable{N:Nat}
def preB (p l:List UInt8):Bool:=if p.length≤l.length then l.take p.length==p else false
theorem ATL (p l:List UInt8):BZ N l p=some (preB p l):=by
 unfold BZ preB;by_cases h:p.length≤l.length;·rw[ap (by grind),ap h,show(0:Int)=((0:Nat):Int)from rfl,A8 l 0 _ (aH _) h,aa];simp
 ·rw[aj (by grind),aj h]
theorem TW (p l:List UInt8):strings_HasPrefix N l p=some (preB p l):=by grind[strings_HasPrefix,ATL]
theorem VG (p l:List UInt8):E8 N l p=some (preB p l):=by
 unfold E8 preB;by_cases h:p.length≤l.length;·rw[ap (by grind),ap h,show(0:Int)=((0:Nat):Int)from rfl,A8 l 0 _ (aH _) h,aa];simp
 ·rw[aj (by grind),aj h]
theorem Od{p l:List UInt8} (h:preB p l=true): ∃t,l=p++t:=by
 unfold preB at h;split at h;·have:=a8.1 h;grind[List.take_append_drop]
 grind
theorem Bw{l:List UInt8}{n:Nat} (h:n≤l.length):sub l (n:Int) (l.length:Int)=some (l.drop n):=by rw[A8 l n l.length h (aq _),aU fg]
theorem ANi (p l:List UInt8):strings_TrimPrefix N l p=some (if preB p l=true then l.drop p.length else l):=by
 unfold strings_TrimPrefix Dh;rw[ATL,aa];by_cases h:preB p l=true;·obtain⟨t,rfl⟩:=Od h;rw[ap h,ap h,Bw fg,aa,aa]
 simp_all
theorem AWa (p l:List UInt8):strings_CutPrefix N l p=some (if preB p l=true then(l.drop p.length,true)else(l,false)):=by
 unfold strings_CutPrefix Dw;rw[ATL,aa];by_cases h:preB p l=true;·obtain⟨t,rfl⟩:=Od h;rw[ap h,ap h,Bw fg,aa,aa]
 simp_all
def OV (l:List UInt8):Nat→Option Nat |0=>none|n+1=>if l[n]?=some 47 then some n else OV l n
theorem WO{l:List UInt8}{i:Nat}: ∀ {n:Nat},OV l n=some i→i<n
 |0,h=>by cases h
 | n+1,h=>by
  rw[OV]at h;split at h;·grind
  ·have:=WO h;omega
theorem b47 (c:UInt8):(AJ c==47)=decide (c=47):=by have:=Cq (f:=fun n=>((n:Int)==47)) (g:=fun n=>decide (UInt8.ofNat n=47)) (by kernel_rfl) c;simp only[bY]at this;exact this
theorem ACq{l:List UInt8} (hb:l.length≤1000000): ∀(n k:Nat),n≤l.length→n<k→Ab N l 47 (fun _=>some (-1)) k ((n:Int)-1)=some (match OV l n with|some i=>(i:Int)|none=> -1)
 |n,0,_,h=>by omega
 |0,k+1,_,_=>by rw[Ab,aj fh];rfl
 | n+1,k+1,hn,hk=>by
  rw[Ab,ap fg,show((n+1:Nat):Int)-1=(n:Int) by omega,Ei,aK ff,aa,b47,OV,aK ff];by_cases h:l[n]=47;·simp_all
  ·rw[aN h,aj fh,aj (by grind),Aq ff];exact ACq hb n k ff ff
theorem AC2 (l:List UInt8) (hb:l.length≤1000000) (hN:l.length<N):strings_LastIndexByte N l 47=some (match OV l l.length with|some i=>(i:Int)|none=> -1):=by unfold strings_LastIndexByte Cm;rw[AB,Aq ff,ACq hb l.length N (aq _) hN];rfl
def J7 (l:List UInt8):List UInt8:=match OV l l.length with|some i=>l.take i|none=>[]
theorem Zt{l:List UInt8} (hb:l.length≤1000000): ∀(n k:Nat),n≤l.length→n<k→Dx N l (fun _=>some []) k ((n:Int)-1)=some (match OV l n with|some i=>l.take i|none=>[])
 |n,0,_,h=>by omega
 |0,k+1,_,_=>by rw[Dx,aj fh];rfl
 | n+1,k+1,hn,hk=>by
  rw[Dx,ap fg,show((n+1:Nat):Int)-1=(n:Int) by omega,Ei,aK ff,aa,b47,OV,aK ff];by_cases h:l[n]=47;·rw[aF h,ap rfl,ap (by rw[h]),show(0:Int)=((0:Nat):Int)from rfl,A8 l 0 n (aH _) ff,aa];simp
  ·rw[aN h,aj fh,aj (by grind),Aq ff];exact Zt hb n k ff ff
theorem ACb (l:List UInt8) (hb:l.length≤1000000) (hN:l.length<N):Jp N l=some (J7 l):=by unfold Jp J7;rw[AB,Aq ff,Zt hb l.length N (aq _) hN]
def NL (s:List UInt8):Nat:=1+((s.drop 1).takeWhile (· !=47)).length
def KC:Nat→List UInt8→List UInt8→List UInt8 |0,_,_=>[]| k+1,s,out=>if s=[]then out else if preB [46,46,47] s=true then KC k (s.drop 3) out else if preB [46,47] s=true then KC k (s.drop 2) out else if preB [47,46,47] s=true then KC k (s.drop 2) out else if s=[47,46]then KC k [47] out else if preB [47,46,46,47] s=true then KC k (s.drop 3) (J7 out) else if s=[47,46,46]then KC k [47] (J7 out) else if s=[46]∨s=[46,46]then KC k [] out else KC k (s.drop (NL s)) (out++s.take (NL s))
theorem TJ (l:List UInt8):(J7 l).length≤l.length:=by grind[J7]
theorem AgP{s:List UInt8} (h:s≠ []):NL s≤s.length:=by cases s with |nil=>grind|cons c t=>grind[NL,Qe,List.drop_one,List.tail_cons,List.length_cons]
theorem Pz{p l:List UInt8} (h:preB p l=true):p.length≤l.length:=by obtain⟨t,rfl⟩:=Od h;simp
theorem Jq{M:Nat} (hM:M≤100000) (hN:M+100≤N) (k2:List UInt8→Option (List UInt8)): ∀(k:Nat) (s out:List UInt8),s.length<k→s.length+out.length≤M→Ak N k2 k s out=k2 (KC k s out)
 |0,s,out,h,_=>by omega
 | k + 1,s,out,hk,hb=>by
  rw[Ak,KC];by_cases h0:s=[];·simp_all
  have hpos:0<s.length:=dn.2 h0;have hso:=TJ out;rw[aj (by grind),aj h0,VG,aa];by_cases h1:preB [46,46,47] s=true;·have:=Pz h1;simp only[ag,an]at this;rw[ap h1,ap h1,show(3:Int)=((3:Nat):Int)from rfl,Bw ff,aa];exact Jq hM hN k2 k _ out (by grind) (by grind)
  rw[aj h1,aj h1,VG,aa];by_cases h2:preB [46,47] s=true;·have:=Pz h2;simp only[ag,an]at this;rw[ap h2,ap h2,show(2:Int)=((2:Nat):Int)from rfl,Bw ff,aa];exact Jq hM hN k2 k _ out (by grind) (by grind)
  rw[aj h2,aj h2,VG,aa];by_cases h3:preB [47,46,47] s=true;·have:=Pz h3;simp only[ag,an]at this;rw[ap h3,ap h3,show(2:Int)=((2:Nat):Int)from rfl,Bw ff,aa];exact Jq hM hN k2 k _ out (by grind) (by grind)
  rw[aj h3,aj h3];by_cases h4:s=[47,46];·rw[ap (by grind),ap h4];have:=bl List.length h4;simp only[ag,an]at this;exact Jq hM hN k2 k _ out (by grind) (by grind)
  rw[aj (by grind),aj h4,VG,aa];by_cases h5:preB [47,46,46,47] s=true;·have:=Pz h5;simp only[ag,an]at this;rw[ap h5,ap h5,show(3:Int)=((3:Nat):Int)from rfl,Bw ff,aa,ACb out ff ff,aa];exact Jq hM hN k2 k _ _ (by grind) (by grind)
  rw[aj h5,aj h5];by_cases h6:s=[47,46,46];·rw[ap (by grind),ap h6,ACb out ff ff,aa];have:=bl List.length h6;simp only[ag,an]at this;exact Jq hM hN k2 k _ _ (by grind) (by grind)
  rw[aj (by grind),aj h6];dsimp only[AB];have hdd:(if(s==([46]:List UInt8))=true then Ak N k2 k [] out else if(s==([46,46]:List UInt8))=true then Ak N k2 k [] out else Option.bind (sub s 1 (s.length:Int)) fun x26=>Option.bind (Br N x26 ([47]:List UInt8)) fun y27=>Option.bind (sub s (wr .i64 (1+y27)) (s.length:Int)) fun x29=>Option.bind (sub s 0 (wr .i64 (1+y27))) fun x30=>grd (AC (out.length+x30.length)) (Ak N k2 k x29 (out++x30)))=k2 (if s=[46]∨s=[46,46]then KC k [] out else KC k (s.drop (NL s)) (out++s.take (NL s))):=by
   have hrec:=Jq hM hN k2 k [] out (by grind) (by grind);by_cases h7:s=[46];·simp_all
   by_cases h8:s=[46,46];·simp_all
   have hw:(fun c:UInt8=>!([47]:List UInt8).contains c)=(fun c=>c !=47):=by grind
   have hsl:=AgP h0;rw[aj (by grind),aj (by grind),aj (by grind),show(1:Int)=((1:Nat):Int)from rfl,Bw ff,aa,NM _ [47] fh (by grind),aa,hw];have e:wr .i64 (((1:Nat):Int)+(((s.drop 1).takeWhile (fun c=>c !=47)).length:Int))=((NL s:Nat):Int):=by grind[NL,Aq]
   rw[e,Bw hsl,aa,show(0:Int)=((0:Nat):Int)from rfl,A8 s 0 _ (aH _) hsl,aa,Bt (by grind),aJ,be];have h1s:1≤NL s:=by grind[NL]
   exact Jq hM hN k2 k _ _ (by grind) (by grind)
  simp_all
theorem Ald (s:List UInt8) (hN:20000≤N) (hb:s.length≤16400):CX N s=some (KC N s []):=by unfold CX;rw[AB,Jq (M:=16400) ff ff _ N s [] ff fi]
theorem WS (s:List UInt8) (hN:100000≤N) (hb:s.length≤40000):CX N s=some (KC N s []):=by unfold CX;rw[AB,Jq (M:=40000) ff ff _ N s [] ff fi]
end
end Go.VM
namespace Go.VM
section
variable{N:Nat}
def DC (p:List UInt8):List UInt8→Option Nat |[]=>if p=[]then some 0 else none|x::l=>if p.isPrefixOf (x::l)=true then some 0 else(DC p l).map (· +1)
theorem NR{p:List UInt8}: ∀ {l:List UInt8}{k:Nat},DC p l=some k→k+p.length≤l.length∧(l.drop k).take p.length=p
 | [],k,h=>by
  unfold DC at h;split at h;·rename_i e;cases h;subst e;simp
  ·cases h
 | x::l,k,h=>by
  unfold DC at h;split at h;·rename_i e;cases h;obtain⟨t,ht⟩:=db.1 e;rw[←ht];simp
  ·cases hf:DC p l with |none=>rw[hf]at h;cases h| some i=>rw[hf]at h;cases h;obtain⟨h1,h2⟩:=NR hf;exact⟨by simp only[ag];omega,by simpa using h2⟩
theorem AfC{p:List UInt8} (l:List UInt8): ∀ {i:Nat},i<l.length→DC p (l.drop i)=if p.isPrefixOf (l.drop i)=true then some 0 else(DC p (l.drop (i+1))).map (· +1):=by intro i hi;rw[bG hi];rfl
theorem SN{p:List UInt8}: ∀ {l:List UInt8},l.length<p.length→DC p l=none
 | [],h=>by unfold DC;rw[aj (by intro e;subst e;simp at h)]
 | x::l,h=>by
  unfold DC;rw[aj,SN (by simp only[ag]at h;omega)];·rfl
  ·intro e;have:=(db.1 e).length_le;omega
def Pq (p l:List UInt8):Int:=match DC p l with|some k=>(k:Int)|none=> -1
theorem UY (p:List UInt8): ∀l:List UInt8,Go.Lib.index l p=Pq p l
 | []=>by unfold Pq DC Go.Lib.index;cases p<;>rfl
 | x::l=>by
  unfold Go.Lib.index;rw[UY p l];unfold Pq;rw[show DC p (x::l)=if p.isPrefixOf (x::l)=true then some 0 else(DC p l).map (· +1)from rfl];by_cases h:p.isPrefixOf (x::l)=true;·rw[ap h,ap h];rfl
  ·rw[aj h,aj h];cases DC p l with |none=>rfl| some k=>simp only[aI];rw[aj (by grind)];omega
theorem AkW{p l:List UInt8} (hp:2≤p.length) (hb:l.length≤1000000000):strings_Index N l p=some (Pq p l):=by unfold strings_Index A9;rw[aj fi,AR ff,aa,UY]
theorem ACT{p l:List UInt8} (hp:1≤p.length) (hb:l.length+p.length≤1000000000) (k2:Unit→Option Int): ∀(m i k:Nat),l.length-i=m→i≤l.length→l.length-i<k→Ng N l p k2 k (i:Int)=match DC p (l.drop i)with|some j=>some (((i+j:Nat):Int))|none=>k2 ()
 | m,i,k+1,hm,hi,hk=>by
  have w1:wr .i64 ((i:Int)+(p.length:Int))=((i+p.length:Nat):Int):=Aq ff;have w2:wr .i64 ((i:Int)+1)=((i+1:Nat):Int):=Aq ff;rw[Ng,w1];by_cases h:i+p.length≤l.length
  ·rw [ap fi,A8 l i (i+p.length) ff h,aa,show i+p.length-i=p.length by omega];have hi2:i<l.length:=ff;rw[AfC l hi2];have e:((l.drop i).take p.length==p)=p.isPrefixOf (l.drop i):=by rw[Bool.eq_iff_iff,a8,db];exact⟨fun h=>by rw[←h];exact List.take_prefix _ _,fun h=>(eD.1 h).symm⟩
   rw[e];by_cases h2:p.isPrefixOf (l.drop i)=true;·rw[ap h2,ap h2];simp
   ·rw[aj h2,aj h2,w2];cases m with |zero=>omega| succ m=>rw[ACT hp hb k2 m (i+1) k ff ff ff];cases DC p (l.drop (i+1))with |none=>rfl|some j=>simp only[aI];congr 2;omega
  ·rw[aj fi,SN (by rw[aM];omega)]
theorem Sg{p l:List UInt8} (hp:1≤p.length) (hb:l.length+p.length≤1000000000) (hN:l.length<N):Ie N l p=some (Pq p l):=by unfold Ie;rw[AB];have:=ACT (N:=N) hp hb (fun _=>some (-1)) l.length 0 N ff ff ff;rw[show((0:Nat):Int)=0 from rfl]at this;rw[this,aJ];unfold Pq;cases DC p l with |none=>rfl|some j=>simp
def Ba:List UInt8:=[13,10]
def Ia (l:List UInt8):List UInt8×List UInt8×Bool:=match DC Ba l with|some k=>(l.take k,l.drop (k+2),true)|none=>(l,[],false)
theorem AmS{l:List UInt8} (hb:l.length≤1000000000):strings_Cut N l [13,10]=some (Ia l):=by
 unfold strings_Cut EB;have hi:A9 N l [13,10]=some (Pq Ba l):=by unfold A9;rw[aj fh,AR ff,UY];rfl
 rw[hi,aa];unfold Pq Ia;cases h:DC Ba l with |none=>rw[aj fg];rfl| some k=>have h1:=(NR h).1;simp only[Ba,ag,an]at h1;have w:wr .i64 ((k:Int)+(([13,10]:List UInt8).length:Int))=((k+2:Nat):Int):=Aq (by simp only[ag,an];omega);rw[ap fg,show(0:Int)=((0:Nat):Int)from rfl,A8 l 0 k ff ff,aa,w,Bw ff,aa,aa];simp
theorem APO: ∀l:List UInt8,DC Ba (l++Ba)=some ((DC Ba l).getD l.length)
 |[]=>rfl
 | [x]=>by
  show(if Ba.isPrefixOf [x,13,10]=true then some 0 else(DC Ba [13,10]).map (· +1))=_;have h:Ba.isPrefixOf [x,13,10]=false:=by simp[Ba,List.isPrefixOf]
  rw[h];have h2:DC Ba [x]=none:=SN (by simp[Ba]);rw[h2];rfl
 | x::y::l=>by
  have ih:=APO (y::l);have e:Ba.isPrefixOf (x::y::l++Ba)=Ba.isPrefixOf (x::y::l):=by simp[Ba,List.isPrefixOf]
  rw[show DC Ba (x::y::l++Ba)=if Ba.isPrefixOf (x::y::l++Ba)=true then some 0 else(DC Ba (y::l++Ba)).map (· +1)from rfl,e,ih,show DC Ba (x::y::l)=if Ba.isPrefixOf (x::y::l)=true then some 0 else(DC Ba (y::l)).map (· +1)from rfl];by_cases h:Ba.isPrefixOf (x::y::l)=true;·rw[ap h,ap h];rfl
  ·rw[aj h,aj h];cases DC Ba (y::l)<;>rfl
end
end Go.VM
namespace Go.VM
section
variable{N:Nat}
theorem AFR: ∀(l:List UInt8) (n:Nat),n≤Ur n l |[],n=>aq _| c::l,n=>by have:=AFR l (n * 16+Fq c.toNat);rw[Ur];omega
def VK (m:Nat) (l:List UInt8):Int×Int:=if l=[]then(0,3)else if l.all Kv=true then(if Ur 0 l≤m then(((Ur 0 l:Nat):Int),0)else(0,4))else(0,1)
theorem AfP{m:Nat} (hm:m≤18446744073709551615) (k9:Int→Option (Int×Int)): ∀(l:List UInt8) (n:Nat),l.all Kv=true→n≤m→BC N 16 (m:Int) k9 l (n:Int)=if Ur n l≤m then k9 ((Ur n l:Nat):Int)else some (0,4)
 |[],n,_,hn=>by rw[BC,Ur,ap hn]
 | c::l,n,h,hn=>by
  simp only[bh,av]at h;have hd:=TG c h.1;have hge:=AFR l (n * 16+Fq c.toNat);rw[BC,AVc c h.1,aa,AB,AR fh];have w3:wr .u64 (18446744073709551615-((Fq c.toNat:Nat):Int))=18446744073709551615-((Fq c.toNat:Nat):Int):=Ff ff;rw[w3,bk ff,Ff (n:=(18446744073709551615-((Fq c.toNat:Nat):Int)) / 16) ff,Ur];by_cases c1:(n:Int)>(18446744073709551615-((Fq c.toNat:Nat):Int)) / 16;·rw[ap (aF c1),aj ff];rfl
  have w1:wr .u64 ((n:Int) * 16)=((n * 16:Nat):Int):=by rw[Ff ff];omega
  have w2:wr .u64 (((n * 16:Nat):Int)+((Fq c.toNat:Nat):Int))=((n * 16+Fq c.toNat:Nat):Int):=by rw[Ff ff];omega
  rw[aj (by simp only[au];exact c1),w1,w2];by_cases c2:n * 16+Fq c.toNat≤m;·have c3: ¬(((n * 16+Fq c.toNat:Nat):Int)>(m:Int)):=ff;rw[aN c3];simp only[al,aC];exact AfP hm k9 l _ h.2 c2
  ·have c3:(((n * 16+Fq c.toNat:Nat):Int)>(m:Int)):=ff;rw[aF c3,aj ff];rfl
theorem AfV{m:Nat} (hm:m≤18446744073709551615) (hm9:15≤m) (k9:Int→Option (Int×Int)): ∀(l:List UInt8) (n:Nat),l.all Kv=true→n≤m→CO N 16 (m:Int) k9 l (n:Int)=if Ur n l≤m then k9 ((Ur n l:Nat):Int)else some (0,4)
 |[],n,_,hn=>by rw[CO,Ur,ap hn]
 | c::l,n,h,hn=>by
  simp only[bh,av]at h;have hd:=TG c h.1;have hge:=AFR l (n * 16+Fq c.toNat);rw[CO];simp only[AB];have hv:=Alo c h.1;have key: ∀v:Int,v=((Fq c.toNat:Nat):Int)→(grd ((16:Int)≠0) (if decide ((n:Int)>wr .u64 ((m:Int).tdiv 16))=true then if true=true then(some (0,4):Option (Int×Int))else CO N 16 (m:Int) k9 l (wr .u64 (wr .u64 ((n:Int) * 16)+v))else if decide (wr .u64 ((n:Int) * 16)>wr .u64 ((m:Int)-v))=true then if true=true then some (0,4)else CO N 16 (m:Int) k9 l (wr .u64 (wr .u64 ((n:Int) * 16)+v))else if decide (v>(m:Int))=true then some (0,4)else CO N 16 (m:Int) k9 l (wr .u64 (wr .u64 ((n:Int) * 16)+v))))=if Ur (n * 16+Fq c.toNat) l≤m then k9 ((Ur (n * 16+Fq c.toNat) l:Nat):Int)else some (0,4):=by
   rintro v rfl;rw[AR fh,bk ff,Ff (n:=(m:Int) / 16) ff,Ff (n:=(m:Int)-((Fq c.toNat:Nat):Int)) ff];by_cases c1:(n:Int)>(m:Int) / 16;·rw[ap (aF c1),ap rfl,aj ff]
   have w1:wr .u64 ((n:Int) * 16)=((n * 16:Nat):Int):=by rw[Ff ff];omega
   rw[aj (by simp only[au];exact c1),w1];by_cases c2:((n * 16:Nat):Int)>(m:Int)-((Fq c.toNat:Nat):Int);·rw[ap (aF c2),ap rfl,aj ff]
   have w2:wr .u64 (((n * 16:Nat):Int)+((Fq c.toNat:Nat):Int))=((n * 16+Fq c.toNat:Nat):Int):=by rw[Ff ff];omega
   rw[aj (by simp only[au];exact c2),aj (by simp only[au];omega),w2];exact AfV hm hm9 k9 l _ h.2 ff
  rw[Ur];by_cases hc:AJ c>57;·simp only[hc,decide_true,aB]at hv⊢;exact key _ hv
  ·simp only[hc,dT,al,aC]at hv⊢;exact key _ hv
theorem AeJ{m:Nat} (hm:m≤18446744073709551615) (l:List UInt8) (hb:l.length≤2^60):NZ N l (m:Int)=some (VK m l):=by
 unfold NZ FW VK;by_cases h:l=[];·subst h;rfl
 ·rw[aj (by simpa using h),aj h];simp only[AB];rw[Bt ff,Bt ff,Aoe];by_cases h1:l.all Kv=true;·rw[ap h1,ap h1,show(0:Int)=((0:Nat):Int)from rfl,AfP hm _ l 0 h1 ff];split<;>rfl
  ·rw[aj h1,aj h1];rfl
theorem AiH{m:Nat} (hm:m≤18446744073709551615) (hm9:15≤m) (l:List UInt8) (hb:l.length≤2^60):S9 N l (m:Int)=some (VK m l):=by
 unfold S9 JR VK;by_cases h:l=[];·subst h;rfl
 ·rw[aj (by simpa using h),aj h];simp only[AB];rw[Bt ff,Bt ff,Aoa];by_cases h1:l.all Kv=true;·rw[ap h1,ap h1,show(0:Int)=((0:Nat):Int)from rfl,AfV hm hm9 _ l 0 h1 ff];split<;>rfl
  ·rw[aj h1,aj h1];rfl
end
end Go.VM
