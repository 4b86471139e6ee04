import GoSem.Claim
import Derived.Test.YtgfgogdgnkaedaaGreatDoorDefs
import Derived.KernelRfl
set_option linter.unusedVariables false
set_option linter.unusedSimpArgs false
namespace Go.VM
theorem Aq{n:Int} (h: -9223372036854775808≤n∧n≤9223372036854775807):wr .i64 n=n:=by grind[wr,IntKind.wrap,IntKind.bits,IntKind.signed]
theorem Ei{α:Type} (l:List α) (n:Nat):idx l (n:Int)=l[n]?:=by simp[idx]
theorem WF{α:Type} (pre suf:List α) (x:α):idx (pre++x::suf) (pre.length:Int)=some x:=by simp[idx]
theorem Ah1{α:Type} (pre:List α) (x:α):(pre.length:Int)+1=((pre++[x]).length:Int):=fg
theorem AVf{α:Type} (l:List α):sub l 0 (l.length:Int)=some l:=by simp[sub]
theorem A8{α:Type} (l:List α) (a b:Nat) (h1:a≤b) (h2:b≤l.length):sub l (a:Int) (b:Int)=some ((l.drop a).take (b-a)):=by grind[sub]
theorem AR{α:Type}{c:Prop} [Decidable c]{x:Option α} (h:c):grd c x=x:=by grind[grd]
theorem AUw{n b:Nat} (h:n≤1000000) (hb:b≤100000):Ac n b:=by unfold Ac;have:n * b≤1000000 * 100000:=eX h hb;omega
theorem Asm{α:Type}{n b:Nat}{x:Option α} (h:n≤1000000) (hb:b≤100000):grd (Ac n b) x=x:=AR (AUw h hb)
theorem Bt{α:Type}{n:Nat}{x:Option α} (h:n≤4611686018427387904):grd (AC n) x=x:=AR h
theorem AB{α β:Type} (k:α→Option β) (body:(α→Option β)→Option β){d:JD α}:AA k body d=body k:=rfl
theorem wf_u8{n:Int} (h:(Lit.int .u8 n).wf=true):0≤n∧n≤255:=by simp only[Lit.wf,av,au]at h;have e1:IntKind.u8.min=0:=fh;have e2:IntKind.u8.max=255:=fh;omega
end Go.VM
namespace Go.VM
def Ok{α:Type} (x:Option α) (P:α→Prop):Prop:= ∃a,x=some a∧P a
section
variable{α β:Type}{P:α→Prop}{Q:β→Prop}
theorem Ok.ret{a:α} (h:P a):Ok (some a) P:=⟨a,rfl,h⟩
theorem Ok.bind{x:Option β}{f:β→Option α} (h:Ok x Q) (k: ∀b,Q b→Ok (f b) P):Ok (Option.bind x f) P:=by obtain⟨b,rfl,hb⟩:=h;grind
theorem Ok.ite{c:Bool}{x y:Option α} (h1:c=true→Ok x P) (h2:c=false→Ok y P):Ok (if c=true then x else y) P:=by
 cases c;·simpa using h2 rfl
 ·simpa using h1 rfl
theorem Ok.grd{c:Prop} [Decidable c]{x:Option α} (hc:c) (h:Ok x P):Ok (grd c x) P:=by grind[AR]
theorem Ok.meet (J:β→Prop){k:β→Option α}{body:(β→Option α)→Option α}{d:JD β} (hk: ∀b,J b→Ok (k b) P) (hb: ∀k':β→Option α,(∀b,J b→Ok (k' b) P)→Ok (body k') P):Ok (AA k body d) P:=hb k hk
theorem Ok.letL{x:β}{f:β→Option α} (h:Ok (f x) P):Ok (letL x f) P:=h
theorem Ok.mono{x:Option α}{P':α→Prop} (h:Ok x P) (k: ∀a,P a→P' a):Ok x P':=by obtain⟨a,e,ha⟩:=h;exact⟨a,e,k a ha⟩
theorem Ok.idx{l:List α}{i:Int} (h0:0≤i) (h1:i<l.length):Ok (idx l i) (fun x=>l[i.toNat]?=some x):=by have:i.toNat<l.length:=ff;exact⟨l[i.toNat],by grind[VM.idx],aK this⟩
end
end Go.VM
namespace Go.VM
section
variable{N:Nat}
def FU (d:MadeDice):Prop:=(∀a,a∈d.l→0≤a∧a≤255)∧d.l.length≤1000
theorem Tx{d:MadeDice} (hd:FU d){n:Nat} (h1:1≤n):Ok (Af N d (n:Int)) fun r=>(0≤r.1∧r.1<n)∧FU r.2:=by
 unfold Af;have hz:Ok (some ((0:Int),d)) fun r=>(0≤r.1∧r.1<n)∧FU r.2:=.ret ⟨⟨bg _,by dsimp only;omega⟩,hd⟩;dsimp only[AB];cases hq:d.l with
 |nil=>exact hz
 | cons a t=>
  have hl:=hd.2;rw[hq]at hl;simp only[ag]at hl;obtain⟨a1,a2⟩:=hd.1 a (by rw[hq];simp);rw[aj fi];refine Ok.ite (fun _=>hz) fun _=>?_;have e1:sub (a::t) 1 ((a::t).length:Int)=some t:=by rw[show(1:Int)=((1:Nat):Int)from rfl,A8 _ 1 _ fg (aq _)];simp
  rw[show idx (a::t) 0=some a from rfl,aa,e1,aa,Aq ff];refine .grd ff (.ret ⟨⟨?_,?_⟩,fun b hb=>hd.1 b (by rw[hq];simp[hb]),by dsimp only;omega⟩);·exact Int.tmod_nonneg _ a1
  ·exact Int.tmod_lt_of_pos _ ff
theorem oneG{d:MadeDice} (hd:FU d){l:List (List UInt8)} (h1:1≤l.length):Ok (BJ N d l) fun r=>r.1∈l∧FU r.2:=by unfold BJ;refine .bind (Tx hd h1) fun y ⟨⟨y1,y2⟩,y3⟩=>?_;exact .bind (Ok.idx y1 y2) fun x hx=>.ret ⟨List.mem_of_getElem? hx,y3⟩
theorem YS{α:Type}{n:Nat}{x:Option α}{P:α→Prop} (h:n≤1000000) (hx:Ok x P):Ok (grd (AC n) x) P:=by rw[Bt ff];exact hx
def ADF:List (List UInt8):=[[97,46,101,120,97,109,112,108,101],[98,46,101,120,97,109,112,108,101],[99,46,101,120,97,109,112,108,101,58,56,52,52,51],[100,46,101,120,97,109,112,108,101]]
def AK9:List (List UInt8):=[[97,46,101,120,97,109,112,108,101],[98,46,101,120,97,109,112,108,101],[99,46,101,120,97,109,112,108,101,37,51,65,56,52,52,51],[100,46,101,120,97,109,112,108,101]]
def QP (l:List (List UInt8)) (m:List (List UInt8)):List (List UInt8):=l.flatMap fun a=>m.map fun b=>a++b
theorem Jo{l m:List (List UInt8)}{a b:List UInt8} (h1:a∈l) (h2:b∈m):a++b∈QP l m:=eC.2 ⟨a,h1,bo.2 ⟨b,h2,rfl⟩⟩
def ASd:List (List UInt8):=QP (QP (QP [[97,99,99,116,58],[65,67,67,84,58]] [[98,111,98],[97,109,121],[120,37,50,102,121],[99,43,100]]) [[64]]) [[97,46,101,120,97,109,112,108,101],[66,46,101,120,97,109,112,108,101],[99,46,101,120,97,109,112,108,101]]++(QP (QP (QP [[109,97,105,108,116,111,58]] [[98,111,98],[37,54,49,109,121],[99,43,100]]) [[64]]) [[97,46,101,120,97,109,112,108,101],[98,46,69,120,97,109,112,108,101]]++(QP (QP [[104,116,116,112,115,58,47,47]] ADF) [[],[47],[47,117,47,98,111,98],[47,46,47,120,63,121,61,49],[47,126,97,35,109,101]]++QP (QP [[100,105,100,58,119,101,98,58]] AK9) [[],[58,117],[58,117,58,98,111,98],[58,97,37,55,101,98]]))
theorem Aqt{d:MadeDice} (hd:FU d):Ok (Qf N d) fun r=>r.1∈ASd∧FU r.2:=by
 unfold Qf TD ASd;simp only[aV];refine .bind (Q:=fun r=>r.1∈ADF∧FU r.2) ?_ fun y ⟨y1,y2⟩=>?_;·exact .letL (.bind (oneG hd fh) fun r hr=>.ret hr)
 refine .bind (Tx y2 (n:=6) fh) fun z ⟨_,z1⟩=>?_;have hlen: ∀s,s∈ADF→s.length≤30:=fh;have hy:=hlen _ y1;refine .meet (fun _=>True) (fun j _=>?_) fun k' hk=>.ite (fun _=>hk _ trivial) fun _=>hk _ trivial;refine .ite (fun _=>?_) fun _=>.ite (fun _=>?_) fun _=>.ite (fun _=>?_) fun _=>?_;·refine .letL (.bind (oneG z1 fh) fun a ⟨a1,a2⟩=>?_);refine .letL (.bind (oneG a2 fh) fun b ⟨b1,b2⟩=>?_);have ha:a.1.length≤30:=(show∀s,s∈([[97,99,99,116,58],[65,67,67,84,58]]:List (List UInt8))→s.length≤30 by decide) _ a1;have hb:b.1.length≤30:=(show∀s,s∈([[98,111,98],[97,109,121],[120,37,50,102,121],[99,43,100]]:List (List UInt8))→s.length≤30 by decide) _ b1;refine YS ff (YS fi ?_);refine .letL (.bind (oneG b2 fh) fun c ⟨c1,c2⟩=>?_);have hc:c.1.length≤30:=(show∀s,s∈([[97,46,101,120,97,109,112,108,101],[66,46,101,120,97,109,112,108,101],[99,46,101,120,97,109,112,108,101]]:List (List UInt8))→s.length≤30 by decide) _ c1;exact YS fi (.ret ⟨.inl (Jo (Jo (Jo a1 b1) fh) c1),c2⟩)
 ·refine .letL (.bind (oneG z1 fh) fun a ⟨a1,a2⟩=>?_);have ha:a.1.length≤30:=(show∀s,s∈([[98,111,98],[37,54,49,109,121],[99,43,100]]:List (List UInt8))→s.length≤30 by decide) _ a1;refine YS fi (YS fi ?_);refine .letL (.bind (oneG a2 fh) fun c ⟨c1,c2⟩=>?_);have hc:c.1.length≤30:=(show∀s,s∈([[97,46,101,120,97,109,112,108,101],[98,46,69,120,97,109,112,108,101]]:List (List UInt8))→s.length≤30 by decide) _ c1;exact YS fi (.ret ⟨.inr (.inl (Jo (Jo (Jo fh a1) fh) c1)),c2⟩)
 ·refine YS fi ?_;refine .letL (.bind (oneG z1 fh) fun a ⟨a1,a2⟩=>?_);have ha:a.1.length≤30:=(show∀s,s∈([[],[47],[47,117,47,98,111,98],[47,46,47,120,63,121,61,49],[47,126,97,35,109,101]]:List (List UInt8))→s.length≤30 by decide) _ a1;exact YS fi (.ret ⟨.inr (.inr (.inl (Jo (Jo fh y1) a1))),a2⟩)
 ·refine .meet (fun j=>j∈AK9∧j.length≤30) (fun j ⟨hj,hj2⟩=>?_) fun k' hk=>.ite (fun _=>hk _ fh) fun hne=>hk _ ?_;·refine YS fi ?_;refine .letL (.bind (oneG z1 fh) fun a ⟨a1,a2⟩=>?_);have ha:a.1.length≤30:=(show∀s,s∈([[],[58,117],[58,117,58,98,111,98],[58,97,37,55,101,98]]:List (List UInt8))→s.length≤30 by decide) _ a1;exact YS fi (.ret ⟨.inr (.inr (.inr (Jo (Jo fh hj) a1))),a2⟩)
  ·refine⟨?_,hy⟩;revert hne;generalize y.1=h at y1;have: ∀s,s∈ADF→(s==([99,46,101,120,97,109,112,108,101,58,56,52,52,51]:List UInt8))=false→s∈AK9:=fh;exact this h y1
theorem Asb (a0:List Int) (h: ∀a,a∈a0→0≤a∧a≤255):Ok (PD N a0) FU:=by
 unfold PD;have e:(if 200<(a0.length:Int)then 200 else(a0.length:Int))=((min 200 a0.length:Nat):Int):=by split<;>omega
 rw[e,show(0:Int)=((0:Nat):Int)from rfl,A8 _ 0 _ (aH _) ff,aa];refine .ret ⟨fun a ha=>h a ?_,?_⟩;·exact cC (da ha)
 ·simp only[aY,aM];omega
end
end Go.VM
namespace Go.VM
theorem LX (c:UInt8):AJ c=(c.toNat:Int):=rfl
theorem QT (c:UInt8):FN (AJ c)=c:=by simp[FN,AJ]
theorem toNat_ofNat{n:Nat} (h:n<256):(UInt8.ofNat n).toNat=n:=by simp_all
theorem ANd{n:Int} (h:0≤n∧n<256):wr .u8 n=n:=by grind[wr,IntKind.wrap,IntKind.bits,IntKind.signed]
theorem Ff{n:Int} (h:0≤n∧n<18446744073709551616):wr .u64 n=n:=by grind[wr,IntKind.wrap,IntKind.bits,IntKind.signed]
theorem AUr{n:Nat}:wr .u8 (n:Int)=((n % 256:Nat):Int):=by grind[wr,IntKind.wrap,IntKind.bits,IntKind.signed]
end Go.VM
namespace Go.VM
section
variable{N:Nat}
end
end Go.VM
namespace Go.VM
section
variable{N:Nat}
theorem PE{α:Type}{l t:List α}{x:α}{i j:Nat} (h:l.drop i=t) (hx:t[j]?=some x):idx l ((i+j:Nat):Int)=some x:=by rw[Ei,←bN,h,hx]
theorem Qi{α:Type}{l t:List α}{i:Nat} (h:l.drop i=t) (hi:i≤l.length):l.length=i+t.length:=by have:=bl List.length h;grind
section
variable{l t:List UInt8}{i:Nat}{k13:Int→Option (Int×Int×Int)}
end
end
end Go.VM
namespace Go.VM
section
variable{N:Nat}
end
end Go.VM
namespace Go.VM
section
variable{N:Nat}
theorem Cq{α:Type} [DecidableEq α]{f g:Nat→α} (h:(List.range 256).all (fun n=>decide (f n=g n))=true) (c:UInt8):f c.toNat=g c.toNat:=by have:=aR.1 h c.toNat (dW.2 c.toNat_lt);grind
def Rw (n:Nat):Bool:=(decide (48≤n)&&decide (n≤57))||(decide (65≤n)&&decide (n≤70))||(decide (97≤n)&&decide (n≤102))
def Kv (c:UInt8):Bool:=Rw c.toNat
def Fq (n:Nat):Nat:=if n≤57 then n-48 else if n≤70 then n-55 else n-87
theorem TG (c:UInt8) (h:Kv c=true):Fq c.toNat<16:=by simp only[Kv,Rw,cB,av,au]at h;unfold Fq;split<;>(grind)<;>omega
theorem Y3 (c:UInt8):JN N (AJ c)=some (Kv c):=Cq (f:=fun n=>JN N (n:Int)) (g:=fun n=>some (Rw n)) (by kernel_rfl) c
theorem Yu (c:UInt8):IV N (AJ c)=some (Kv c):=Cq (f:=fun n=>IV N (n:Int)) (g:=fun n=>some (Rw n)) (by kernel_rfl) c
theorem AVc (c:UInt8) (h:Kv c=true):K4 N (AJ c)=some ((Fq c.toNat:Nat):Int):=by have:=Cq (f:=fun n=>if Rw n=true then K4 N (n:Int)else none) (g:=fun n=>if Rw n=true then some ((Fq n:Nat):Int)else none) (by kernel_rfl) c;simp only[show Rw c.toNat=true from h,aB]at this;exact this
theorem Alo (c:UInt8) (h:Kv c=true):(if decide (AJ c>57)=true then wr .u64 (wr .u64 (wr .u64 (N8 .u8 (AJ c) 32)-97)+10)else wr .u64 (wr .u8 (AJ c-48)))=((Fq c.toNat:Nat):Int):=by have:=Cq (f:=fun n=>if Rw n=true then(if decide ((n:Int)>57)=true then wr .u64 (wr .u64 (wr .u64 (N8 .u8 (n:Int) 32)-97)+10)else wr .u64 (wr .u8 ((n:Int)-48)))else 0) (g:=fun n=>if Rw n=true then((Fq n:Nat):Int)else 0) (by kernel_rfl) c;simp only[show Rw c.toNat=true from h,aB]at this;exact this
def Ur (n:Nat):List UInt8→Nat |[]=>n|c::l=>Ur (n * 16+Fq c.toNat) l
theorem Aoe (k2:Unit→Option (Int×Int)): ∀l:List UInt8,BF N k2 l=if l.all Kv=true then k2 ()else some (0,1) |[]=>by rw[BF];rfl| c::l=>by rw[BF,Y3,aa,Aoe k2 l];cases h:Kv c<;>simp[h]
theorem Aoa (k2:Unit→Option (Int×Int)): ∀l:List UInt8,DL N 16 k2 l=if l.all Kv=true then k2 ()else some (0,1) |[]=>by grind[DL]| c::l=>by rw[DL,AB,show((16:Int)==10)=false from rfl,show((16:Int)==16)=true from rfl];simp only[al,aC,aB];rw[Yu,aa,Aoa k2 l];cases h:Kv c<;>simp[h]
end
end Go.VM
namespace Go.VM
section
variable{N:Nat}
end
end Go.VM
namespace Go.VM
section
variable{N:Nat}
section
variable{l:List UInt8}
end
end
end Go.VM
namespace Go.VM
section
variable{N:Nat}
theorem Ho{α:Type} (p:α→Bool) (t:List α):t.take (t.takeWhile p).length=t.takeWhile p:=(eD.1 (List.takeWhile_prefix p)).symm
theorem Qe{α:Type} (p:α→Bool) (t:List α):(t.takeWhile p).length≤t.length:=(List.takeWhile_sublist p).length_le
def Gg (c:UInt8):Bool:=decide (48≤c.toNat)&&decide (c.toNat≤57)
def Z4 (n:Nat):Bool:=(decide (65≤n)&&decide (n≤90))||(decide (97≤n)&&decide (n≤122))
def Mm (c:UInt8):Bool:=Z4 c.toNat
theorem Yt (c:UInt8):Ce N (AJ c)=some (Gg c):=Cq (f:=fun n=>Ce N (n:Int)) (g:=fun n=>some (decide (48≤n)&&decide (n≤57))) (by kernel_rfl) c
theorem Yy (c:UInt8):Cu N (AJ c)=some (Gg c):=Cq (f:=fun n=>Cu N (n:Int)) (g:=fun n=>some (decide (48≤n)&&decide (n≤57))) (by kernel_rfl) c
theorem TR (c:UInt8):Fv N (AJ c)=some (Mm c):=Cq (f:=fun n=>Fv N (n:Int)) (g:=fun n=>some (Z4 n)) (by kernel_rfl) c
theorem Xd (c:UInt8):Es N (AJ c)=some (Mm c):=Cq (f:=fun n=>Es N (n:Int)) (g:=fun n=>some (Z4 n)) (by kernel_rfl) c
theorem AO9 (c:UInt8) (k2:Unit→Option Bool) (h:k2 ()=some false): ∀l:List UInt8,IP N (AJ c) k2 l=some (l.contains c)
 |[]=>by grind[IP]
 | x::l=>by
  rw[IP,AO9 c k2 h l,bu];by_cases e:x=c;·grind
  ·have e1: ¬c=x:=fun h=>e h.symm;have:(AJ x==AJ c)=false:=by have: ¬x.toNat=c.toNat:=fun h=>e (dt.1 h);simp only[AJ,bc,ew];omega
   grind
theorem ATo (c:UInt8) (l:List UInt8) (h:l.length≤1000):I5 N (AJ c) l=some (l.contains c):=by unfold I5;rw[AB,Bt ff];exact AO9 c _ rfl l
theorem Ma (l:List UInt8) (c:UInt8):strings_IndexByte N l (AJ c)=some (Go.Lib.indexByte l c):=by grind[strings_IndexByte,Dr,QT]
section
variable{l:List UInt8}
variable{t:List UInt8}{i:Nat}
def AQz (set t:List UInt8):Bool:=match t with|c::_=>set.contains c|[]=>false
def AdL (t:List UInt8):Nat:=(t.takeWhile Gg).length
def WH (t:List UInt8):Nat:=if AQz [45] t=true then 1 else 0
def AjI (t:List UInt8):Nat:=if AQz [48] t=true then 1 else AdL t
def AoK (t:List UInt8):Nat:=if AQz [46] t=true∧0<AdL (t.drop 1)then 1+AdL (t.drop 1)else 0
def Ao8 (t:List UInt8):Nat:=if AQz [43,45] (t.drop 1)=true then 1 else 0
def Aul (t:List UInt8):Nat:=if AQz [101,69] t=true∧0<AdL (t.drop (1+Ao8 t))then 1+Ao8 t+AdL (t.drop (1+Ao8 t))else 0
def At5 (t:List UInt8):Nat:=if AjI (t.drop (WH t))=0 then 0 else WH t+AjI (t.drop (WH t))+AoK (t.drop (WH t+AjI (t.drop (WH t))))+Aul (t.drop (WH t+AjI (t.drop (WH t))+AoK (t.drop (WH t+AjI (t.drop (WH t))))))
end
end
end Go.VM
namespace Go.VM
section
variable{N:Nat}
theorem Ik{α β:Type}{K:α→Option β}{body:(α→Option β)→Option β}{a:α}{d:JD α} (h: ∀k:α→Option β,body k=k a):AA K body d=K a:=h K
end
end Go.VM
namespace Go.VM
section
variable{N:Nat}
theorem OG: ∀(l:List UInt8) (c:UInt8),Go.Lib.indexByte l c=if l.contains c=true then(((l.takeWhile (· !=c)).length:Nat):Int)else-1
 |[],c=>rfl
 | x::l,c=>by
  have ih:=OG l c;rw[Go.Lib.indexByte,bu];by_cases e:x=c;·simp_all
  ·have e1:(c==x)=false:=by grind
   simp_all
theorem Kc{α:Type} (p:α→Bool) (l:List α):l.drop (l.takeWhile p).length=l.dropWhile p:=by
 have:=bm (p:=p) (l:=l);conv=>lhs;rw[←this]
 rw[cb,bC fg,this];simp
def BN (c:UInt8) (l:List UInt8):List UInt8×List UInt8×Bool:=if l.contains c=true then(l.takeWhile (· !=c),(l.dropWhile (· !=c)).drop 1,true)else(l,[],false)
theorem P7{c:UInt8}: ∀ {l:List UInt8},l.contains c=true→(l.takeWhile (· !=c)).length<l.length
 |[],h=>by cases h
 | x::l,h=>by
  rw[aZ];by_cases e:x=c;·grind
  ·have e3:(x !=c)=true:=by grind
   rw[bu]at h;have e1:(c==x)=false:=by grind
   rw[e1,bb]at h;rw[e3];have:=P7 h;simp_all
theorem SL (c:UInt8) (l:List UInt8) (hb:l.length≤2^60):strings_Cut N l [c]=some (BN c l):=by
 unfold strings_Cut EB A9 BN;have hI:(if((([c]:List UInt8).length:Int)==1)=true then some (Go.Lib.indexByte l (([c]:List UInt8).headD 0))else grd (l.length<4294967281) (some (Go.Lib.index l [c])))=some (Go.Lib.indexByte l c):=ap (by rfl);rw[hI,aa,OG];by_cases h:l.contains c=true
 ·have hlt:=P7 h;simp only[h,aB];generalize hn:(l.takeWhile (· !=c)).length=n at *;have w:wr .i64 ((n:Int)+(([c]:List UInt8).length:Int))=((n+1:Nat):Int):=by grind[Aq]
  rw[ap fg,show(0:Int)=((0:Nat):Int)from rfl,A8 l 0 n ff ff,aa,w,A8 l (n+1) l.length ff ff,aa,aa];rw[aJ,be,←hn,Ho,aU fg,←aT,Kc]
 simp_all
theorem Lp (c:UInt8) (l:List UInt8):(BN c l).1.length≤l.length∧(BN c l).2.1.length≤l.length:=by grind[BN,Qe,List.dropWhile_sublist,List.length_drop]
theorem Za (x c:UInt8):(AJ x==AJ c)=(x==c):=by
 by_cases h:x=c;·grind
 ·have: ¬x.toNat=c.toNat:=fun e=>h (dt.1 e);have h2:(x==c)=false:=by grind
  rw[h2];simp only[AJ,bc,ew];omega
theorem APF{α:Type} (x:α) (l:List α):sub (x::l) 1 (((x::l).length:Nat):Int)=some l:=by have:=A8 (x::l) 1 (x::l).length fg (aq _);simp_all
def X8 (p:UInt8→Bool) (l:List UInt8):List UInt8:=(l.reverse.dropWhile p).reverse
theorem ZE (p:UInt8→Bool) (l:List UInt8) (x:UInt8):X8 p (l++[x])=if p x=true then X8 p l else l++[x]:=by unfold X8;rw[List.reverse_append,List.reverse_cons,List.reverse_nil,bv,List.singleton_append,bS];split<;>simp
theorem Agb (p:UInt8→Bool) (l:List UInt8):(X8 p l).length≤l.length:=by grind[X8,List.dropWhile_sublist]
theorem APo{α:Type} (l:List α) (x:α) (hb:l.length≤2^60):sub (l++[x]) 0 (wr .i64 ((((l++[x]).length:Nat):Int)-1))=some l:=by rw[Aq (by grind),show(((l++[x]).length:Nat):Int)-1=(l.length:Int) by simp,show(0:Int)=((0:Nat):Int)from rfl,A8 _ 0 l.length ff fg];simp
theorem AMB{α:Type} (l:List α) (x:α) (hb:l.length≤2^60):idx (l++[x]) (wr .i64 ((((l++[x]).length:Nat):Int)-1))=some x:=by rw[Aq (by grind),show(((l++[x]).length:Nat):Int)-1=(l.length:Int) by simp,Ei];simp
def AL6 (as:List Bool) (set:List UInt8):Prop:=as.length=256∧ ∀c:UInt8,as[c.toNat]?=some (set.contains c)
theorem APq (k2:List Bool→Option (List Bool×Bool)) (done:List UInt8): ∀(l:List UInt8) (done:List UInt8) (bn:List Bool),(∀c∈l,c.toNat<128)→AL6 bn done→∃as,Bq N k2 l bn=k2 as∧AL6 as (done++l)
 |[],done,bn,hl,hs=>⟨bn,by rw[Bq],by grind⟩
 | x::l,done,bn,hl,hs=>by
  have hx:=hl x fg;have c1: ¬AJ x≥128:=by grind[AJ]
  obtain⟨as,h1,h2⟩:=APq k2 done l (done++[x]) (bn.set x.toNat true) (fun c hc=>hl c (by grind)) ⟨by simp[hs.1],fun c=>by
   rw[c8];by_cases e:x.toNat=c.toNat;·have:x=c:=dt.1 e;subst this;rw[ap rfl,ap (by rw[hs.1];omega)];simp
   ·rw[aj e,hs.2 c];grind⟩;refine⟨as,?_,by grind⟩;rw[Bq,aj (by grind),AR (by grind[AJ]),AR (by rw[hs.1];omega)];exact h1
theorem AjD (set:List UInt8) (hl: ∀c∈set,c.toNat<128) (hb:set.length≤1000): ∃as,strings_makeASCIISet N set=some (as,true)∧AL6 as set:=by unfold strings_makeASCIISet;rw[AB,AR (by grind[AC])];obtain⟨as,h1,h2⟩:=APq (N:=N) (fun j1=>grd (j1.length=256) (some (j1,true))) [] set [] (ADP 256) hl ⟨AAG,fun c=>by have:=c.toNat_lt;rw[ADP,List.getElem?_replicate,ap ff];rfl⟩;exact⟨as,by rw[h1,AR h2.1],h2⟩
theorem AM3{as:List Bool}{set:List UInt8} (h:AL6 as set) (c:UInt8):Dz N as (AJ c)=some (set.contains c,as):=by have:=c.toNat_lt;unfold Dz;rw[AR (by grind[AJ]),LX,Ei,h.2 c];rfl
def Afb (n:Nat):Nat:=if 65≤n∧n≤90 then n+32 else n
def FI (c:UInt8):UInt8:=UInt8.ofNat (Afb c.toNat)
theorem AOD (l:List UInt8) (hb:l.length≤2^60) (k2:List Int→Option (List UInt8)): ∀(t pre:List UInt8),l=pre++t→Ew N l k2 t (pre.length:Int) (List.map AJ (pre.map FI)++List.map AJ t)=k2 (List.map AJ (l.map FI))
 |[],pre,h=>by grind[Ew]
 | c::t,pre,h=>by
  have hlen:pre.length<l.length:=by grind
  have hc:=c.toNat_lt;rw[Ew];refine(Ik (a:=List.map AJ (pre.map FI)++(AJ (FI c)::List.map AJ t)) fun k7=>?_).trans ?_
  ·rw [AR ff,aE];have hi:idx (List.map AJ (pre.map FI)++AJ c::List.map AJ t) (pre.length:Int)=some (AJ c):=by grind[WF,List.map,AJ,FI]
   rw[hi,aa];refine(Ik (a:=decide (65≤c.toNat∧c.toNat≤90)) fun k12=>?_).trans ?_
   ·by_cases h1:65≤c.toNat
    ·have:(65:Int)≤AJ c:=by grind[AJ]
     rw[ap (aF this)];congr 1;simp only[AJ,h1,dB];congr 1;simp only[eq_iff_iff];omega
    ·have: ¬(65:Int)≤AJ c:=by grind[AJ]
     rw[aj (by grind),aN (fun h=>h1 h.1)]
   try dsimp only
   by_cases h1:65≤c.toNat∧c.toNat≤90
   ·rw[ap (aF h1),AR (by simp<;>omega)];have e:FI c=UInt8.ofNat (c.toNat+32):=by simp_all[FI,Afb]
    have e2:AJ (FI c)=wr .u8 (AJ c+32):=by grind[ANd,AJ,toNat_ofNat]
    simp_all
   ·rw[aj (by grind)];have e:FI c=c:=by unfold FI Afb;rw[aj h1];simp
    rw[e]
  ·try dsimp only
   have:=AOD l hb k2 t (pre++[c]) (by grind);simp_all
theorem lower_eq (l:List UInt8) (hb:l.length≤2^60):Eg N l=some (l.map FI):=by unfold Eg;rw[AB,AR (by grind[AC])];have:=AOD (N:=N) l hb (fun j1=>grd (l.length≤j1.length∧AC l.length) (some (List.map FN (List.take l.length j1)))) l [] rfl;simp only[cc,bv,an]at this;rw[show(0:Int)=((0:Nat):Int)from rfl,this,AR (by grind[AC]),aU fg];congr 1;induction l with |nil=>rfl|cons c l ih=>simp[QT]
end
end Go.VM
namespace Go.VM
section
variable{N:Nat}
theorem YM: ∀l:List UInt8,List.map FN (List.map AJ l)=l |[]=>rfl|c::l=>by rw[aE,aE,QT,YM l]
def AIZ:Nat→Nat→List UInt8→List UInt8 |0,_,acc=>acc|k+1,n,acc=>if n / 10=0 then UInt8.ofNat (48+n % 10)::acc else AIZ k (n / 10) (UInt8.ofNat (48+n % 10)::acc)
def fmtS (n:Nat):List UInt8:=AIZ 20 n []
theorem ANq: ∀(k n:Nat) (acc:List UInt8),(AIZ k n acc).length≤acc.length+k
 |0,n,acc=>by simp[AIZ]
 | k+1,n,acc=>by
  rw[AIZ];split;·simp<;>omega
  ·have:=ANq k (n / 10) (UInt8.ofNat (48+n % 10)::acc);grind
theorem Z0 (n:Nat):(fmtS n).length≤20:=by grind[ANq,fmtS]
theorem AqE (n:Nat):wr .u64 ((n:Int).tdiv 10)=if n<2^64 then((n / 10:Nat):Int)else wr .u64 ((n:Int).tdiv 10):=by grind[Int.tdiv_eq_ediv_of_nonneg,Ff]
theorem AoJ{n:Nat} (h:n<2^64):wr .u64 ((n:Int).tdiv 10)=((n / 10:Nat):Int):=by rw[AqE,ap h]
theorem Aod{n:Nat}:wr .u64 (48+(n:Int).tmod 10)=((48+n % 10:Nat):Int):=by grind[Int.tmod_eq_emod_of_nonneg,Ff]
theorem VN: ∀(k n:Nat) (acc:List UInt8),n<10^k→n<2^64→acc.length+k≤1000→∀m,k≤m→0<k→Dn N m (n:Int) acc=some (AIZ k n acc)
 |0,n,acc,h,h2,ha,m,hm,hk=>by omega
 | k+1,n,acc,h,h2,ha,m+1,hm,hk=>by
  rw[Dn,AoJ h2,Aod,AIZ];rw[AR (by grind[AC])];have e:(List.map FN [wr .u8 ((48+n % 10:Nat):Int)]++acc)=UInt8.ofNat (48+n % 10)::acc:=by rw[AUr,dg (show 48+n % 10<256 by omega)];rfl
  rw[e];by_cases c:n / 10=0;·rw[ap (by grind),ap c]
  ·have c': ¬((((n / 10:Nat):Int))==0)=true:=by grind
   rw[aj c',aj c];have hk2:0<k:=by grind
   exact VN k (n / 10) _ ff ff (by grind) m ff hk2
theorem AUn (n:Nat) (h:n<2^64) (hN:20≤N):IE N (n:Int)=some (fmtS n):=by grind[IE,fmtS,VN]
theorem AOF (a:Nat) (x:Int) (acc:List Int):(List.replicate (a+1) 0++acc).set a x=List.replicate a 0++x::acc:=by rw[List.replicate_succ',aL];simp
theorem Vt (k2:Int×Int×List Int→Option (List UInt8)) (R:List UInt8→Option (List UInt8)) (hk: ∀(n a:Nat) (acc:List UInt8),n<10→a≤19→acc.length+a=19→k2 ((n:Int),(a:Int),List.replicate (a+1) 0++acc.map AJ)=R (UInt8.ofNat (48+n)::acc)):∀(j n a:Nat) (acc:List UInt8),n<10^(j+1)→n<2^64→j≤a→a≤19→acc.length+a=19→∀m,j<m→Ee N k2 m (n:Int) (a:Int) (List.replicate (a+1) 0++acc.map AJ)=R (AIZ (j+1) n acc)
 |j,n,a,acc,h,h2,hj,ha,hl,0,hm=>by omega
 | j,n,a,acc,h,h2,hj,ha,hl,m+1,hm=>by
  rw[Ee,AIZ];by_cases c:n / 10=0;·have c': ¬(n:Int)≥10:=ff;rw[aj (by grind),ap c,dg ff];grind
  ·have c':(n:Int)≥10:=ff;rw[ap (aF c'),aj c];obtain⟨j,rfl⟩: ∃i,j=i+1:=⟨j-1,by grind⟩;obtain⟨a,rfl⟩: ∃i,a=i+1:=⟨a-1,ff⟩;rw[AR ff,AR (by simp<;>omega),AoJ h2,Aod,AUr,dg (show 48+n % 10<256 by omega),Aq ff];rw[show((a+1:Nat):Int)-1=(a:Int) by simp,bz,AOF];have e:List.replicate (a+1) 0++((48+n % 10:Nat):Int)::List.map AJ acc=List.replicate (a+1) 0++List.map AJ (UInt8.ofNat (48+n % 10)::acc):=by rw[aE,LX,toNat_ofNat ff]
   rw[e];exact Vt k2 R hk j (n / 10) a _ ff ff ff ff (by grind) m ff
theorem ATi (n:Nat) (h:n<2^64) (hN:20≤N):F7 N (n:Int)=some (fmtS n):=by
 unfold F7 fmtS;rw[AB];refine Vt (N:=N) _ some (fun n a acc hn ha hl=>?_) 19 n 19 [] ff h ff ff rfl N ff;have w:wr .u8 (wr .u64 (48+(n:Int)))=((48+n:Nat):Int):=by rw[Ff ff,show(48:Int)+(n:Int)=((48+n:Nat):Int) by simp,AUr,dg ff]
 simp only[bz,w];rw[AOF];rw[AR ff,AR (by simp<;>omega),AR ff,AR (by grind[AC])];congr 1;rw[cb,bC fg,ca,dh,aJ,bv,aU (by grind),aE,YM];rfl
end
end Go.VM
namespace Go.VM
end Go.VM
namespace Go.VM
section
variable{N:Nat}
def ED:Nat→List UInt8→Nat |n,[]=>n|n,c::l=>ED (n * 10+Fq c.toNat) l
theorem Ze: ∀(l:List UInt8) (n:Nat),n≤ED n l |[],n=>by simp_all[ED]| c::l,n=>by have:=Ze l (n * 10+Fq c.toNat);grind[ED]
theorem OZ{c:UInt8} (h:Gg c=true):48≤c.toNat∧c.toNat≤57:=by grind[Gg]
theorem Nj{c:UInt8} (h:Gg c=true):Kv c=true∧Fq c.toNat=c.toNat-48:=by have:=OZ h;simp_all[Kv,Rw,Fq]
theorem Aop (k2:Unit→Option (Int×Int)): ∀l:List UInt8,Aw N k2 l=if l.all Gg=true then k2 ()else some (0,1) |[]=>by grind[Aw]| c::l=>by rw[Aw,Yt,aa,Aop k2 l];cases h:Gg c<;>simp[h]
theorem AoO{m:Nat} (hm:m≤18446744073709551615) (k9:Int→Option (Int×Int)): ∀(l:List UInt8) (n:Nat),l.all Gg=true→n≤m→Ay N 10 (m:Int) k9 l (n:Int)=if ED n l≤m then k9 ((ED n l:Nat):Int)else some (0,4)
 |[],n,_,hn=>by simp_all[Ay,ED]
 | c::l,n,h,hn=>by
  simp only[bh,av]at h;have hd:Fq c.toNat≤9:=by have:=OZ h.1;rw[(Nj h.1).2];omega
  obtain⟨hx,hv⟩:=Nj h.1;have hge:=Ze l (n * 10+Fq c.toNat);rw[Ay,AVc c hx,aa,AB,AR fh];have w3:wr .u64 (18446744073709551615-((Fq c.toNat:Nat):Int))=18446744073709551615-((Fq c.toNat:Nat):Int):=Ff ff;rw[w3,bk ff,Ff (n:=(18446744073709551615-((Fq c.toNat:Nat):Int)) / 10) ff,ED];by_cases c1:(n:Int)>(18446744073709551615-((Fq c.toNat:Nat):Int)) / 10;·rw[ap (aF c1),aj ff];rfl
  have w1:wr .u64 ((n:Int) * 10)=((n * 10:Nat):Int):=by grind[Ff]
  have w2:wr .u64 (((n * 10:Nat):Int)+((Fq c.toNat:Nat):Int))=((n * 10+Fq c.toNat:Nat):Int):=by grind[Ff]
  rw[aj (by grind),w1,w2];by_cases c2:n * 10+Fq c.toNat≤m;·have c3: ¬(((n * 10+Fq c.toNat:Nat):Int)>(m:Int)):=ff;rw[aN c3];simp only[al,aC];exact AoO hm k9 l _ h.2 c2
  ·have c3:(((n * 10+Fq c.toNat:Nat):Int)>(m:Int)):=ff;rw[aF c3,aj ff];rfl
theorem ACH{m:Nat} (hm:m≤18446744073709551615) (l:List UInt8) (hb:l.length≤2^60):Gp N l (m:Int)=some (if l=[]then(0,3)else if l.all Gg=true then(if ED 0 l≤m then(((ED 0 l:Nat):Int),0)else(0,4))else(0,1)):=by
 unfold Gp Eh;by_cases h:l=[];·grind
 ·rw[aj (by grind),aj h,AB,AR (by grind[AC]),Aop];by_cases h1:l.all Gg=true;·rw[ap h1,ap h1,AB,AR (by grind[AC]),show(0:Int)=((0:Nat):Int)from rfl,AoO hm _ l 0 h1 ff];split<;>rfl
  ·rw[aj h1,aj h1];rfl
section
variable{s sg W F FR P EX:List UInt8}
end
end
end Go.VM
namespace Go.VM
section
variable{N:Nat}
theorem ZH (k2:Unit→Option Bool): ∀l:List UInt8,A7 N k2 l=if l.all Gg=true then k2 ()else some false |[]=>by grind[A7]| c::l=>by rw[A7,Yt,aa,ZH k2 l];cases h:Gg c<;>simp[h]
theorem PI (l:List UInt8) (hb:l.length≤2^60):JV N l=some (!l.isEmpty&&l.all Gg):=by unfold JV Eu;cases l with |nil=>rfl| cons c l=>rw[aj fg,AB,Bt ff,ZH];cases h:(c::l).all Gg<;>simp
theorem Vz (k2:Unit→Option Bool): ∀l:List UInt8,ES N k2 l=if l.all Gg=true then k2 ()else some false |[]=>by grind[ES]| c::l=>by rw[ES,Yy,aa,Vz k2 l];cases h:Gg c<;>simp[h]
theorem Uy (l:List UInt8) (hb:l.length≤2^60):Gm N l=some (!l.isEmpty&&l.all Gg):=by unfold Gm;rw[AB,Bt ff,Vz];cases l with |nil=>rfl|cons c l=>cases h:(c::l).all Gg<;>simp
theorem Aoc (k2:Unit→Option (Int×Int)): ∀l:List UInt8,DL N 10 k2 l=if l.all Gg=true then k2 ()else some (0,1) |[]=>by grind[DL]| c::l=>by rw[DL,AB,show((10:Int)==10)=true from rfl,show((10:Int)==16)=false from rfl,ap rfl,Yy,aa,Aoc k2 l];cases h:Gg c<;>simp[h]
theorem AoN{m:Nat} (hm:m≤18446744073709551615) (hm9:9≤m) (k9:Int→Option (Int×Int)): ∀(l:List UInt8) (n:Nat),l.all Gg=true→n≤m→CO N 10 (m:Int) k9 l (n:Int)=if ED n l≤m then k9 ((ED n l:Nat):Int)else some (0,4)
 |[],n,_,hn=>by simp_all[CO,ED]
 | c::l,n,h,hn=>by
  simp only[bh,av]at h;have hr:=OZ h.1;have hd:Fq c.toNat≤9:=by rw[(Nj h.1).2];omega
  obtain⟨hx,hv⟩:=Nj h.1;have c57: ¬(AJ c>57):=by grind[LX]
  have hdv:wr .u64 (wr .u8 (AJ c-48))=((Fq c.toNat:Nat):Int):=by grind[LX,ANd,Ff]
  rw[CO];dsimp only[AB];rw[aj (by grind),hdv,AR fh,bk ff];have w3:wr .u64 ((m:Int)-((Fq c.toNat:Nat):Int))=(m:Int)-((Fq c.toNat:Nat):Int):=Ff ff;have w4:wr .u64 ((m:Int) / 10)=(m:Int) / 10:=Ff ff;rw[w3,w4,ED];have hge:=Ze l (n * 10+Fq c.toNat);by_cases c1:(n:Int)>(m:Int) / 10;·rw[ap (aF c1),ap rfl,aj ff]
  ·have w1:wr .u64 ((n:Int) * 10)=((n * 10:Nat):Int):=by grind[Ff]
   rw[aj (by grind),w1];by_cases c2:((n * 10:Nat):Int)>(m:Int)-((Fq c.toNat:Nat):Int);·rw[ap (aF c2),ap rfl,aj ff]
   ·have w2:wr .u64 (((n * 10:Nat):Int)+((Fq c.toNat:Nat):Int))=((n * 10+Fq c.toNat:Nat):Int):=by grind[Ff]
    rw[aj (by grind),aj (by grind),w2];exact AoN hm hm9 k9 l _ h.2 ff
def Ti (m:Nat) (l:List UInt8):Int×Int:=if l=[]then(0,3)else if l.all Gg=true then(if ED 0 l≤m then(((ED 0 l:Nat):Int),0)else(0,4))else(0,1)
theorem ZT{m:Nat} (hm:m≤18446744073709551615) (hm9:9≤m) (l:List UInt8) (hb:l.length≤2^60):JR N l 10 (m:Int)=some (Ti m l):=by
 unfold JR Ti;by_cases h:l=[];·grind
 ·rw[aj (by grind),aj h,AB,Bt ff,Aoc];by_cases h1:l.all Gg=true;·rw[ap h1,ap h1,AB,Bt ff,show(0:Int)=((0:Nat):Int)from rfl,AoN hm hm9 _ l 0 h1 ff];split<;>rfl
  ·rw[aj h1,aj h1]
def Du (m:Nat) (l:List UInt8):Int×Int:=if l=[]then(0,3)else if l.all Gg=true then(if 1<l.length∧l.head?=some 48 then(0,6)else if ED 0 l≤m then(((ED 0 l:Nat):Int),0)else(0,4))else(0,1)
theorem b48 (c:UInt8):(AJ c==48)=decide (c=48):=by have:=Cq (f:=fun n=>((n:Int)==48)) (g:=fun n=>decide (UInt8.ofNat n=48)) (by kernel_rfl) c;simp only[bY]at this;exact this
theorem ZZ (c:UInt8) (l:List UInt8) (e:Int×Int):(if decide (((c::l).length:Int)>1)=true then Option.bind (idx (c::l) 0) fun x=>if(AJ x==48)=true then(some (0,6):Option (Int×Int))else some (e.1,e.2)else if false=true then some (0,6)else some (e.1,e.2))=some (if 1<(c::l).length∧(c::l).head?=some 48 then(0,6)else e):=by
 by_cases hl:1<(c::l).length
 ·rw[ap (by simp only[au];omega),show idx (c::l) 0=some c from rfl,aa,b48];by_cases hc:c=48;·rw[aF hc,ap rfl,ap ⟨hl,by simp[hc]⟩]
  ·rw[aN hc,aj fh,aj (by simp[hc])]
 simp_all
theorem Ub{m:Nat} (hm:m≤18446744073709551615) (l:List UInt8) (hb:l.length≤2^60):Gt N l (m:Int)=some (Du m l):=by
 unfold Gt Du;dsimp only[AB];rw[PI l hb,aa,ACH hm l hb,aa];cases l with
 |nil=>rfl
 | cons c l=>
  simp only[reduceCtorEq,aC];obtain⟨b,h⟩: ∃b,(c::l).all Gg=b:=⟨_,rfl⟩;rw[h];cases b;·simp
  ·rw[ap (by rfl),ap rfl,ap rfl];have hd: ∀e:Int×Int,(if decide (((c::l).length:Int)>1)=true then Option.bind (idx (c::l) 0) fun x=>if(AJ x==48)=true then(some (0,6):Option (Int×Int))else some (e.1,e.2)else if false=true then some (0,6)else some (e.1,e.2))=some (if 1<(c::l).length∧(c::l).head?=some 48 then(0,6)else e):=ZZ c l;simp_all
theorem Z6{m:Nat} (hm:m≤18446744073709551615) (hm9:9≤m) (l:List UInt8) (hb:l.length≤2^60):K6 N l (m:Int)=some (Du m l):=by
 have hp:=ZT (N:=N) hm hm9 l hb;unfold Ti at hp;unfold K6 Du;rw[hp,aa];dsimp only[AB];cases l with
 |nil=>rfl
 | cons c l=>
  simp only[reduceCtorEq,aC];obtain⟨b,h⟩: ∃b,(c::l).all Gg=b:=⟨_,rfl⟩;rw[h];cases b;·rfl
  ·simp only[aB];have hd:=ZZ c l;by_cases hv:ED 0 (c::l)≤m;·simp_all
   ·rw[aj hv,aj fg,ap (by rfl)];grind
end
end Go.VM
namespace Go.VM
section
variable{N:Nat}
def ASU (c:UInt8):Bool:=Mm c||(Gg c||decide (c=45))
theorem b45 (c:UInt8):(AJ c==45)=decide (c=45):=by have:=Cq (f:=fun n=>((n:Int)==45)) (g:=fun n=>decide (UInt8.ofNat n=45)) (by kernel_rfl) c;simp only[bY]at this;exact this
theorem ACd (k8:Unit→Option Bool): ∀l:List UInt8,F3 N k8 l=if l.all ASU=true then k8 ()else some false |[]=>by grind[F3]| c::l=>by rw[F3,AB,TR,aa,Yt,aa,bne,b45,ACd k8 l,bh];unfold ASU;cases Mm c<;>cases Gg c<;>cases decide (c=45)<;>simp
theorem AC1 (k2:Unit→Option Bool): ∀l:List UInt8,Ey N k2 l=if l.all ASU=true then k2 ()else some false |[]=>by grind[Ey]| c::l=>by rw[Ey,AB,Xd,aa,Yy,aa,bne,b45,AC1 k2 l,bh];unfold ASU;cases Mm c<;>cases Gg c<;>cases decide (c=45)<;>simp
def P6 (l:List UInt8):Bool:=!l.isEmpty&&(decide (l.length≤63)&&(decide (l.head?≠some 45)&&(decide (l.getLast?≠some 45)&&l.all ASU)))
theorem ACp{c:UInt8}{l:List UInt8} (hb:(c::l).length≤2^60): ∃d,(c::l).getLast?=some d∧idx (c::l) (wr .i64 (((c::l).length:Int)-1))=some d:=by have hne:(c::l)≠ []:=fg;refine⟨(c::l).getLast hne,cS hne,?_⟩;rw[show wr .i64 (((c::l).length:Int)-1)=(((c::l).length-1:Nat):Int) by simp only[ag]at hb⊢;rw[Aq ff];omega,Ei,←ek,cS hne]
theorem AXQ (l:List UInt8) (hb:l.length≤2^60):O4 N l=some (P6 l):=by
 unfold O4 P6;dsimp only[AB];cases l with
 |nil=>rfl
 | cons c l=>
  obtain⟨d,h1,h2⟩:=ACp hb;rw[aj fg,h2,h1,show idx (c::l) 0=some c from rfl,aa,aa,b45,b45,Bt ff,ACd];by_cases hl:(c::l).length≤63
  ·rw [aj (by simp only[au];omega),aF hl];by_cases hc:c=45;·simp_all
   ·rw[aN hc,aj fh];by_cases hd:d=45;·simp_all
    ·rw[aN hd,aj fh];obtain⟨b,hb2⟩: ∃b,(c::l).all ASU=b:=⟨_,rfl⟩;rw[hb2];cases b<;>simp[hc,hd]
  ·rw[ap (by simp only[au];omega),ap rfl,aN hl];simp
theorem AXN (l:List UInt8) (hb:l.length≤2^60):OB N l=some (P6 l):=by
 unfold OB P6;dsimp only[AB];rw[Bt ff,AC1];cases l with
 |nil=>rfl
 | cons c l=>
  obtain⟨d,h1,h2⟩:=ACp hb;obtain⟨b,hb2⟩: ∃b,(c::l).all ASU=b:=⟨_,rfl⟩;rw[aj (c:=((c::l==[])=true)) fg,h2,h1,show idx (c::l) 0=some c from rfl,aa,aa,bne,bne,b45,b45,hb2];cases b;·simp
  ·rw[ap rfl];by_cases hl:(c::l).length≤63;·rw[ap (by simp only[au];omega),aF hl];by_cases hc:c=45<;>simp_all
   ·rw[aj (by simp only[au];omega),aN hl];simp
end
end Go.VM
namespace Go.VM
def Bb (c:UInt8):List UInt8→List (List UInt8) |[]=>[[]]|x::t=>if x=c then []::Bb c t else(match Bb c t with|p::ps=>(x::p)::ps|[]=>[[x]])
theorem TQ (c:UInt8): ∀l:List UInt8,Bb c l≠ [] |[]=>by simp[Bb]| x::t=>by grind[Bb]
def ATU (cur:List UInt8):List (List UInt8)→List (List UInt8) |p::ps=>(cur++p)::ps|[]=>[cur]
theorem AZ2{c x:UInt8}{t cur:List UInt8} (h: ¬x=c):ATU cur (Bb c (x::t))=ATU (cur++[x]) (Bb c t):=by rw[Bb,aj h];grind[Bb,absurd,ATU]
theorem NS (c:UInt8): ∀l:List UInt8,(Bb c l).length≤l.length+1 |[]=>by simp[Bb]| x::t=>by have:=NS c t;grind[Bb]
theorem ML (c:UInt8): ∀(l p:List UInt8),p∈Bb c l→p.length≤l.length
 |[],p,h=>by grind[Bb]
 | x::t,p,h=>by
  rw[Bb]at h;split at h
  ·rcases aO.1 h with rfl|h;·simp
   ·have:=ML c t p h;grind
  ·split at h
   ·rename_i q qs hq;rcases aO.1 h with rfl|h;·have:=ML c t q (by grind);grind
    ·have:=ML c t p (by grind);grind
   grind
section
variable{N:Nat}
theorem AeI (x c:UInt8):(AJ x==AJ c)=decide (x=c):=by
 by_cases e:x=c;·grind
 ·have: ¬x.toNat=c.toNat:=fun h=>e (dt.1 h);rw[aN e];simp only[AJ,bc,ew];omega
theorem Rx (l:List UInt8) (c:UInt8) (hb:l.length≤1000000): ∀(t pre cur:List UInt8) (out:List (List UInt8)),l=pre++(cur++t)→out.length≤pre.length+cur.length→FB N l (AJ c) (fun j1=>Option.bind (sub l j1.2 (l.length:Int)) fun x11=>grd (Ac (j1.1.length+1) 16) (some (j1.1++[x11]))) t ((pre.length+cur.length:Nat):Int) out (pre.length:Int)=some (out++ATU cur (Bb c t))
 | [],pre,cur,out,h,ho=>by have hl:=bl List.length h;simp only[ah,an]at hl;rw[FB];dsimp only;rw[A8 l pre.length l.length ff ff,aa,AR (by grind[Ac]),h,dY];simp[Bb,ATU]
 | x::t,pre,cur,out,h,ho=>by
  have hl:=bl List.length h;simp only[ah,ag]at hl;rw[FB,AB,AeI];by_cases e:x=c
  ·rw[aF e,ap rfl,A8 l pre.length (pre.length+cur.length) ff ff,aa,AR (by grind[Ac])];dsimp only;have:=Rx l c hb t (pre++cur++[x]) [] (out++[cur]) (by grind) (by grind);have e1:(l.drop pre.length).take (pre.length+cur.length-pre.length)=cur:=by grind
   rw[e1,Bb,ap e];rw[show(((pre++cur++[x]).length+([]:List UInt8).length:Nat):Int)=((pre.length+cur.length:Nat):Int)+1 by grind,show(((pre++cur++[x]).length:Nat):Int)=((pre.length+cur.length:Nat):Int)+1 by grind]at this;rw[this];cases hs:Bb c t with |nil=>grind[absurd,TQ]|cons p ps=>simp[ATU]
  ·rw[aN e,aj fh,AZ2 e];dsimp only;have:=Rx l c hb t pre (cur++[x]) out (by grind) (by grind);grind
theorem Wz (l:List UInt8) (c:UInt8) (hb:l.length≤1000000):Ea N l (AJ c)=some (Bb c l):=by unfold Ea;rw[AB,Bt ff];have:=Rx (N:=N) l c hb l [] [] [] rfl fg;refine this.trans ?_;cases hs:Bb c l with |nil=>grind[absurd,TQ]|cons p ps=>simp[ATU]
end
end Go.VM
namespace Go.VM
theorem Ot (c:UInt8): ∀l:List UInt8,Bb c l=if(BN c l).2.2=true then(BN c l).1::Bb c (BN c l).2.1 else [(BN c l).1]
 |[]=>by simp[Bb,BN]
 | x::t=>by
  have ih:=Ot c t;rw[Bb];unfold BN at ih⊢;by_cases e:x=c;·simp_all
  ·have e1:(c==x)=false:=by grind
   have e3:(x !=c)=true:=by grind
   rw[aj e,bu,e1,bb,aZ,e3];cases hc:t.contains c<;>simp_all
section
variable{N:Nat}
def AsU (l:List UInt8):Bool:=!l.isEmpty&&l.all Gg
def Ty (l:List UInt8):Bool:=(Bb 46 l).all P6&&!AsU ((Bb 46 l).getLast (TQ 46 l))
theorem AXE (l:List UInt8):Ty l=(P6 (BN 46 l).1&&if(BN 46 l).2.2=true then Ty (BN 46 l).2.1 else !AsU (BN 46 l).1):=by
 have h:=Ot 46 l;unfold Ty;cases hc:(BN 46 l).2.2;·simp_all
 ·rw[hc]at h;simp only[aB]at h⊢;grind
theorem AL8{c:UInt8}{l:List UInt8} (h:(BN c l).2.2=true):(BN c l).2.1.length<l.length:=by
 unfold BN at h⊢;cases hc:l.contains c;·grind
 ·have h1:=P7 hc;have h2:(l.takeWhile (· !=c)).length+(l.dropWhile (· !=c)).length=l.length:=by grind[List.length_append,List.takeWhile_append_dropWhile]
  simp only[aB,aM];omega
theorem Ame (c:UInt8) (l:List UInt8):(BN c l).1.length≤l.length:=by
 unfold BN;split;·grind[Qe]
 simp
theorem AAS: ∀(k:Nat) (l:List UInt8),l.length<k→l.length≤2^60→II N k l=some (Ty l)
 |0,l,h,_=>by omega
 | k+1,l,h,hb=>by
  have h1:=Ame 46 l;rw[II,SL 46 l hb,aa,AXQ _ ff,aa,AXE l];cases P6 (BN 46 l).1;·rfl
  ·rw[ap rfl,cr];cases hc:(BN 46 l).2.2;·rw[aj fh,PI _ ff,aa];rfl
   ·have:=AL8 hc;rw[ap rfl,ap rfl];exact AAS k _ ff ff
theorem AdF (l:List UInt8) (hN:l.length<N) (hb:l.length≤2^60):TS N l=some (Ty l):=AAS N l hN hb
theorem Zn (k4:Unit→Option Bool): ∀ps:List (List UInt8),(∀p,p∈ps→p.length≤2^60)→F5 N k4 ps=if ps.all P6=true then k4 ()else some false |[],_=>by grind[F5]| p::ps,h=>by rw[F5,AXN p (h p fg),aa,Zn k4 ps fun q hq=>h q (by grind),bh];cases P6 p<;>simp
theorem AiX (l:List UInt8) (hb:l.length≤1000000):PR N l=some (Ty l):=by
 have hl:=NS 46 l;have hp:=ML 46 l;have hne:=TQ 46 l;unfold PR;rw[show(46:Int)=AJ 46 from rfl,Wz l 46 hb,aa];dsimp only[AB];rw[Bt ff,Zn _ _ fun p h=>by grind];have hlast:idx (Bb 46 l) (wr .i64 (((Bb 46 l).length:Int)-1))=some ((Bb 46 l).getLast hne):=by have:0<(Bb 46 l).length:=dn.2 hne;rw[show wr .i64 (((Bb 46 l).length:Int)-1)=(((Bb 46 l).length-1:Nat):Int) by rw[Aq ff];omega,Ei,←ek,cS hne]
 have:=hp _ (List.getLast_mem hne);rw[hlast,aa,Uy _ ff,aa];unfold Ty;cases (Bb 46 l).all P6;·rfl
 ·rfl
def AUD (l:List UInt8):Bool:=decide ((Bb 46 l).length=4)&&(Bb 46 l).all fun p=>(Du 255 p).2==0
theorem ACK (k4:Unit→Option Bool): ∀ps:List (List UInt8),(∀p,p∈ps→p.length≤2^60)→EP N k4 ps=if(ps.all fun p=>(Du 255 p).2==0)=true then k4 ()else some false |[],_=>by grind[EP]| p::ps,h=>by rw[EP,show(255:Int)=((255:Nat):Int)from rfl,Z6 fh fh p (h p fg),aa,ACK k4 ps fun q hq=>h q (by grind),bh];cases hx:((Du 255 p).2==0)<;>simp[bne,hx]
theorem Alg (l:List UInt8) (hb:l.length≤1000000):K3 N l=some (AUD l):=by
 have hl:=NS 46 l;have hp:=ML 46 l;unfold K3;rw[show(46:Int)=AJ 46 from rfl,Wz l 46 hb,aa];dsimp only[AB];rw[Bt ff,ACK _ _ fun p h=>by grind];unfold AUD;have e:(((Bb 46 l).length:Int)==4)=decide ((Bb 46 l).length=4):=by grind
 rw[e];cases ((Bb 46 l).all fun p=>(Du 255 p).2==0)<;>simp
end
end Go.VM
namespace Go.VM
section
variable{N:Nat}
theorem AWg (c:UInt8) (l:List UInt8):strings_Index N l [c]=some (Go.Lib.indexByte l c):=by simp_all[strings_Index,A9]
theorem Aa1{c:UInt8}{l:List UInt8}:l.count c=0↔l.contains c=false:=by grind
theorem ACO{c:UInt8}: ∀ {l:List UInt8},l.contains c=true→l.count c=((l.dropWhile (· !=c)).drop 1).count c+1
 |[],h=>by grind
 | x::t,h=>by
  by_cases hx:x=c;·simp_all
  ·have hx':(x !=c)=true:=by grind
   rw[bu,show(c==x)=false by grind,bb]at h;rw[bS,ap hx',List.count_cons,show(x==c)=false by grind,ACO h];simp
theorem Qb{c:UInt8}{l:List UInt8} (h:l.contains c=true):BN c l=(l.takeWhile (· !=c),(l.dropWhile (· !=c)).drop 1,true):=by simp_all[BN]
theorem Vk{c:UInt8}{l:List UInt8} (h:l.contains c=false):BN c l=(l,[],false):=by simp_all[BN]
theorem AFi{c:UInt8}{l:List UInt8} (h:l.contains c=true) (hb:l.length≤1000000):sub l 0 (wr .i64 (Go.Lib.indexByte l c+0))=some (BN c l).1∧sub l (wr .i64 (Go.Lib.indexByte l c+(([c]:List UInt8).length:Int))) (l.length:Int)=some (BN c l).2.1:=by
 have hlt:=P7 h;rw[OG];unfold BN;simp only[h,aB];generalize hn:(l.takeWhile (· !=c)).length=n at *;have w:wr .i64 ((n:Int)+(([c]:List UInt8).length:Int))=((n+1:Nat):Int):=by grind[Aq]
 have w0:wr .i64 ((n:Int)+0)=(n:Int):=by grind[Aq]
 rw[w,w0,show(0:Int)=((0:Nat):Int)from rfl,A8 l 0 n ff ff,A8 l (n+1) l.length ff ff];rw[aJ,be,←hn,Ho,aU fg,←aT,Kc];simp
theorem APR{c:UInt8}{a0:List UInt8}{j3:Int}{M:Nat} (k10:List UInt8×Int×List (List UInt8)→Option (List (List UInt8))) (hE:(if(wr .i64 ((a0.length:Int)+1))<j3 then(wr .i64 ((a0.length:Int)+1))else j3)=((M:Nat):Int)) (hM:M≤2000000):∀(k:Nat) (s:List UInt8) (done:List (List UInt8)),s.count c=k→s.length≤1000000→done.length+k+1≤M→∃pre last,pre++[last]=done++Bb c s∧pre.length=done.length+k∧CS N a0 [c] 0 j3 k10 k (done.length:Int) s (done++List.replicate (k+1) [])=k10 (last,((done.length+k:Nat):Int),pre++[[]])
 | 0,s,done,hc,hs,hd=>by
  have h0:=Aa1.1 hc;refine⟨done,s,?_,rfl,?_⟩;·grind[Ot,Vk]
  grind[CS]
 | k+1,s,done,hc,hs,hd=>by
  have h1:s.contains c=true:=by grind
  obtain⟨s1,s2⟩:=AFi h1 hs;have hcb:=ACO h1;have hc1:(BN c s).2.1=(s.dropWhile (· !=c)).drop 1:=by rw[Qb h1]
  rw[←hc1]at hcb;have hl:=Lp c s;obtain⟨pre,last,p1,p2,p3⟩:=APR (c:=c) k10 hE hM k (BN c s).2.1 (done++[(BN c s).1]) ff ff (by grind);refine⟨pre,last,?_,by grind,?_⟩;·rw[p1,Ot c s,ap (by rw[Qb h1])];simp
  ·rw[CS,AWg,aa,aj (by rw[OG,ap h1];simp),s1,aa,hE,AR (by constructor<;>omega),AR fg,s2,aa];have e1:(done++List.replicate (k+1+1) ([]:List UInt8)).set (done.length:Int).toNat (BN c s).1=(done++[(BN c s).1])++List.replicate (k+1) []:=by rw[bz,cY _ _ (aq _),dh,dp,bU];simp
   grind
theorem ACN (l:List UInt8) (c:UInt8) (hb:l.length≤1000000):strings_Split N l [c]=some (Bb c l):=by
 have hcl:l.count c≤l.length:=List.count_le_length;have hcnt:strings_Count N l [c]=some ((l.count c:Nat):Int):=by unfold strings_Count;rw[aj fg,ap (by rfl),show idx [c] 0=some c from rfl,aa,QT];rfl
 unfold strings_Split strings_genSplit;dsimp only[AB];rw[aj fh,aj fg,ap fh,hcnt,aa];have w1:wr .i64 (((l.count c:Nat):Int)+1)=((l.count c+1:Nat):Int):=by grind[Aq]
 have w2:wr .i64 ((l.length:Int)+1)=((l.length+1:Nat):Int):=by grind[Aq]
 rw[w1];have hE:(if(wr .i64 ((l.length:Int)+1))<((l.count c+1:Nat):Int)then(wr .i64 ((l.length:Int)+1))else((l.count c+1:Nat):Int))=((l.count c+1:Nat):Int):=ff;obtain⟨pre,last,p1,p2,p3⟩:=APR (N:=N) (c:=c) (a0:=l) (j3:=((l.count c+1:Nat):Int)) (M:=l.count c+1) (fun j9:(List UInt8)×Int×(List (List UInt8))=>grd (0≤j9.2.1∧j9.2.1<((if(wr .i64 ((l.length:Int)+1))<((l.count c+1:Nat):Int)then(wr .i64 ((l.length:Int)+1))else((l.count c+1:Nat):Int)).toNat:Int)) (grd (j9.2.1.toNat+1≤j9.2.2.length) (grd (0≤(wr .i64 (j9.2.1+1))∧(wr .i64 (j9.2.1+1))≤((if(wr .i64 ((l.length:Int)+1))<((l.count c+1:Nat):Int)then(wr .i64 ((l.length:Int)+1))else((l.count c+1:Nat):Int)).toNat:Int)) (grd ((wr .i64 (j9.2.1+1)).toNat≤j9.2.2.length) (some (List.take ((wr .i64 (j9.2.1+1)).toNat) (j9.2.2.set j9.2.1.toNat j9.1))))))) hE ff (l.count c) l [] rfl hb fg;have w3:(wr .i64 (((l.count c+1:Nat):Int)-1)-0).toNat=l.count c:=by grind[Aq]
 rw[hE]at p3⊢;rw[AR (by grind[Vf]),AR ff,w3];simp only[bz]at p3⊢;simp only[bv,an,bD]at p1 p2 p3;rw[show((0:Nat):Int)=0 from rfl]at p3;rw[p3];have w4:wr .i64 (((l.count c:Nat):Int)+1)=((pre.length+1:Nat):Int):=ff;rw[w4];simp only[bz];rw[AR ff,AR (by grind),AR ff,AR fg,aa];rw[←p2,cY _ _ (aq _),dh,bU,aU fg,p1]
end
end Go.VM
