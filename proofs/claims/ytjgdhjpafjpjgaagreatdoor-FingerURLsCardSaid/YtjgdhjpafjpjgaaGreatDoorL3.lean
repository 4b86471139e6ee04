import Derived.Test.YtjgdhjpafjpjgaaGreatDoorL2
import Derived.Laws.RangeString
set_option linter.unusedVariables false
set_option linter.unusedSimpArgs false
namespace Go.VM
section
variable{N:Nat}
theorem ADT{l:List UInt8}{i:Nat}{c:UInt8} (h:l[i]?=some c) (hc:c.toNat<128):Ct l i=(c.toNat,1):=by
  have hi:i<l.length:=by
    rcases Nat.lt_or_ge i l.length with h'|h'
    · exact h'
    · rw[List.getElem?_eq_none h']at h;cases h
  have e:l[i]=c:=by rw[List.getElem?_eq_getElem hi]at h;exact Option.some.inj h
  unfold Ct
  have hs:i<(⟨l.toArray⟩:ByteArray).size:=hi
  have hx:((⟨l.toArray⟩:ByteArray)[i]'hs)=c:=e
  rw[decode_ascii _ i hs (by rw[hx];exact hc),hx]
theorem APj{set:List UInt8}{c:UInt8} (hc:c.toNat<128):ES N set ((c.toNat:Nat):Int)=some (Go.Lib.indexByte set c):=by
  unfold ES
  dsimp only[AL]
  have e:wr .u8 ((c.toNat:Nat):Int)=AJ c:=by rw[VS (by omega)];rfl
  rw[if_pos (by simp),if_pos (by simpa using(by omega:(c.toNat:Int)<128)),e,JR];rfl
def ARS (set l:List UInt8):Int:=if(l.any set.contains)=true then(((l.takeWhile fun c=>!set.contains c).length:Nat):Int)else-1
theorem VL{as:List Bool}{set:List UInt8} (hs:AEY as set) (k17:List Bool→Option Int): ∀(l:List UInt8) (i:Int),
    BS N k17 l i as=if(l.any set.contains)=true then some (i+(((l.takeWhile fun c=>!set.contains c).length:Nat):Int))else k17 as
  |[],i=>by rw[BS];rfl
  | c::l,i=>by
    rw[BS,AFG hs,Option.bind_some]
    dsimp only
    cases h:set.contains c
    · rw[if_neg (by decide),VL hs k17 l (i+1)]
      simp only[List.any_cons,h,Bool.false_or,List.takeWhile_cons,Bool.not_false,if_true,List.length_cons]
      split
      · congr 1;omega
      · rfl
    · have hw:((c::l).takeWhile fun c=>!set.contains c)=[]:=by rw[List.takeWhile_cons,h];rfl
      rw[if_pos rfl,List.any_cons,h,Bool.true_or,if_pos rfl,hw];simp
theorem Un{set l:List UInt8} (k24:Unit→Option Int): ∀(t pre:List UInt8) (k:Nat),l=pre++t→t.length<k→(∀c,c∈(t.takeWhile fun c=>!set.contains c)→c.toNat<128)→(∀c,c∈set→c.toNat<128)→
    CV N l set k24 k pre.length=if(t.any set.contains)=true then some (((pre.length+(t.takeWhile fun c=>!set.contains c).length:Nat):Int))else k24 ()
  |_,_,0,_,h,_,_=>by omega
  | [],pre,k+1,h,_,_,_=>by
    rw[CV,if_neg (by rw[h];simp)];rfl
  | c::t,pre,k+1,h,hk,ha,hset=>by
    simp only[List.length_cons]at hk
    have hget:l[pre.length]?=some c:=by rw[h,List.getElem?_append_right (Nat.le_refl _),Nat.sub_self];rfl
    have hc:c.toNat<128:=by
      cases hx:set.contains c
      · exact ha c (by rw[List.takeWhile_cons,hx];simp)
      · exact hset c (by simpa using hx)
    rw[CV,if_pos (by rw[h];simp),ADT hget hc]
    dsimp only
    rw[APj hc,Option.bind_some,Gq]
    cases hx:set.contains c
    · rw[if_neg (by decide)]
      have:=Un (l:=l) (set:=set) k24 t (pre++[c]) k (by rw[h];simp) (by omega) (fun x hm=>ha x (by simp only[List.takeWhile_cons,hx,Bool.not_false,if_true,List.mem_cons];exact .inr hm)) hset
      rw[List.length_append,List.length_singleton]at this
      rw[this]
      simp only[List.any_cons,hx,Bool.false_or,List.takeWhile_cons,Bool.not_false,if_true,List.length_cons]
      split
      · congr 2;omega
      · rfl
    · have hw:((c::t).takeWhile fun c=>!set.contains c)=[]:=by rw[List.takeWhile_cons,hx];rfl
      rw[if_pos rfl,List.any_cons,hx,Bool.true_or,if_pos rfl,hw];simp
theorem Ut{set l:List UInt8} (h2:2≤set.length) (hs:set.length≤1000) (hset: ∀c,c∈set→c.toNat<128) (ha:l.length≤8→ ∀c,c∈(l.takeWhile fun c=>!set.contains c)→c.toNat<128) (hb:l.length≤1000000) (hN:20≤N):
    strings_IndexAny N l set=some (ARS set l):=by
  unfold strings_IndexAny ARS
  have hne:set≠ []:=fun e=>by subst e;simp at h2
  have hsh:strings_shouldUseASCIISet N (l.length:Int)=some (decide ((l.length:Int)>8)):=rfl
  obtain⟨as,e1,e2⟩:=AMV (N:=N) set hset hs
  rw[if_neg (by simpa using hne),if_neg (by simp;omega)]
  dsimp only[AL]
  rw[hsh,Option.bind_some]
  by_cases h:l.length>8
  · rw[if_pos (by simp;omega),e1,Option.bind_some,AZ TP]
    dsimp only
    rw[AZ e2.1,if_pos rfl,BP (by omega),VL e2]
    split<;>simp
  · rw[if_neg (by simp;omega),show(0:Nat)=([]:List UInt8).length from rfl,Un (l:=l) _ l [] N rfl (by omega) (ha (by omega)) hset]
    split<;>simp
theorem AFm{set l:List UInt8} (h2:2≤set.length) (hs:set.length≤1000) (hset: ∀c,c∈set→c.toNat<128) (ha:l.length≤8→ ∀c,c∈(l.takeWhile fun c=>!set.contains c)→c.toNat<128) (hb:l.length≤1000000) (hN:20≤N):
    strings_ContainsAny N l set=some (l.any set.contains):=by
  unfold strings_ContainsAny
  rw[Ut h2 hs hset ha hb hN,Option.bind_some]
  unfold ARS
  cases l.any set.contains<;>simp
end
end Go.VM
namespace Go.VM
section
variable{N:Nat}
def GX (a:List UInt8):Prop:=a.map Dc=[104,116,116,112,115]
theorem JJ{a:List UInt8} (h:GX a):a.length=5∧ ∀x,x∈a→Iw x=true∧x.toNat<128∧x≠35∧x≠63∧x≠47∧x≠58∧x≠64:=by
  refine⟨by have:=congrArg List.length h;simpa using this,fun x hx=>?_⟩
  have hm:Dc x∈([104,116,116,112,115]:List UInt8):=by rw[←h];exact List.mem_map_of_mem hx
  have key:=Ba (f:=fun n=>(!([104,116,116,112,115]:List UInt8).contains (Dc (UInt8.ofNat n)))||(WA n&&decide (n<128)&&decide (n≠35)&&decide (n≠63)&&decide (n≠47)&&decide (n≠58)&&decide (n≠64))) (g:=fun _=>true) (by kernel_rfl) x
  simp only[UInt8.ofNat_toNat]at key
  rw[show([104,116,116,112,115]:List UInt8).contains (Dc x)=true by simpa using hm]at key
  simp only[Bool.not_true,Bool.false_or,Bool.and_eq_true,decide_eq_true_eq]at key
  obtain⟨⟨⟨⟨⟨⟨k1,k2⟩,k3⟩,k4⟩,k5⟩,k6⟩,k7⟩:=key
  refine⟨k1,k2,?_,?_,?_,?_,?_⟩<;>(rintro rfl;first|exact k3 rfl|exact k4 rfl|exact k5 rfl|exact k6 rfl|exact k7 rfl)
theorem Rk{c:UInt8}: ∀(pre t:List UInt8),(∀x,x∈pre→x≠c)→AY c (pre++t)=(pre++(AY c t).1,(AY c t).2)
  |[],t,_=>rfl
  | x::pre,t,h=>by
    have ih:=Rk pre t fun y hy=>h y (by simp[hy])
    have hx:x≠c:=h x (by simp)
    have e1:(c==x)=false:=by simpa using fun e:c=x=>hx e.symm
    have e2:(x !=c)=true:=by simpa using hx
    rw[List.cons_append]
    cases hc:(pre++t).contains c
    · rw[MU (by rw[List.contains_cons,e1,hc];rfl)]
      rw[MU hc]at ih
      simp only[Prod.mk.injEq]at ih
      obtain⟨i1,i2⟩:=ih
      rw[List.cons_append,←i1,←i2]
    · rw[ED (by rw[List.contains_cons,e1,hc];rfl),List.takeWhile_cons,e2,List.dropWhile_cons,e2]
      rw[ED hc]at ih
      simp only[Prod.mk.injEq]at ih
      obtain⟨i1,i2⟩:=ih
      simp only[if_true]
      rw[List.cons_append,←i1,←i2]
theorem AT9{α:Type} (c:UInt8) (l:List UInt8) (hb:l.length≤1000000) (k:List UInt8×List UInt8×Bool→Option α):
    (Option.bind (BR N l [c]) fun y=>if(decide (y<(l.length:Int)))=true then Option.bind (sub l (wr .i64 (y+1)) (l.length:Int)) fun x7=>Option.bind (sub l 0 y) fun x8=>k (x8,x7,true)else k (l,[],false))=k (AY c l):=by
  have hw:(fun x:UInt8=>!([c]:List UInt8).contains x)=(fun x=>x !=c):=by funext x;simp[bne];rfl
  rw[IR l [c] (by simp) (by omega),Option.bind_some,hw]
  cases hc:l.contains c
  · rw[NB l hc,if_neg (by simp),MU hc]
  · have hlt:=Ih hc
    obtain⟨s1,s2⟩:=Xo hc hb
    rw[Ij,if_pos hc]at s1 s2
    have w0:wr .i64 (((l.takeWhile (· !=c)).length:Int)+0)=((l.takeWhile (· !=c)).length:Int):=by rw[BF (by omega)];omega
    rw[w0]at s1
    rw[if_pos (by simp;omega),show((1:Int))=(([c]:List UInt8).length:Int)from rfl,s2,Option.bind_some,s1,Option.bind_some,ED hc]
def Lc (r:List UInt8):List UInt8×List UInt8×Bool:=if preB [47,47] r=true then((r.drop 2).dropWhile (· !=47),(r.drop 2).takeWhile (· !=47),true)else(r,[],false)
def La (a b:List UInt8):ApiURI:=
  ⟨a,(Lc (AY 63 (AY 35 b).1).1).2.1,(Lc (AY 63 (AY 35 b).1).1).1,(AY 63 (AY 35 b).1).2.1,(AY 35 b).2.1,true,(Lc (AY 63 (AY 35 b).1).1).2.2,(AY 63 (AY 35 b).1).2.2,(AY 35 b).2.2⟩
theorem PL (k2:Unit→Option Bool): ∀(l:List UInt8) (i:Int),(∀x,x∈l→Iw x=true)→Dm N k2 l i=k2 ()
  |[],i,_=>by rw[Dm]
  | c::l,i,h=>by
    rw[Dm]
    dsimp only[AL]
    rw[Qp,Option.bind_some,h c (by simp),if_pos rfl,if_neg (by decide)]
    exact PL k2 l (i+1) fun x hx=>h x (by simp[hx])
theorem Pz (k2:Unit→Option Bool): ∀(l:List UInt8) (i:Int),(∀x,x∈l→Iw x=true)→Cj N k2 l i=k2 ()
  |[],i,_=>by rw[Cj]
  | c::l,i,h=>by
    rw[Cj]
    dsimp only[AL]
    rw[Nn,Option.bind_some,h c (by simp),if_pos rfl,if_neg (by decide)]
    exact Pz k2 l (i+1) fun x hx=>h x (by simp[hx])
theorem AG1{a:List UInt8} (h:GX a):KV N a=some true:=by
  obtain⟨h5,hl⟩:=JJ h
  unfold KV
  rw[AL,BP (by omega),PL _ a 0 fun x hx=>(hl x hx).1]
  cases a with
  |nil=>simp at h5
  |cons _ _=>rfl
theorem AGq{a:List UInt8} (h:GX a):Iz N a=some true:=by
  obtain⟨h5,hl⟩:=JJ h
  unfold Iz
  rw[AL,BP (by omega),Pz _ a 0 fun x hx=>(hl x hx).1]
  cases a with
  |nil=>simp at h5
  |cons _ _=>rfl
theorem AHD{p:UInt8→Bool}: ∀(a:List UInt8){x:UInt8}{t:List UInt8},(∀y,y∈a→p y=true)→p x=false→(a++x::t).takeWhile p=a
  |[],x,t,_,hx=>by rw[List.nil_append,List.takeWhile_cons,hx];rfl
  |y::a,x,t,h,hx=>by rw[List.cons_append,List.takeWhile_cons,h y (by simp),if_pos rfl,AHD a (fun z hz=>h z (by simp[hz])) hx]
theorem AHV{a:List UInt8} (h:GX a): ∀y,y∈a→(!([58,47]:List UInt8).contains y)=true:=fun y hy=>by
  obtain⟨_,_,_,_,k5,k6,_⟩:=(JJ h).2 y hy
  simp[k5,k6]
theorem AT7{α:Type} (r:List UInt8) (hb:r.length≤1000000) (k:List UInt8×List UInt8×Bool→Option α):
    (Option.bind (strings_CutPrefix N r ([47,47]:List UInt8)) fun y24=>
     if y24.2=true then
      Option.bind (strings_IndexByte N y24.1 47) fun y26=>
      AQ (fun j28:Int=>
       Option.bind (sub y24.1 0 j28) fun x32=>
       Option.bind (sub y24.1 j28 (y24.1.length:Int)) fun x33=>
       k (x33,x32,true)) fun k29=>
      if(decide (y26<0))=true then
       k29 (y24.1.length:Int)
      else
       k29 y26
     else
      k (r,[],false))=k (Lc r):=by
  rw[AH0,Option.bind_some]
  unfold Lc
  by_cases h:preB [47,47] r=true
  · rw [if_pos h,if_pos h]
    simp only[if_true,List.length_cons,List.length_nil]
    rw[show(47:Int)=AJ 47 from rfl,JR,Option.bind_some,Ij,AL]
    generalize hq:r.drop (0+1+1)=q
    have hql:q.length≤1000000:=by rw[←hq,List.length_drop];omega
    cases hc:q.contains 47
    · have hd:q.dropWhile (· !=(47:UInt8))=[]:=by
        have e:=List.takeWhile_append_dropWhile (p:=(· !=(47:UInt8))) (l:=q)
        rw[NB q hc]at e
        simpa using e
      simp only[Bool.false_eq_true,if_false]
      rw[if_pos (by decide),show(0:Int)=((0:Nat):Int)from rfl,CR q 0 _ (Nat.zero_le _) (Nat.le_refl _),Option.bind_some,BZ (Nat.le_refl _),Option.bind_some,NB q hc,hd]
      simp
    · have hlt:=Ih hc
      simp only[if_true]
      rw[if_neg (by simp),show(0:Int)=((0:Nat):Int)from rfl,CR q 0 _ (Nat.zero_le _) (by omega),Option.bind_some,BZ (by omega),Option.bind_some,List.drop_zero,Nat.sub_zero,JK,MZ]
  · rw[if_neg h,if_neg h];rfl
theorem ATr{α:Type} (r:List UInt8) (hb:r.length≤1000000) (k:List UInt8×List UInt8×Bool→Option α):
    (Option.bind (Dy N r ([47,47]:List UInt8)) fun y36=>
     if y36=true then
      Option.bind (sub r 2 (r.length:Int)) fun x38=>
      Option.bind (BR N x38 ([47]:List UInt8)) fun y39=>
      Option.bind (sub r 2 (wr .i64 (2+y39))) fun x41=>
      Option.bind (sub r (wr .i64 (2+y39)) (r.length:Int)) fun x42=>
      k (x42,x41,true)
     else
      k (r,[],false))=k (Lc r):=by
  have hw:(fun x:UInt8=>!([47]:List UInt8).contains x)=(fun x=>x !=47):=by funext x;simp[bne];rfl
  rw[Ns,Option.bind_some]
  unfold Lc
  by_cases h:preB [47,47] r=true
  · have hl:=KE h
    simp only[List.length_cons,List.length_nil]at hl
    have hle:=Lu (· !=(47:UInt8)) (r.drop 2)
    rw[List.length_drop]at hle
    rw[if_pos h,if_pos h,show(2:Int)=((2:Nat):Int)from rfl,BZ (by omega),Option.bind_some,IR _ [47] (by simp) (by rw[List.length_drop];omega),Option.bind_some,hw]
    have e:wr .i64 (((2:Nat):Int)+(((r.drop 2).takeWhile (fun x=>x !=47)).length:Int))=((2+((r.drop 2).takeWhile (fun x=>x !=47)).length:Nat):Int):=by rw[BF (by omega)];omega
    rw[e,CR r 2 _ (by omega) (by omega),Option.bind_some,BZ (by omega),Option.bind_some,show 2+((r.drop 2).takeWhile (fun x=>x !=47)).length-2=((r.drop 2).takeWhile (fun x=>x !=47)).length by omega,JK,←List.drop_drop,MZ]
  · rw[if_neg h,if_neg h]
theorem AHl{c:UInt8}{a b:List UInt8} (h: ∀x,x∈a→x≠c) (hc:(58:UInt8)≠c):AY c (a++58::b)=(a++58::(AY c b).1,(AY c b).2):=by
  rw[show a++58::b=(a++[58])++b by simp,Rk (a++[58]) b (by
    intro x hx
    simp only[List.mem_append,List.mem_cons,List.not_mem_nil,or_false]at hx
    rcases hx with hx|rfl
    · exact h x hx
    · exact hc)]
  simp
theorem APf{a b:List UInt8} (h:GX a) (hb:(a++58::b).length≤16384) (hN:20000≤N):Li N (a++58::b)=some (La a b,0):=by
  obtain⟨h5,hl⟩:=JJ h
  simp only[List.length_append,List.length_cons]at hb
  have hc1:=Es 35 b
  have hc2:=Es 63 (AY 35 b).1
  unfold Li La
  rw[if_neg (by simp only[List.length_append,List.length_cons,decide_eq_true_eq];omega),MI 35 _ (by simp only[List.length_append,List.length_cons];omega),Option.bind_some,AHl (c:=35) (fun x hx=>(hl x hx).2.2.1) (by decide),MI 63 _ (by simp only[List.length_append,List.length_cons];omega),Option.bind_some,AHl (c:=63) (fun x hx=>(hl x hx).2.2.2.1) (by decide)]
  dsimp only
  generalize (AY 63 (AY 35 b).1)=d at *
  obtain⟨r,q,hq⟩:=d
  dsimp only at *
  have hset:=AHV h
  have htw:((a++58::r).takeWhile fun c=>!([58,47]:List UInt8).contains c)=a:=AHD a hset (by decide)
  have hany:(a++58::r).any ([58,47]:List UInt8).contains=true:=by rw[List.any_append];simp
  refine(KJ (a:=(r,a,true)) fun k=>?_).trans ?_
  · rw[Ut (by decide) (by decide) (by decide) (by
      intro _ c hc
      rw[htw]at hc
      exact(hl c hc).2.1) (by simp only[List.length_append,List.length_cons];omega) (by omega),Option.bind_some]
    unfold ARS
    rw[if_pos hany,htw]
    have hget:(a++58::r)[a.length]?=some 58:=by rw[List.getElem?_append_right (Nat.le_refl _),Nat.sub_self];rfl
    dsimp only[AL]
    rw[if_pos (by simp),Io,hget,Option.bind_some,if_pos (by decide),show(0:Int)=((0:Nat):Int)from rfl,CR _ 0 _ (Nat.zero_le _) (by simp),Option.bind_some,List.drop_zero,Nat.sub_zero,List.take_left,AG1 h,Option.bind_some,if_pos rfl,show wr .i64 ((a.length:Int)+1)=((a.length+1:Nat):Int) by rw[BF (by omega)];omega,BZ (by simp),Option.bind_some]
    rw[show(a++58::r).drop (a.length+1)=r by rw[←List.drop_drop,List.drop_left];rfl]
  · dsimp only
    refine(KJ (a:=Lc r) fun k=>AT7 r (by omega) k).trans ?_
    rfl
theorem AQQ{a b:List UInt8} (h:GX a) (hb:(a++58::b).length≤16384) (hN:20000≤N):Jp N (a++58::b)=some (La a b,0):=by
  obtain⟨h5,hl⟩:=JJ h
  simp only[List.length_append,List.length_cons]at hb
  have hc1:=Es 35 b
  have hc2:=Es 63 (AY 35 b).1
  unfold Jp La
  rw[if_neg (by simp only[List.length_append,List.length_cons,decide_eq_true_eq];omega)]
  refine(KJ (a:=AY 35 (a++58::b)) fun k=>AT9 35 _ (by simp only[List.length_append,List.length_cons];omega) k).trans ?_
  rw[AHl (c:=35) (fun x hx=>(hl x hx).2.2.1) (by decide)]
  dsimp only
  refine(KJ (a:=AY 63 (a++58::(AY 35 b).1)) fun k=>AT9 63 _ (by simp only[List.length_append,List.length_cons];omega) k).trans ?_
  rw[AHl (c:=63) (fun x hx=>(hl x hx).2.2.2.1) (by decide)]
  dsimp only
  generalize (AY 63 (AY 35 b).1)=d at *
  obtain⟨r,q,hq⟩:=d
  dsimp only at *
  have hset:=AHV h
  have htw:((a++58::r).takeWhile fun c=>!([58,47]:List UInt8).contains c)=a:=AHD a hset (by decide)
  refine(KJ (a:=(r,a,true)) fun k=>?_).trans ?_
  · rw[IR _ [58,47] (by decide) (by simp only[List.length_append,List.length_cons];omega),Option.bind_some,htw]
    have hget:(a++58::r)[a.length]?=some 58:=by rw[List.getElem?_append_right (Nat.le_refl _),Nat.sub_self];rfl
    dsimp only[AL]
    rw[if_pos (by simp;omega),Io,hget,Option.bind_some,if_pos (by decide),show(0:Int)=((0:Nat):Int)from rfl,CR _ 0 _ (Nat.zero_le _) (by simp),Option.bind_some,List.drop_zero,Nat.sub_zero,List.take_left,AGq h,Option.bind_some,if_pos rfl,show wr .i64 ((a.length:Int)+1)=((a.length+1:Nat):Int) by rw[BF (by omega)];omega,BZ (by simp),Option.bind_some]
    rw[show(a++58::r).drop (a.length+1)=r by rw[←List.drop_drop,List.drop_left];rfl]
  · dsimp only
    refine(KJ (a:=Lc r) fun k=>ATr r (by omega) k).trans ?_
    rfl
end
end Go.VM
namespace Go.VM
section
variable{N:Nat}
theorem Uz (k4:Unit→Option Bool): ∀ps:List (List UInt8),(∀p,p∈ps→p.length≤2^60)→DK N k4 ps=if(ps.all fun p=>(Dv 255 p).2==0)=true then k4 ()else some false
  |[],_=>by rw[DK];rfl
  | p::ps,h=>by
    rw[DK,show(255:Int)=((255:Nat):Int)from rfl,SS (by decide) p (h p (by simp)),Option.bind_some,Uz k4 ps fun q hq=>h q (by simp[hq]),List.all_cons]
    cases hx:((Dv 255 p).2==0)<;>simp[bne,hx]
theorem AHk (l:List UInt8) (hb:l.length≤1000000):IU N l=some (S9 l):=by
  have hl:=FD 46 l
  have hp:=Ed 46 l
  unfold IU
  rw[Qm l 46 hb,Option.bind_some]
  dsimp only[AL]
  rw[BP (by omega),Uz _ _ fun p h=>by have:=hp p h;omega]
  unfold S9
  have e:(((AP 46 l).length:Int) !=4)=!decide ((AP 46 l).length=4):=by
    by_cases h:(AP 46 l).length=4
    · rw[decide_eq_true h,h];rfl
    · rw[decide_eq_false h];simp;omega
  rw[e]
  cases decide ((AP 46 l).length=4)<;>cases ((AP 46 l).all fun p=>(Dv 255 p).2==0)<;>simp
theorem Sm (l:List UInt8) (hN:300≤N):JL N l=some (FH l):=by
  unfold JL FH
  by_cases h:l=[]
  · subst h;rfl
  rw[if_neg (by simpa using h),if_neg h]
  by_cases h2:l.length>253
  · rw[if_pos (by simp only[decide_eq_true_eq];omega),if_pos h2]
  rw[if_neg (by simp only[decide_eq_true_eq];omega),if_neg h2]
  dsimp only[AL]
  rw[AHk l (by omega),Option.bind_some,AMr l (by omega) (by omega),Option.bind_some,lower_eq l (by omega),Option.bind_some]
  cases S9 l<;>cases M3 l<;>rfl
theorem AOk (l:List UInt8) (hN:300≤N) (hb:l.length≤1000000):JP N l=some (hpS l):=by
  have hle:=Es 58 l
  unfold JP hpS
  rw[MI 58 l (by omega),Option.bind_some,Sm _ hN,Option.bind_some]
  dsimp only[AL]
  rw[AMZ _ (by omega),Option.bind_some]
  by_cases h:((FH (AY 58 l).1).2 !=0)=true
  · rw[if_pos h,if_pos h]
  · rw [if_neg h,if_neg h]
    cases (AY 58 l).2.2
    · rfl
    · simp only[if_true]
      by_cases hp:((Mi (AY 58 l).2.1).2 !=0)=true
      · rw[if_pos hp,if_pos hp]
      · rw[if_neg hp,if_neg hp]
        split<;>rfl
def FE (p:Int):Prop:=0≤p∧p≤65535
theorem AMc (l:List UInt8):FE (Mi l).1:=by
  have:=NL 65535 l
  unfold Mi FE;split<;>simp<;>omega
theorem YI (l:List UInt8):FE (hpS l).1.port:=by
  have:=AMc (AY 58 l).2.1
  unfold hpS FE at *
  split
  · simp
  split
  · split
    · simp
    · simp only;split<;>omega
  · simp
theorem Lm (l:List UInt8):(FH l).1.length≤253:=by
  unfold FH
  split
  · simp
  split
  · simp
  split
  · simp;omega
  · simp
theorem Ro (l:List UInt8):(hpS l).1.host.length≤253:=by
  have:=Lm (AY 58 l).1
  unfold hpS
  split
  · simp
  split
  · split<;>simp<;>omega
  · simpa using this
def hpF (h:List UInt8) (p:Int):List UInt8:=if p=0 then h else h++[58]++fmtS p.toNat
theorem Pn (h:List UInt8) (p:Int):(hpF h p).length≤h.length+21:=by
  have:=Lt p.toNat
  unfold hpF;split<;>simp<;>omega
theorem AQv (h:List UInt8) (p:Int) (hp:FE p) (hb:h.length≤1000000) (hN:20≤N):Jn N ⟨h,p⟩=some (hpF h p):=by
  have hl:=Lt p.toNat
  obtain⟨h1,h2⟩:=hp
  unfold Jn hpF
  by_cases h0:p=0
  · rw[if_pos (by simpa using h0),if_pos h0]
  · rw[if_neg (by simpa using h0),if_neg h0,if_neg (by simp;omega)]
    have e:wr .u64 p=((p.toNat:Nat):Int):=by rw[Hd (by omega)];omega
    simp only[e]
    rw[SV p.toNat (by omega) hN,Option.bind_some,BP (by simp;omega),BP (by simp;omega)]
theorem AP3 (h:List UInt8) (p:Int) (hp:FE p) (hb:h.length≤1000000) (hN:20≤N):Ig N ⟨h,p⟩=some (hpF h p):=by
  have hl:=Lt p.toNat
  obtain⟨h1,h2⟩:=hp
  unfold Ig FB hpF
  by_cases h0:p=0
  · rw[if_pos (by simpa using h0),if_pos h0]
  · rw[if_neg (by simpa using h0),if_neg h0]
    have e:wr .u64 p=((p.toNat:Nat):Int):=by rw[Hd (by omega)];omega
    simp only[e]
    rw[if_neg (by simp;omega),Tg p.toNat (by omega) hN,Option.bind_some,Option.bind_some,BP (by simp;omega),BP (by simp;omega)]
end
end Go.VM
namespace Go.VM
section
variable{N:Nat}
theorem ABl (c:UInt8) (l:List UInt8):strings_Contains N l [c]=some (l.contains c):=by
  unfold strings_Contains;rw[V6,Option.bind_some,Gq]
theorem ASu{c:UInt8}{l:List UInt8} (hb:l.length≤1000000):decide ((((l.takeWhile fun x=>!([c]:List UInt8).contains x).length:Nat):Int)<(l.length:Int))=l.contains c:=by
  have hw:(fun x:UInt8=>!([c]:List UInt8).contains x)=(fun x=>x !=c):=by funext x;simp[bne];rfl
  rw[hw]
  cases h:l.contains c
  · rw[NB l h];simp
  · have:=Ih h;simp;omega
theorem Zi (also:List UInt8): ∀(k:Nat) (t out:List UInt8),(M0 also k t out).1.length≤out.length+t.length
  |0,t,out=>by simp[M0]
  |k+1,[],out=>by simp[M0]
  | k+1,c::t,out=>by
    rw[M0]
    split
    · cases h:H9 t with
      |none=>simp
      | some x=>
        have h2:=Nk h
        have:=Zi also k (t.drop 2) (out++(if Cu x=true then [x]else Ho x))
        simp only[List.length_append,List.length_drop,List.length_cons]at *
        have:(if Cu x=true then [x]else Ho x).length≤3:=by split<;>simp[Ho]
        omega
    · split
      · have:=Zi also k t (out++[c])
        simp only[List.length_append,List.length_cons,List.length_nil]at *;omega
      · simp
theorem Gp (s also:List UInt8):(CP N s also).1.length≤s.length:=by
  unfold CP
  split
  · simp
  · have:=Zi also N s [];simpa using this
def NU (u:ApiURL):List UInt8:=if u.hasQuery=true then u.path++[63]++u.query else u.path
def Js (u:ApiURL):List UInt8:=
  if u.hasFrag=true then([104,116,116,112,115,58,47,47]++hpF u.host u.port)++NU u++([35]++u.fragment)else([104,116,116,112,115,58,47,47]++hpF u.host u.port)++NU u
theorem AMz (u:ApiURL) (h:u.path.length≤1000000∧u.query.length≤1000000):Hf N u=some (NU u):=by
  unfold Hf NU
  cases u.hasQuery
  · rfl
  · rw[if_pos rfl,if_pos rfl,BP (by simp;omega),BP (by simp;omega)]
theorem AOy (u:ApiURL) (h:u.path.length≤1000000∧u.query.length≤1000000):Ik N u=some (NU u):=by
  unfold Ik NU
  cases u.hasQuery
  · rfl
  · rw[if_pos rfl,if_pos rfl,BP (by simp;omega),BP (by simp;omega)]
theorem Sk (u:ApiURL):(NU u).length≤u.path.length+u.query.length+1:=by
  unfold NU;split
  · simp only[List.length_append,List.length_cons,List.length_nil];omega
  · omega
def Sv (u:ApiURL):Prop:=FE u.port∧u.host.length≤1000000∧u.path.length≤1000000∧u.query.length≤1000000∧u.fragment.length≤1000000
theorem M6 (u:ApiURL) (h:Sv u) (hN:20≤N):Cg N u=some (Js u):=by
  obtain⟨h1,h2,h3,h4,h5⟩:=h
  have hh:=Pn u.host u.port
  have ht:=Sk u
  unfold Cg JV Js
  rw[Option.bind_some,AQv _ _ h1 h2 hN,Option.bind_some,BP (by simp;omega),AMz u ⟨h3,h4⟩,Option.bind_some,BP (by simp;omega)]
  dsimp only[AL]
  cases u.hasFrag
  · rfl
  · rw[if_pos rfl,if_pos rfl,BP (by simp;omega),BP (by simp;omega)]
theorem NM (u:ApiURL) (h:Sv u) (hN:20≤N):CZ N u=some (Js u):=by
  obtain⟨h1,h2,h3,h4,h5⟩:=h
  have hh:=Pn u.host u.port
  have ht:=Sk u
  unfold CZ KM Js
  rw[Option.bind_some,AP3 _ _ h1 h2 hN,Option.bind_some,BP (by simp;omega),AOy u ⟨h3,h4⟩,Option.bind_some,BP (by simp;omega)]
  dsimp only[AL]
  cases u.hasFrag
  · rfl
  · rw[if_pos rfl,if_pos rfl,BP (by simp;omega),BP (by simp;omega)]
theorem AN9 (r:List UInt8):(Lc r).1.length≤r.length∧(Lc r).2.1.length≤r.length:=by
  unfold Lc
  split
  · have h1:=(List.dropWhile_sublist (fun x:UInt8=>x !=47) (l:=r.drop 2)).length_le
    have h2:=Lu (· !=(47:UInt8)) (r.drop 2)
    rw[List.length_drop]at h1 h2
    exact⟨by dsimp only;omega,by dsimp only;omega⟩
  · simp
theorem Xn (a b:List UInt8):(La a b).authority.length≤b.length∧(La a b).path.length≤b.length∧(La a b).query.length≤b.length∧(La a b).fragment.length≤b.length:=by
  have h1:=Es 35 b
  have h2:=Es 63 (AY 35 b).1
  have h3:=AN9 (AY 63 (AY 35 b).1).1
  unfold La
  dsimp only
  omega
def inP:List UInt8:=[33,36,38,39,40,41,42,43,44,59,61,58,64,47]
def inQ:List UInt8:=[33,36,38,39,40,41,42,43,44,59,61,58,64,47,63]
def JB:ApiURL:=⟨[],0,[],[],[],false,false⟩
def K7 (N:Nat) (p:List UInt8):List UInt8:=if Hr N p []=[]then [47]else Hr N p []
def Yb (N:Nat) (U:ApiURI):ApiURL×Int:=
  if U.hasAuthority=false then(JB,71)
  else if U.authority.contains 64=true then(JB,70)
  else if((hpS U.authority).2 !=0)=true then(JB,(hpS U.authority).2)
  else if((CP N U.path inP).2 !=0)=true then(JB,(CP N U.path inP).2)
  else if((CP N U.query inQ).2 !=0)=true then(JB,(CP N U.query inQ).2)
  else if((CP N U.fragment inQ).2 !=0)=true then(JB,(CP N U.fragment inQ).2)
  else if(Js ⟨(hpS U.authority).1.host,(hpS U.authority).1.port,K7 N (CP N U.path inP).1,(CP N U.query inQ).1,(CP N U.fragment inQ).1,U.hasQuery,U.hasFrag⟩).length>4096 then(JB,5)
  else(⟨(hpS U.authority).1.host,(hpS U.authority).1.port,K7 N (CP N U.path inP).1,(CP N U.query inQ).1,(CP N U.fragment inQ).1,U.hasQuery,U.hasFrag⟩,0)
def OJ (N:Nat) (a b:List UInt8):ApiURL×Int:=if(a++58::b).length>4096 then(JB,5)else Yb N (La a b)
theorem R5 (p:List UInt8):(K7 N p).length≤p.length+1:=by
  have:=KC N p []
  simp only[List.length_nil]at this
  unfold K7;split
  · simp
  · omega
theorem ADu{a:List UInt8} (h:GX a):(a.map Dc==List.map Dc [104,116,116,112,115])=true:=by
  rw[h];decide
theorem AHX {a b:List UInt8} (h:GX a) (hb:(a++58::b).length≤1000000) (hN:20000≤N):Gz N (a++58::b)=some (OJ N a b):=by
  obtain⟨h5,_⟩:=JJ h
  unfold Gz OJ
  by_cases hl:(a++58::b).length>4096
  · rw[if_pos (by simp only[decide_eq_true_eq];omega),if_pos hl];rfl
  rw[if_neg (by simp only[decide_eq_true_eq];omega),if_neg hl,APf h (by omega) hN,Option.bind_some]
  have hbl:b.length≤4096:=by simp only[List.length_append,List.length_cons]at hl;omega
  obtain⟨l1,l2,l3,l4⟩:=Xn a b
  have hS:(La a b).hasScheme=true:=rfl
  have hsc:(La a b).scheme=a:=rfl
  dsimp only[AL]
  rw[if_neg (by decide),hS,if_pos rfl,hsc,Qj a _ (by omega) (by decide),Option.bind_some,ADu h,if_neg (by decide)]
  generalize La a b=U at *
  unfold Yb
  cases hA:U.hasAuthority
  · rfl
  rw[if_pos rfl,if_neg (by decide)]
  rw[ABl,Option.bind_some]
  cases hat:U.authority.contains 64
  rotate_left
  · rfl
  rw[if_neg (by decide),if_neg (by decide),AOk _ (by omega) (by omega),Option.bind_some]
  have q1:=YI U.authority
  have q2:=Ro U.authority
  generalize hpS U.authority=H at *
  by_cases e1:(H.2 !=0)=true
  · rw[if_pos e1,if_pos e1];rfl
  rw[if_neg e1,if_neg e1]
  have n1:=Gp (N:=N) U.path inP
  have n2:=Gp (N:=N) U.query inQ
  have n3:=Gp (N:=N) U.fragment inQ
  rw[Hu U.path _ hN,Option.bind_some]
  change (if((CP N U.path inP).2 !=0)=true then _ else _)=_
  by_cases e2:((CP N U.path inP).2 !=0)=true
  · rw[if_pos e2,if_pos e2];rfl
  rw[if_neg e2,if_neg e2,Hu U.query _ hN,Option.bind_some]
  change (if((CP N U.query inQ).2 !=0)=true then _ else _)=_
  by_cases e3:((CP N U.query inQ).2 !=0)=true
  · rw[if_pos e3,if_pos e3];rfl
  rw[if_neg e3,if_neg e3,Hu U.fragment _ hN,Option.bind_some]
  change (if((CP N U.fragment inQ).2 !=0)=true then _ else _)=_
  by_cases e4:((CP N U.fragment inQ).2 !=0)=true
  · rw[if_pos e4,if_pos e4];rfl
  rw[if_neg e4,if_neg e4]
  change Option.bind (FP N (CP N U.path inP).1) _=_
  rw[AO7 _ hN (by omega),Option.bind_some]
  have pl:=R5 (N:=N) (CP N U.path inP).1
  have hp:K7 N (CP N U.path inP).1=if(Hr N (CP N U.path inP).1 []==[])=true then [47]else Hr N (CP N U.path inP).1 []:=by
    unfold K7;split<;>simp_all
  have fin: ∀P:List UInt8,P=K7 N (CP N U.path inP).1→(Option.bind (Cg N (ApiURL.mk H.1.host H.1.port P (CP N U.query inQ).1 (CP N U.fragment inQ).1 U.hasQuery U.hasFrag)) fun y25=>
            if(decide ((y25.length:Int)>4096))=true then
             (some ((ApiURL.mk [] 0 [] [] [] false false),5):Option (ApiURL×Int))
            else
             some ((ApiURL.mk H.1.host H.1.port P (CP N U.query inQ).1 (CP N U.fragment inQ).1 U.hasQuery U.hasFrag),0))=some (if(Js ⟨H.1.host,H.1.port,K7 N (CP N U.path inP).1,(CP N U.query inQ).1,(CP N U.fragment inQ).1,U.hasQuery,U.hasFrag⟩).length>4096 then(JB,5)
  else(⟨H.1.host,H.1.port,K7 N (CP N U.path inP).1,(CP N U.query inQ).1,(CP N U.fragment inQ).1,U.hasQuery,U.hasFrag⟩,0)):=by
    intro P hP
    subst hP
    rw[M6 _ ⟨q1,by dsimp only;omega,by dsimp only;omega,by dsimp only;omega,by dsimp only;omega⟩ (by omega),Option.bind_some]
    split
    · rename_i hx;rw[if_pos (by simp only[decide_eq_true_eq]at hx;omega)];rfl
    · rename_i hx;rw[if_neg (by simp only[decide_eq_true_eq]at hx;omega)]
  by_cases e5:(Hr N (CP N U.path inP).1 []==[])=true
  · rw[if_pos e5]at hp⊢
    exact fin _ hp.symm
  · rw[if_neg e5]at hp⊢
    exact fin _ hp.symm
theorem AHw {a b:List UInt8} (h:GX a) (hb:(a++58::b).length≤1000000) (hN:20000≤N):IQ N (a++58::b)=some (OJ N a b):=by
  obtain⟨h5,_⟩:=JJ h
  unfold IQ OJ
  by_cases hl:(a++58::b).length>4096
  · rw[if_pos (by simp only[decide_eq_true_eq];omega),if_pos hl];rfl
  rw[if_neg (by simp only[decide_eq_true_eq];omega),if_neg hl,AQQ h (by omega) hN,Option.bind_some]
  have hbl:b.length≤4096:=by simp only[List.length_append,List.length_cons]at hl;omega
  obtain⟨l1,l2,l3,l4⟩:=Xn a b
  have hS:(La a b).hasScheme=true:=rfl
  have hsc:(La a b).scheme=a:=rfl
  dsimp only[AL]
  rw[if_neg (by decide),hS,if_pos rfl,hsc,Qk a _ (by omega) (by decide),Option.bind_some,ADu h,if_neg (by decide)]
  generalize La a b=U at *
  unfold Yb
  cases hA:U.hasAuthority
  · rfl
  rw[if_pos rfl,if_neg (by decide)]
  rw[IR _ [64] (by decide) (by omega),Option.bind_some,ASu (by omega)]
  cases hat:U.authority.contains 64
  rotate_left
  · rfl
  rw[if_neg (by decide),if_neg (by decide),AMt _ (by omega),Option.bind_some]
  have q1:=YI U.authority
  have q2:=Ro U.authority
  generalize hpS U.authority=H at *
  by_cases e1:(H.2 !=0)=true
  · rw[if_pos e1,if_pos e1];rfl
  rw[if_neg e1,if_neg e1]
  have n1:=Gp (N:=N) U.path inP
  have n2:=Gp (N:=N) U.query inQ
  have n3:=Gp (N:=N) U.fragment inQ
  rw[JS U.path _ hN (by decide),Option.bind_some]
  change (if((CP N U.path inP).2 !=0)=true then _ else _)=_
  by_cases e2:((CP N U.path inP).2 !=0)=true
  · rw[if_pos e2,if_pos e2];rfl
  rw[if_neg e2,if_neg e2,JS U.query _ hN (by decide),Option.bind_some]
  change (if((CP N U.query inQ).2 !=0)=true then _ else _)=_
  by_cases e3:((CP N U.query inQ).2 !=0)=true
  · rw[if_pos e3,if_pos e3];rfl
  rw[if_neg e3,if_neg e3,JS U.fragment _ hN (by decide),Option.bind_some]
  change (if((CP N U.fragment inQ).2 !=0)=true then _ else _)=_
  by_cases e4:((CP N U.fragment inQ).2 !=0)=true
  · rw[if_pos e4,if_pos e4];rfl
  rw[if_neg e4,if_neg e4]
  change Option.bind (Eg N (CP N U.path inP).1) _=_
  rw[APb _ hN (by omega),Option.bind_some]
  have pl:=R5 (N:=N) (CP N U.path inP).1
  have hp:K7 N (CP N U.path inP).1=if(Hr N (CP N U.path inP).1 []==[])=true then [47]else Hr N (CP N U.path inP).1 []:=by
    unfold K7;split<;>simp_all
  have fin: ∀P:List UInt8,P=K7 N (CP N U.path inP).1→(Option.bind (CZ N (ApiURL.mk H.1.host H.1.port P (CP N U.query inQ).1 (CP N U.fragment inQ).1 U.hasQuery U.hasFrag)) fun y25=>
            if(decide ((y25.length:Int)>4096))=true then
             (some ((ApiURL.mk [] 0 [] [] [] false false),5):Option (ApiURL×Int))
            else
             some ((ApiURL.mk H.1.host H.1.port P (CP N U.query inQ).1 (CP N U.fragment inQ).1 U.hasQuery U.hasFrag),0))=some (if(Js ⟨H.1.host,H.1.port,K7 N (CP N U.path inP).1,(CP N U.query inQ).1,(CP N U.fragment inQ).1,U.hasQuery,U.hasFrag⟩).length>4096 then(JB,5)
  else(⟨H.1.host,H.1.port,K7 N (CP N U.path inP).1,(CP N U.query inQ).1,(CP N U.fragment inQ).1,U.hasQuery,U.hasFrag⟩,0)):=by
    intro P hP
    subst hP
    rw[NM _ ⟨q1,by dsimp only;omega,by dsimp only;omega,by dsimp only;omega,by dsimp only;omega⟩ (by omega),Option.bind_some]
    split
    · rename_i hx;rw[if_pos (by simp only[decide_eq_true_eq]at hx;omega)];rfl
    · rename_i hx;rw[if_neg (by simp only[decide_eq_true_eq]at hx;omega)]
  by_cases e5:(Hr N (CP N U.path inP).1 []==[])=true
  · rw[if_pos e5]at hp⊢
    exact fin _ hp.symm
  · rw[if_neg e5]at hp⊢
    exact fin _ hp.symm
end
end Go.VM
namespace Go.VM
section
variable{N:Nat}
theorem APK (c:UInt8) (l:List UInt8) (hb:l.length≤1000000):BR N l [c]=some (((l.takeWhile (· !=c)).length:Nat):Int):=by
  have hw:(fun x:UInt8=>!([c]:List UInt8).contains x)=(fun x=>x !=c):=by funext x;simp[bne];rfl
  rw[IR l [c] (by simp) (by omega),hw]
theorem Pw{c:UInt8}{l:List UInt8}:((((l.takeWhile (· !=c)).length:Nat):Int)==(l.length:Int))=!l.contains c:=by
  cases h:l.contains c
  · rw[NB l h];simp
  · have:=Ih h;simp;omega
theorem PV{c:UInt8}{l:List UInt8} (h:l.contains c=true) (hb:l.length≤1000000):
    sub l 0 (((l.takeWhile (· !=c)).length:Nat):Int)=some (AY c l).1∧sub l (wr .i64 ((((l.takeWhile (· !=c)).length:Nat):Int)+1)) (l.length:Int)=some (AY c l).2.1:=by
  have hlt:=Ih h
  obtain⟨s1,s2⟩:=Xo h hb
  rw[Ij,if_pos h]at s1 s2
  have w0:wr .i64 (((l.takeWhile (· !=c)).length:Int)+0)=((l.takeWhile (· !=c)).length:Int):=by rw[BF (by omega)];omega
  rw[w0]at s1
  exact⟨s1,s2⟩
theorem N7{c:UInt8}{l:List UInt8}:(AY c l).2.2=l.contains c:=by
  cases h:l.contains c
  · rw[MU h]
  · rw[ED h]
def inA:List UInt8:=[33,36,38,39,40,41,42,43,44,59,61]
def AHo (N:Nat) (u h:List UInt8):ApiAcct×Int:=
  if((CP N u inA).2 !=0||((CP N u inA).1==[]||(CP N u inA).1.head?==some 37))=true then(⟨[],[]⟩,80)
  else if((FH h).2 !=0)=true then(⟨[],[]⟩,(FH h).2)else(⟨(CP N u inA).1,(FH h).1⟩,0)
def M5 (N:Nat) (s:List UInt8):ApiAcct×Int:=
  if s.length>4096 then(⟨[],[]⟩,5)
  else if s.length<5 then(⟨[],[]⟩,60)
  else if((s.take 5).map Dc==List.map Dc [97,99,99,116,58])=false then(⟨[],[]⟩,60)
  else if(AY 64 (s.drop 5)).2.2=false then(⟨[],[]⟩,6)
  else AHo N (AY 64 (s.drop 5)).1 (AY 64 (s.drop 5)).2.1
theorem AHY{α:Type} (l:List UInt8) (e:Bool) (A B:Option α):(if e=true then A else if(l==[])=true then A else Option.bind (idx l 0) fun x9=>if((AJ x9)==37)=true then A else B)=if(e||(l==[]||l.head?==some 37))=true then A else B:=by
  cases e
  · cases l with
    |nil=>rfl
    | cons c t=>
      rw[if_neg (by decide),if_neg (by simp),show idx (c::t) 0=some c from rfl,Option.bind_some,LK]
      by_cases hc:c=37
      · subst hc;rfl
      · rw[decide_eq_false hc];simp[hc]
  · rfl
theorem AOP (s:List UInt8) (hb:s.length≤1000000) (hN:20000≤N):Kc N s=some (M5 N s):=by
  unfold Kc Pk M5
  by_cases h1:s.length>4096
  · rw[if_pos (by simp;omega),if_pos h1,Option.bind_some];rfl
  rw[if_neg (by simp;omega),if_neg h1]
  dsimp only[AL]
  by_cases h2:s.length<5
  · rw[if_pos (by simp;omega),if_pos h2,if_pos rfl,Option.bind_some];rfl
  have hl:=Es 64 (s.drop 5)
  rw[List.length_drop]at hl
  rw[if_neg (by simp;omega),if_neg h2,show(0:Int)=((0:Nat):Int)from rfl,show(5:Int)=((5:Nat):Int)from rfl,CR s 0 5 (by omega) (by omega),Option.bind_some,List.drop_zero,Nat.sub_zero,Qj _ _ (by rw[List.length_take];omega) (by decide),Option.bind_some,BZ (by omega),Option.bind_some,MI 64 _ (by rw[List.length_drop];omega),Option.bind_some]
  cases (List.map Dc (s.take 5)==List.map Dc [97,99,99,116,58])
  · simp only[Bool.not_false,if_true,Option.bind_some];rfl
  simp only[Bool.not_true,Bool.false_eq_true,if_false]
  cases hc:(AY 64 (s.drop 5)).2.2
  · simp only[Bool.false_eq_true,if_false,if_true,Option.bind_some];rfl
  simp only[if_true,Option.bind_some]
  rw[if_neg (by decide),if_neg (by decide),Hu _ _ hN,Option.bind_some,Sm _ (by omega),Option.bind_some]
  change (if((CP N (AY 64 (s.drop 5)).1 inA).2 !=0)=true then _ else if((CP N (AY 64 (s.drop 5)).1 inA).1==[])=true then _ else Option.bind (idx (CP N (AY 64 (s.drop 5)).1 inA).1 0) _)=_
  try rw[if_neg (by decide: ¬(true=false))]
  unfold AHo
  refine(AHY _ _ _ _).trans ?_
  split
  · rfl
  · by_cases hh:((FH (AY 64 (s.drop 5)).2.1).2 !=0)=true
    · exact(if_pos hh).trans (congrArg some (if_pos hh).symm)
    · exact(if_neg hh).trans (congrArg some (if_neg hh).symm)
theorem AMJ (s:List UInt8) (hb:s.length≤1000000) (hN:20000≤N):Jd N s=some (M5 N s):=by
  unfold Jd M5
  by_cases h1:s.length>4096
  · rw[if_pos (by simp;omega),if_pos h1]
  rw[if_neg (by simp;omega),if_neg h1]
  dsimp only[AL]
  by_cases h2:s.length<5
  · rw[if_pos (by simp;omega),if_pos h2,if_pos rfl]
  have hl:=Es 64 (s.drop 5)
  rw[List.length_drop]at hl
  rw[if_neg (by simp;omega),if_neg h2,show(0:Int)=((0:Nat):Int)from rfl,show(5:Int)=((5:Nat):Int)from rfl,CR s 0 5 (by omega) (by omega),Option.bind_some,List.drop_zero,Nat.sub_zero,Qk _ _ (by rw[List.length_take];omega) (by decide),Option.bind_some,BZ (by omega),Option.bind_some,APK 64 _ (by rw[List.length_drop];omega),Option.bind_some,Pw,N7]
  cases (List.map Dc (s.take 5)==List.map Dc [97,99,99,116,58])
  · simp only[Bool.not_false,if_true]
  simp only[Bool.not_true,Bool.false_eq_true,if_false]
  rw[if_neg (by decide: ¬(true=false))]
  cases hc:(s.drop 5).contains 64
  · simp only[Bool.not_false,if_true]
  obtain⟨s1,s2⟩:=PV hc (by rw[List.length_drop];omega)
  simp only[Bool.not_true,Bool.false_eq_true,if_false]
  rw[show((0:Nat):Int)=0 from rfl,s1,Option.bind_some,JS _ _ hN (by decide),Option.bind_some,s2,Option.bind_some,R6,Option.bind_some]
  change (if((CP N (AY 64 (s.drop 5)).1 inA).2 !=0)=true then _ else if((CP N (AY 64 (s.drop 5)).1 inA).1==[])=true then _ else Option.bind (idx (CP N (AY 64 (s.drop 5)).1 inA).1 0) _)=_
  unfold AHo
  refine(AHY _ _ _ _).trans ?_
  split
  · rfl
  · by_cases hh:((FH (AY 64 (s.drop 5)).2.1).2 !=0)=true
    · exact(if_pos hh).trans (congrArg some (if_pos hh).symm)
    · exact(if_neg hh).trans (congrArg some (if_neg hh).symm)
def VE (a:ApiAcct):List UInt8:=(([97,99,99,116,58]++a.user)++[64])++a.host
theorem AJd (a:ApiAcct) (h:a.user.length≤1000000∧a.host.length≤1000000):Ji N a=some (VE a):=by
  unfold Ji VE
  rw[BP (by simp;omega),BP (by simp;omega),BP (by simp;omega)]
theorem AJ3 (a:ApiAcct) (h:a.user.length≤1000000∧a.host.length≤1000000):I5 N a=some (VE a):=by
  unfold I5 VE
  rw[BP (by simp;omega),BP (by simp;omega),BP (by simp;omega)]
theorem QR (s:List UInt8):(M5 N s).1.user.length≤4096∧(M5 N s).1.host.length≤253:=by
  have hh:=Lm (AY 64 (s.drop 5)).2.1
  have hn:=Gp (N:=N) (AY 64 (s.drop 5)).1 inA
  have hl:=Es 64 (s.drop 5)
  rw[List.length_drop]at hl
  unfold M5 AHo
  split
  · simp
  split
  · simp
  split
  · simp
  split
  · simp
  split
  · simp
  split
  · simp
  · dsimp only;omega
end
end Go.VM
