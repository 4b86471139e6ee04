import Derived.Test.YtjgdhjpafjpjgaaGreatDoorL2
import Derived.Laws.RangeString
set_option linter.unusedVariables false
set_option linter.unusedSimpArgs false
namespace Go.VM
section
variable{N:Nat}
theorem ADm{l:List UInt8}{i:Nat}{c:UInt8} (h:l[i]?=some c) (hc:c.toNat<128):Cx l i=(c.toNat,1):=by
  have hi:i<l.length:=by
    rcases Nat.lt_or_ge i l.length with h'|h'
    · exact h'
    · rw[List.getElem?_eq_none h']at h;cases h
  have e:l[i]=c:=by rw[List.getElem?_eq_getElem hi]at h;exact Option.some.inj h
  unfold Cx
  have hs:i<(⟨l.toArray⟩:ByteArray).size:=hi
  have hx:((⟨l.toArray⟩:ByteArray)[i]'hs)=c:=e
  rw[decode_ascii _ i hs (by rw[hx];exact hc),hx]
theorem AQQ{set:List UInt8}{c:UInt8} (hc:c.toNat<128):Eg N set ((c.toNat:Nat):Int)=some (Go.Lib.indexByte set c):=by
  unfold Eg
  dsimp only[AJ]
  have e:wr .u8 ((c.toNat:Nat):Int)=AL c:=by rw[Vm (by omega)];rfl
  rw[if_pos (by simp),if_pos (by simpa using(by omega:(c.toNat:Int)<128)),e,Jd];rfl
def AR5 (set l:List UInt8):Int:=if(l.any set.contains)=true then(((l.takeWhile fun c=>!set.contains c).length:Nat):Int)else-1
theorem Vl{as:List Bool}{set:List UInt8} (hs:AEN as set) (k17:List Bool→Option Int): ∀(l:List UInt8) (i:Int),
    Ba N k17 l i as=if(l.any set.contains)=true then some (i+(((l.takeWhile fun c=>!set.contains c).length:Nat):Int))else k17 as
  |[],i=>by rw[Ba];rfl
  | c::l,i=>by
    rw[Ba,AEj hs,Option.bind_some]
    dsimp only
    cases h:set.contains c
    · rw[if_neg (by decide),Vl hs k17 l (i+1)]
      simp only[List.any_cons,h,Bool.false_or,List.takeWhile_cons,Bool.not_false,if_true,List.length_cons]
      split
      · congr 1;omega
      · rfl
    · have hw:((c::l).takeWhile fun c=>!set.contains c)=[]:=by rw[List.takeWhile_cons,h];rfl
      rw[if_pos rfl,List.any_cons,h,Bool.true_or,if_pos rfl,hw];simp
theorem VZ{set l:List UInt8} (k24:Unit→Option Int): ∀(t pre:List UInt8) (k:Nat),l=pre++t→t.length<k→(∀c,c∈(t.takeWhile fun c=>!set.contains c)→c.toNat<128)→(∀c,c∈set→c.toNat<128)→
    Ca N l set k24 k pre.length=if(t.any set.contains)=true then some (((pre.length+(t.takeWhile fun c=>!set.contains c).length:Nat):Int))else k24 ()
  |_,_,0,_,h,_,_=>by omega
  | [],pre,k+1,h,_,_,_=>by
    rw[Ca,if_neg (by rw[h];simp)];rfl
  | c::t,pre,k+1,h,hk,ha,hset=>by
    simp only[List.length_cons]at hk
    have hget:l[pre.length]?=some c:=by rw[h,List.getElem?_append_right (Nat.le_refl _),Nat.sub_self];rfl
    have hc:c.toNat<128:=by
      cases hx:set.contains c
      · exact ha c (by rw[List.takeWhile_cons,hx];simp)
      · exact hset c (by simpa using hx)
    rw[Ca,if_pos (by rw[h];simp),ADm hget hc]
    dsimp only
    rw[AQQ hc,Option.bind_some,G9]
    cases hx:set.contains c
    · rw[if_neg (by decide)]
      have:=VZ (l:=l) (set:=set) k24 t (pre++[c]) k (by rw[h];simp) (by omega) (fun x hm=>ha x (by simp only[List.takeWhile_cons,hx,Bool.not_false,if_true,List.mem_cons];exact .inr hm)) hset
      rw[List.length_append,List.length_singleton]at this
      rw[this]
      simp only[List.any_cons,hx,Bool.false_or,List.takeWhile_cons,Bool.not_false,if_true,List.length_cons]
      split
      · congr 2;omega
      · rfl
    · have hw:((c::t).takeWhile fun c=>!set.contains c)=[]:=by rw[List.takeWhile_cons,hx];rfl
      rw[if_pos rfl,List.any_cons,hx,Bool.true_or,if_pos rfl,hw];simp
theorem Vq{set l:List UInt8} (h2:2≤set.length) (hs:set.length≤1000) (hset: ∀c,c∈set→c.toNat<128) (ha:l.length≤8→ ∀c,c∈(l.takeWhile fun c=>!set.contains c)→c.toNat<128) (hb:l.length≤1000000) (hN:20≤N):
    strings_IndexAny N l set=some (AR5 set l):=by
  unfold strings_IndexAny AR5
  have hne:set≠ []:=fun e=>by subst e;simp at h2
  have hsh:strings_shouldUseASCIISet N (l.length:Int)=some (decide ((l.length:Int)>8)):=rfl
  obtain⟨as,e1,e2⟩:=ANO (N:=N) set hset hs
  rw[if_neg (by simpa using hne),if_neg (by simp;omega)]
  dsimp only[AJ]
  rw[hsh,Option.bind_some]
  by_cases h:l.length>8
  · rw[if_pos (by simp;omega),e1,Option.bind_some,AZ Td]
    dsimp only
    rw[AZ e2.1,if_pos rfl,BL (by omega),Vl e2]
    split<;>simp
  · rw[if_neg (by simp;omega),show(0:Nat)=([]:List UInt8).length from rfl,VZ (l:=l) _ l [] N rfl (by omega) (ha (by omega)) hset]
    split<;>simp
theorem AGV{set l:List UInt8} (h2:2≤set.length) (hs:set.length≤1000) (hset: ∀c,c∈set→c.toNat<128) (ha:l.length≤8→ ∀c,c∈(l.takeWhile fun c=>!set.contains c)→c.toNat<128) (hb:l.length≤1000000) (hN:20≤N):
    strings_ContainsAny N l set=some (l.any set.contains):=by
  unfold strings_ContainsAny
  rw[Vq h2 hs hset ha hb hN,Option.bind_some]
  unfold AR5
  cases l.any set.contains<;>simp
end
end Go.VM
namespace Go.VM
section
variable{N:Nat}
def Gq (a:List UInt8):Prop:=a.map Dn=[104,116,116,112,115]
theorem Jf{a:List UInt8} (h:Gq a):a.length=5∧ ∀x,x∈a→JP x=true∧x.toNat<128∧x≠35∧x≠63∧x≠47∧x≠58∧x≠64:=by
  refine⟨by have:=congrArg List.length h;simpa using this,fun x hx=>?_⟩
  have hm:Dn x∈([104,116,116,112,115]:List UInt8):=by rw[←h];exact List.mem_map_of_mem hx
  have key:=Be (f:=fun n=>(!([104,116,116,112,115]:List UInt8).contains (Dn (UInt8.ofNat n)))||(ZU n&&decide (n<128)&&decide (n≠35)&&decide (n≠63)&&decide (n≠47)&&decide (n≠58)&&decide (n≠64))) (g:=fun _=>true) (by kernel_rfl) x
  simp only[UInt8.ofNat_toNat]at key
  rw[show([104,116,116,112,115]:List UInt8).contains (Dn x)=true by simpa using hm]at key
  simp only[Bool.not_true,Bool.false_or,Bool.and_eq_true,decide_eq_true_eq]at key
  obtain⟨⟨⟨⟨⟨⟨k1,k2⟩,k3⟩,k4⟩,k5⟩,k6⟩,k7⟩:=key
  refine⟨k1,k2,?_,?_,?_,?_,?_⟩<;>(rintro rfl;first|exact k3 rfl|exact k4 rfl|exact k5 rfl|exact k6 rfl|exact k7 rfl)
theorem SS{c:UInt8}: ∀(pre t:List UInt8),(∀x,x∈pre→x≠c)→Aa c (pre++t)=(pre++(Aa c t).1,(Aa c t).2)
  |[],t,_=>rfl
  | x::pre,t,h=>by
    have ih:=SS pre t fun y hy=>h y (by simp[hy])
    have hx:x≠c:=h x (by simp)
    have e1:(c==x)=false:=by simpa using fun e:c=x=>hx e.symm
    have e2:(x !=c)=true:=by simpa using hx
    rw[List.cons_append]
    cases hc:(pre++t).contains c
    · rw[Mk (by rw[List.contains_cons,e1,hc];rfl)]
      rw[Mk hc]at ih
      simp only[Prod.mk.injEq]at ih
      obtain⟨i1,i2⟩:=ih
      rw[List.cons_append,←i1,←i2]
    · rw[EN (by rw[List.contains_cons,e1,hc];rfl),List.takeWhile_cons,e2,List.dropWhile_cons,e2]
      rw[EN hc]at ih
      simp only[Prod.mk.injEq]at ih
      obtain⟨i1,i2⟩:=ih
      simp only[if_true]
      rw[List.cons_append,←i1,←i2]
theorem AUf{α:Type} (c:UInt8) (l:List UInt8) (hb:l.length≤1000000) (k:List UInt8×List UInt8×Bool→Option α):
    (Option.bind (BX N l [c]) fun y=>if(decide (y<(l.length:Int)))=true then Option.bind (sub l (wr .i64 (y+1)) (l.length:Int)) fun x7=>Option.bind (sub l 0 y) fun x8=>k (x8,x7,true)else k (l,[],false))=k (Aa c l):=by
  have hw:(fun x:UInt8=>!([c]:List UInt8).contains x)=(fun x=>x !=c):=by funext x;simp[bne];rfl
  rw[Ii l [c] (by simp) (by omega),Option.bind_some,hw]
  cases hc:l.contains c
  · rw[Nv l hc,if_neg (by simp),Mk hc]
  · have hlt:=JG hc
    obtain⟨s1,s2⟩:=ABb hc hb
    rw[JC,if_pos hc]at s1 s2
    have w0:wr .i64 (((l.takeWhile (· !=c)).length:Int)+0)=((l.takeWhile (· !=c)).length:Int):=by rw[BH (by omega)];omega
    rw[w0]at s1
    rw[if_pos (by simp;omega),show((1:Int))=(([c]:List UInt8).length:Int)from rfl,s2,Option.bind_some,s1,Option.bind_some,EN hc]
def MX (r:List UInt8):List UInt8×List UInt8×Bool:=if preB [47,47] r=true then((r.drop 2).dropWhile (· !=47),(r.drop 2).takeWhile (· !=47),true)else(r,[],false)
def L8 (a b:List UInt8):ApiURI:=
  ⟨a,(MX (Aa 63 (Aa 35 b).1).1).2.1,(MX (Aa 63 (Aa 35 b).1).1).1,(Aa 63 (Aa 35 b).1).2.1,(Aa 35 b).2.1,true,(MX (Aa 63 (Aa 35 b).1).1).2.2,(Aa 63 (Aa 35 b).1).2.2,(Aa 35 b).2.2⟩
theorem QY (k2:Unit→Option Bool): ∀(l:List UInt8) (i:Int),(∀x,x∈l→JP x=true)→D7 N k2 l i=k2 ()
  |[],i,_=>by rw[D7]
  | c::l,i,h=>by
    rw[D7]
    dsimp only[AJ]
    rw[RB,Option.bind_some,h c (by simp),if_pos rfl,if_neg (by decide)]
    exact QY k2 l (i+1) fun x hx=>h x (by simp[hx])
theorem QO (k2:Unit→Option Bool): ∀(l:List UInt8) (i:Int),(∀x,x∈l→JP x=true)→Cn N k2 l i=k2 ()
  |[],i,_=>by rw[Cn]
  | c::l,i,h=>by
    rw[Cn]
    dsimp only[AJ]
    rw[OT,Option.bind_some,h c (by simp),if_pos rfl,if_neg (by decide)]
    exact QO k2 l (i+1) fun x hx=>h x (by simp[hx])
theorem AHm{a:List UInt8} (h:Gq a):K8 N a=some true:=by
  obtain⟨h5,hl⟩:=Jf h
  unfold K8
  rw[AJ,BL (by omega),QY _ a 0 fun x hx=>(hl x hx).1]
  cases a with
  |nil=>simp at h5
  |cons _ _=>rfl
theorem AGA{a:List UInt8} (h:Gq a):JD N a=some true:=by
  obtain⟨h5,hl⟩:=Jf h
  unfold JD
  rw[AJ,BL (by omega),QO _ a 0 fun x hx=>(hl x hx).1]
  cases a with
  |nil=>simp at h5
  |cons _ _=>rfl
theorem AG3{p:UInt8→Bool}: ∀(a:List UInt8){x:UInt8}{t:List UInt8},(∀y,y∈a→p y=true)→p x=false→(a++x::t).takeWhile p=a
  |[],x,t,_,hx=>by rw[List.nil_append,List.takeWhile_cons,hx];rfl
  |y::a,x,t,h,hx=>by rw[List.cons_append,List.takeWhile_cons,h y (by simp),if_pos rfl,AG3 a (fun z hz=>h z (by simp[hz])) hx]
theorem AH2{a:List UInt8} (h:Gq a): ∀y,y∈a→(!([58,47]:List UInt8).contains y)=true:=fun y hy=>by
  obtain⟨_,_,_,_,k5,k6,_⟩:=(Jf h).2 y hy
  simp[k5,k6]
theorem AU0{α:Type} (r:List UInt8) (hb:r.length≤1000000) (k:List UInt8×List UInt8×Bool→Option α):
    (Option.bind (strings_CutPrefix N r ([47,47]:List UInt8)) fun y24=>
     if y24.2=true then
      Option.bind (strings_IndexByte N y24.1 47) fun y26=>
      AO (fun j28:Int=>
       Option.bind (sub y24.1 0 j28) fun x32=>
       Option.bind (sub y24.1 j28 (y24.1.length:Int)) fun x33=>
       k (x33,x32,true)) fun k29=>
      if(decide (y26<0))=true then
       k29 (y24.1.length:Int)
      else
       k29 y26
     else
      k (r,[],false))=k (MX r):=by
  rw[AIR,Option.bind_some]
  unfold MX
  by_cases h:preB [47,47] r=true
  · rw [if_pos h,if_pos h]
    simp only[if_true,List.length_cons,List.length_nil]
    rw[show(47:Int)=AL 47 from rfl,Jd,Option.bind_some,JC,AJ]
    generalize hq:r.drop (0+1+1)=q
    have hql:q.length≤1000000:=by rw[←hq,List.length_drop];omega
    cases hc:q.contains 47
    · have hd:q.dropWhile (· !=(47:UInt8))=[]:=by
        have e:=List.takeWhile_append_dropWhile (p:=(· !=(47:UInt8))) (l:=q)
        rw[Nv q hc]at e
        simpa using e
      simp only[Bool.false_eq_true,if_false]
      rw[if_pos (by decide),show(0:Int)=((0:Nat):Int)from rfl,CV q 0 _ (Nat.zero_le _) (Nat.le_refl _),Option.bind_some,Bi (Nat.le_refl _),Option.bind_some,Nv q hc,hd]
      simp
    · have hlt:=JG hc
      simp only[if_true]
      rw[if_neg (by simp),show(0:Int)=((0:Nat):Int)from rfl,CV q 0 _ (Nat.zero_le _) (by omega),Option.bind_some,Bi (by omega),Option.bind_some,List.drop_zero,Nat.sub_zero,Ja,Mm]
  · rw[if_neg h,if_neg h];rfl
theorem AUZ{α:Type} (r:List UInt8) (hb:r.length≤1000000) (k:List UInt8×List UInt8×Bool→Option α):
    (Option.bind (EE N r ([47,47]:List UInt8)) fun y36=>
     if y36=true then
      Option.bind (sub r 2 (r.length:Int)) fun x38=>
      Option.bind (BX N x38 ([47]:List UInt8)) fun y39=>
      Option.bind (sub r 2 (wr .i64 (2+y39))) fun x41=>
      Option.bind (sub r (wr .i64 (2+y39)) (r.length:Int)) fun x42=>
      k (x42,x41,true)
     else
      k (r,[],false))=k (MX r):=by
  have hw:(fun x:UInt8=>!([47]:List UInt8).contains x)=(fun x=>x !=47):=by funext x;simp[bne];rfl
  rw[Oc,Option.bind_some]
  unfold MX
  by_cases h:preB [47,47] r=true
  · have hl:=KY h
    simp only[List.length_cons,List.length_nil]at hl
    have hle:=MG (· !=(47:UInt8)) (r.drop 2)
    rw[List.length_drop]at hle
    rw[if_pos h,if_pos h,show(2:Int)=((2:Nat):Int)from rfl,Bi (by omega),Option.bind_some,Ii _ [47] (by simp) (by rw[List.length_drop];omega),Option.bind_some,hw]
    have e:wr .i64 (((2:Nat):Int)+(((r.drop 2).takeWhile (fun x=>x !=47)).length:Int))=((2+((r.drop 2).takeWhile (fun x=>x !=47)).length:Nat):Int):=by rw[BH (by omega)];omega
    rw[e,CV r 2 _ (by omega) (by omega),Option.bind_some,Bi (by omega),Option.bind_some,show 2+((r.drop 2).takeWhile (fun x=>x !=47)).length-2=((r.drop 2).takeWhile (fun x=>x !=47)).length by omega,Ja,←List.drop_drop,Mm]
  · rw[if_neg h,if_neg h]
theorem AII{c:UInt8}{a b:List UInt8} (h: ∀x,x∈a→x≠c) (hc:(58:UInt8)≠c):Aa c (a++58::b)=(a++58::(Aa c b).1,(Aa c b).2):=by
  rw[show a++58::b=(a++[58])++b by simp,SS (a++[58]) b (by
    intro x hx
    simp only[List.mem_append,List.mem_cons,List.not_mem_nil,or_false]at hx
    rcases hx with hx|rfl
    · exact h x hx
    · exact hc)]
  simp
theorem AQv{a b:List UInt8} (h:Gq a) (hb:(a++58::b).length≤16384) (hN:20000≤N):MJ N (a++58::b)=some (L8 a b,0):=by
  obtain⟨h5,hl⟩:=Jf h
  simp only[List.length_append,List.length_cons]at hb
  have hc1:=FD 35 b
  have hc2:=FD 63 (Aa 35 b).1
  unfold MJ L8
  rw[if_neg (by simp only[List.length_append,List.length_cons,decide_eq_true_eq];omega),Ms 35 _ (by simp only[List.length_append,List.length_cons];omega),Option.bind_some,AII (c:=35) (fun x hx=>(hl x hx).2.2.1) (by decide),Ms 63 _ (by simp only[List.length_append,List.length_cons];omega),Option.bind_some,AII (c:=63) (fun x hx=>(hl x hx).2.2.2.1) (by decide)]
  dsimp only
  generalize (Aa 63 (Aa 35 b).1)=d at *
  obtain⟨r,q,hq⟩:=d
  dsimp only at *
  have hset:=AH2 h
  have htw:((a++58::r).takeWhile fun c=>!([58,47]:List UInt8).contains c)=a:=AG3 a hset (by decide)
  have hany:(a++58::r).any ([58,47]:List UInt8).contains=true:=by rw[List.any_append];simp
  refine(KX (a:=(r,a,true)) fun k=>?_).trans ?_
  · rw[Vq (by decide) (by decide) (by decide) (by
      intro _ c hc
      rw[htw]at hc
      exact(hl c hc).2.1) (by simp only[List.length_append,List.length_cons];omega) (by omega),Option.bind_some]
    unfold AR5
    rw[if_pos hany,htw]
    have hget:(a++58::r)[a.length]?=some 58:=by rw[List.getElem?_append_right (Nat.le_refl _),Nat.sub_self];rfl
    dsimp only[AJ]
    rw[if_pos (by simp),IR,hget,Option.bind_some,if_pos (by decide),show(0:Int)=((0:Nat):Int)from rfl,CV _ 0 _ (Nat.zero_le _) (by simp),Option.bind_some,List.drop_zero,Nat.sub_zero,List.take_left,AHm h,Option.bind_some,if_pos rfl,show wr .i64 ((a.length:Int)+1)=((a.length+1:Nat):Int) by rw[BH (by omega)];omega,Bi (by simp),Option.bind_some]
    rw[show(a++58::r).drop (a.length+1)=r by rw[←List.drop_drop,List.drop_left];rfl]
  · dsimp only
    refine(KX (a:=MX r) fun k=>AU0 r (by omega) k).trans ?_
    rfl
theorem ARZ{a b:List UInt8} (h:Gq a) (hb:(a++58::b).length≤16384) (hN:20000≤N):Jz N (a++58::b)=some (L8 a b,0):=by
  obtain⟨h5,hl⟩:=Jf h
  simp only[List.length_append,List.length_cons]at hb
  have hc1:=FD 35 b
  have hc2:=FD 63 (Aa 35 b).1
  unfold Jz L8
  rw[if_neg (by simp only[List.length_append,List.length_cons,decide_eq_true_eq];omega)]
  refine(KX (a:=Aa 35 (a++58::b)) fun k=>AUf 35 _ (by simp only[List.length_append,List.length_cons];omega) k).trans ?_
  rw[AII (c:=35) (fun x hx=>(hl x hx).2.2.1) (by decide)]
  dsimp only
  refine(KX (a:=Aa 63 (a++58::(Aa 35 b).1)) fun k=>AUf 63 _ (by simp only[List.length_append,List.length_cons];omega) k).trans ?_
  rw[AII (c:=63) (fun x hx=>(hl x hx).2.2.2.1) (by decide)]
  dsimp only
  generalize (Aa 63 (Aa 35 b).1)=d at *
  obtain⟨r,q,hq⟩:=d
  dsimp only at *
  have hset:=AH2 h
  have htw:((a++58::r).takeWhile fun c=>!([58,47]:List UInt8).contains c)=a:=AG3 a hset (by decide)
  refine(KX (a:=(r,a,true)) fun k=>?_).trans ?_
  · rw[Ii _ [58,47] (by decide) (by simp only[List.length_append,List.length_cons];omega),Option.bind_some,htw]
    have hget:(a++58::r)[a.length]?=some 58:=by rw[List.getElem?_append_right (Nat.le_refl _),Nat.sub_self];rfl
    dsimp only[AJ]
    rw[if_pos (by simp;omega),IR,hget,Option.bind_some,if_pos (by decide),show(0:Int)=((0:Nat):Int)from rfl,CV _ 0 _ (Nat.zero_le _) (by simp),Option.bind_some,List.drop_zero,Nat.sub_zero,List.take_left,AGA h,Option.bind_some,if_pos rfl,show wr .i64 ((a.length:Int)+1)=((a.length+1:Nat):Int) by rw[BH (by omega)];omega,Bi (by simp),Option.bind_some]
    rw[show(a++58::r).drop (a.length+1)=r by rw[←List.drop_drop,List.drop_left];rfl]
  · dsimp only
    refine(KX (a:=MX r) fun k=>AUZ r (by omega) k).trans ?_
    rfl
end
end Go.VM
namespace Go.VM
section
variable{N:Nat}
theorem Vf (k4:Unit→Option Bool): ∀ps:List (List UInt8),(∀p,p∈ps→p.length≤2^60)→DX N k4 ps=if(ps.all fun p=>(EC 255 p).2==0)=true then k4 ()else some false
  |[],_=>by rw[DX];rfl
  | p::ps,h=>by
    rw[DX,show(255:Int)=((255:Nat):Int)from rfl,Sw (by decide) p (h p (by simp)),Option.bind_some,Vf k4 ps fun q hq=>h q (by simp[hq]),List.all_cons]
    cases hx:((EC 255 p).2==0)<;>simp[bne,hx]
theorem AIN (l:List UInt8) (hb:l.length≤1000000):Io N l=some (UO l):=by
  have hl:=FV 46 l
  have hp:=Eo 46 l
  unfold Io
  rw[RS l 46 hb,Option.bind_some]
  dsimp only[AJ]
  rw[BL (by omega),Vf _ _ fun p h=>by have:=hp p h;omega]
  unfold UO
  have e:(((AU 46 l).length:Int) !=4)=!decide ((AU 46 l).length=4):=by
    by_cases h:(AU 46 l).length=4
    · rw[decide_eq_true h,h];rfl
    · rw[decide_eq_false h];simp;omega
  rw[e]
  cases decide ((AU 46 l).length=4)<;>cases ((AU 46 l).all fun p=>(EC 255 p).2==0)<;>simp
theorem TR (l:List UInt8) (hN:300≤N):Jk N l=some (FZ l):=by
  unfold Jk FZ
  by_cases h:l=[]
  · subst h;rfl
  rw[if_neg (by simpa using h),if_neg h]
  by_cases h2:l.length>253
  · rw[if_pos (by simp only[decide_eq_true_eq];omega),if_pos h2]
  rw[if_neg (by simp only[decide_eq_true_eq];omega),if_neg h2]
  dsimp only[AJ]
  rw[AIN l (by omega),Option.bind_some,ANA l (by omega) (by omega),Option.bind_some,lower_eq l (by omega),Option.bind_some]
  cases UO l<;>cases NS l<;>rfl
theorem AM8 (l:List UInt8) (hN:300≤N) (hb:l.length≤1000000):Jl N l=some (hpS l):=by
  have hle:=FD 58 l
  unfold Jl hpS
  rw[Ms 58 l (by omega),Option.bind_some,TR _ hN,Option.bind_some]
  dsimp only[AJ]
  rw[ANw _ (by omega),Option.bind_some]
  by_cases h:((FZ (Aa 58 l).1).2 !=0)=true
  · rw[if_pos h,if_pos h]
  · rw [if_neg h,if_neg h]
    cases (Aa 58 l).2.2
    · rfl
    · simp only[if_true]
      by_cases hp:((NK (Aa 58 l).2.1).2 !=0)=true
      · rw[if_pos hp,if_pos hp]
      · rw[if_neg hp,if_neg hp]
        split<;>rfl
def GI (p:Int):Prop:=0≤p∧p≤65535
theorem ANg (l:List UInt8):GI (NK l).1:=by
  have:=Nl 65535 l
  unfold NK GI;split<;>simp<;>omega
theorem Yf (l:List UInt8):GI (hpS l).1.port:=by
  have:=ANg (Aa 58 l).2.1
  unfold hpS GI at *
  split
  · simp
  split
  · split
    · simp
    · simp only;split<;>omega
  · simp
theorem MQ (l:List UInt8):(FZ l).1.length≤253:=by
  unfold FZ
  split
  · simp
  split
  · simp
  split
  · simp;omega
  · simp
theorem SH (l:List UInt8):(hpS l).1.host.length≤253:=by
  have:=MQ (Aa 58 l).1
  unfold hpS
  split
  · simp
  split
  · split<;>simp<;>omega
  · simpa using this
def hpF (h:List UInt8) (p:Int):List UInt8:=if p=0 then h else h++[58]++fmtS p.toNat
theorem Qa (h:List UInt8) (p:Int):(hpF h p).length≤h.length+21:=by
  have:=MU p.toNat
  unfold hpF;split<;>simp<;>omega
theorem AQ7 (h:List UInt8) (p:Int) (hp:GI p) (hb:h.length≤1000000) (hN:20≤N):KD N ⟨h,p⟩=some (hpF h p):=by
  have hl:=MU p.toNat
  obtain⟨h1,h2⟩:=hp
  unfold KD hpF
  by_cases h0:p=0
  · rw[if_pos (by simpa using h0),if_pos h0]
  · rw[if_neg (by simpa using h0),if_neg h0,if_neg (by simp;omega)]
    have e:wr .u64 p=((p.toNat:Nat):Int):=by rw[H8 (by omega)];omega
    simp only[e]
    rw[Tv p.toNat (by omega) hN,Option.bind_some,BL (by simp;omega),BL (by simp;omega)]
theorem APv (h:List UInt8) (p:Int) (hp:GI p) (hb:h.length≤1000000) (hN:20≤N):JJ N ⟨h,p⟩=some (hpF h p):=by
  have hl:=MU p.toNat
  obtain⟨h1,h2⟩:=hp
  unfold JJ FW hpF
  by_cases h0:p=0
  · rw[if_pos (by simpa using h0),if_pos h0]
  · rw[if_neg (by simpa using h0),if_neg h0]
    have e:wr .u64 p=((p.toNat:Nat):Int):=by rw[H8 (by omega)];omega
    simp only[e]
    rw[if_neg (by simp;omega),Sn p.toNat (by omega) hN,Option.bind_some,Option.bind_some,BL (by simp;omega),BL (by simp;omega)]
end
end Go.VM
namespace Go.VM
section
variable{N:Nat}
theorem ADt (c:UInt8) (l:List UInt8):strings_Contains N l [c]=some (l.contains c):=by
  unfold strings_Contains;rw[ZZ,Option.bind_some,G9]
theorem ATH{c:UInt8}{l:List UInt8} (hb:l.length≤1000000):decide ((((l.takeWhile fun x=>!([c]:List UInt8).contains x).length:Nat):Int)<(l.length:Int))=l.contains c:=by
  have hw:(fun x:UInt8=>!([c]:List UInt8).contains x)=(fun x=>x !=c):=by funext x;simp[bne];rfl
  rw[hw]
  cases h:l.contains c
  · rw[Nv l h];simp
  · have:=JG h;simp;omega
theorem Y8 (also:List UInt8): ∀(k:Nat) (t out:List UInt8),(Np also k t out).1.length≤out.length+t.length
  |0,t,out=>by simp[Np]
  |k+1,[],out=>by simp[Np]
  | k+1,c::t,out=>by
    rw[Np]
    split
    · cases h:IW t with
      |none=>simp
      | some x=>
        have h2:=OY h
        have:=Y8 also k (t.drop 2) (out++(if C8 x=true then [x]else IC x))
        simp only[List.length_append,List.length_drop,List.length_cons]at *
        have:(if C8 x=true then [x]else IC x).length≤3:=by split<;>simp[IC]
        omega
    · split
      · have:=Y8 also k t (out++[c])
        simp only[List.length_append,List.length_cons,List.length_nil]at *;omega
      · simp
theorem G6 (s also:List UInt8):(CR N s also).1.length≤s.length:=by
  unfold CR
  split
  · simp
  · have:=Y8 also N s [];simpa using this
def Nu (u:ApiURL):List UInt8:=if u.hasQuery=true then u.path++[63]++u.query else u.path
def KQ (u:ApiURL):List UInt8:=
  if u.hasFrag=true then([104,116,116,112,115,58,47,47]++hpF u.host u.port)++Nu u++([35]++u.fragment)else([104,116,116,112,115,58,47,47]++hpF u.host u.port)++Nu u
theorem AMs (u:ApiURL) (h:u.path.length≤1000000∧u.query.length≤1000000):II N u=some (Nu u):=by
  unfold II Nu
  cases u.hasQuery
  · rfl
  · rw[if_pos rfl,if_pos rfl,BL (by simp;omega),BL (by simp;omega)]
theorem AOk (u:ApiURL) (h:u.path.length≤1000000∧u.query.length≤1000000):JA N u=some (Nu u):=by
  unfold JA Nu
  cases u.hasQuery
  · rfl
  · rw[if_pos rfl,if_pos rfl,BL (by simp;omega),BL (by simp;omega)]
theorem Ti (u:ApiURL):(Nu u).length≤u.path.length+u.query.length+1:=by
  unfold Nu;split
  · simp only[List.length_append,List.length_cons,List.length_nil];omega
  · omega
def Ue (u:ApiURL):Prop:=GI u.port∧u.host.length≤1000000∧u.path.length≤1000000∧u.query.length≤1000000∧u.fragment.length≤1000000
theorem Qk (u:ApiURL) (h:Ue u) (hN:20≤N):Dc N u=some (KQ u):=by
  obtain⟨h1,h2,h3,h4,h5⟩:=h
  have hh:=Qa u.host u.port
  have ht:=Ti u
  unfold Dc Jq KQ
  rw[Option.bind_some,AQ7 _ _ h1 h2 hN,Option.bind_some,BL (by simp;omega),AMs u ⟨h3,h4⟩,Option.bind_some,BL (by simp;omega)]
  dsimp only[AJ]
  cases u.hasFrag
  · rfl
  · rw[if_pos rfl,if_pos rfl,BL (by simp;omega),BL (by simp;omega)]
theorem QV (u:ApiURL) (h:Ue u) (hN:20≤N):Df N u=some (KQ u):=by
  obtain⟨h1,h2,h3,h4,h5⟩:=h
  have hh:=Qa u.host u.port
  have ht:=Ti u
  unfold Df Kh KQ
  rw[Option.bind_some,APv _ _ h1 h2 hN,Option.bind_some,BL (by simp;omega),AOk u ⟨h3,h4⟩,Option.bind_some,BL (by simp;omega)]
  dsimp only[AJ]
  cases u.hasFrag
  · rfl
  · rw[if_pos rfl,if_pos rfl,BL (by simp;omega),BL (by simp;omega)]
theorem AMh (r:List UInt8):(MX r).1.length≤r.length∧(MX r).2.1.length≤r.length:=by
  unfold MX
  split
  · have h1:=(List.dropWhile_sublist (fun x:UInt8=>x !=47) (l:=r.drop 2)).length_le
    have h2:=MG (· !=(47:UInt8)) (r.drop 2)
    rw[List.length_drop]at h1 h2
    exact⟨by dsimp only;omega,by dsimp only;omega⟩
  · simp
theorem Yl (a b:List UInt8):(L8 a b).authority.length≤b.length∧(L8 a b).path.length≤b.length∧(L8 a b).query.length≤b.length∧(L8 a b).fragment.length≤b.length:=by
  have h1:=FD 35 b
  have h2:=FD 63 (Aa 35 b).1
  have h3:=AMh (Aa 63 (Aa 35 b).1).1
  unfold L8
  dsimp only
  omega
def inP:List UInt8:=[33,36,38,39,40,41,42,43,44,59,61,58,64,47]
def inQ:List UInt8:=[33,36,38,39,40,41,42,43,44,59,61,58,64,47,63]
def LB:ApiURL:=⟨[],0,[],[],[],false,false⟩
def Lb (N:Nat) (p:List UInt8):List UInt8:=if IJ N p []=[]then [47]else IJ N p []
def AAI (N:Nat) (U:ApiURI):ApiURL×Int:=
  if U.hasAuthority=false then(LB,71)
  else if U.authority.contains 64=true then(LB,70)
  else if((hpS U.authority).2 !=0)=true then(LB,(hpS U.authority).2)
  else if((CR N U.path inP).2 !=0)=true then(LB,(CR N U.path inP).2)
  else if((CR N U.query inQ).2 !=0)=true then(LB,(CR N U.query inQ).2)
  else if((CR N U.fragment inQ).2 !=0)=true then(LB,(CR N U.fragment inQ).2)
  else if(KQ ⟨(hpS U.authority).1.host,(hpS U.authority).1.port,Lb N (CR N U.path inP).1,(CR N U.query inQ).1,(CR N U.fragment inQ).1,U.hasQuery,U.hasFrag⟩).length>4096 then(LB,5)
  else(⟨(hpS U.authority).1.host,(hpS U.authority).1.port,Lb N (CR N U.path inP).1,(CR N U.query inQ).1,(CR N U.fragment inQ).1,U.hasQuery,U.hasFrag⟩,0)
def Oq (N:Nat) (a b:List UInt8):ApiURL×Int:=if(a++58::b).length>4096 then(LB,5)else AAI N (L8 a b)
theorem UH (p:List UInt8):(Lb N p).length≤p.length+1:=by
  have:=KW N p []
  simp only[List.length_nil]at this
  unfold Lb;split
  · simp
  · omega
theorem AEg{a:List UInt8} (h:Gq a):(a.map Dn==List.map Dn [104,116,116,112,115])=true:=by
  rw[h];decide
theorem AH6 {a b:List UInt8} (h:Gq a) (hb:(a++58::b).length≤1000000) (hN:20000≤N):HY N (a++58::b)=some (Oq N a b):=by
  obtain⟨h5,_⟩:=Jf h
  unfold HY Oq
  by_cases hl:(a++58::b).length>4096
  · rw[if_pos (by simp only[decide_eq_true_eq];omega),if_pos hl];rfl
  rw[if_neg (by simp only[decide_eq_true_eq];omega),if_neg hl,AQv h (by omega) hN,Option.bind_some]
  have hbl:b.length≤4096:=by simp only[List.length_append,List.length_cons]at hl;omega
  obtain⟨l1,l2,l3,l4⟩:=Yl a b
  have hS:(L8 a b).hasScheme=true:=rfl
  have hsc:(L8 a b).scheme=a:=rfl
  dsimp only[AJ]
  rw[if_neg (by decide),hS,if_pos rfl,hsc,RY a _ (by omega) (by decide),Option.bind_some,AEg h,if_neg (by decide)]
  generalize L8 a b=U at *
  unfold AAI
  cases hA:U.hasAuthority
  · rfl
  rw[if_pos rfl,if_neg (by decide)]
  rw[ADt,Option.bind_some]
  cases hat:U.authority.contains 64
  rotate_left
  · rfl
  rw[if_neg (by decide),if_neg (by decide),AM8 _ (by omega) (by omega),Option.bind_some]
  have q1:=Yf U.authority
  have q2:=SH U.authority
  generalize hpS U.authority=H at *
  by_cases e1:(H.2 !=0)=true
  · rw[if_pos e1,if_pos e1];rfl
  rw[if_neg e1,if_neg e1]
  have n1:=G6 (N:=N) U.path inP
  have n2:=G6 (N:=N) U.query inQ
  have n3:=G6 (N:=N) U.fragment inQ
  rw[IE U.path _ hN,Option.bind_some]
  change (if((CR N U.path inP).2 !=0)=true then _ else _)=_
  by_cases e2:((CR N U.path inP).2 !=0)=true
  · rw[if_pos e2,if_pos e2];rfl
  rw[if_neg e2,if_neg e2,IE U.query _ hN,Option.bind_some]
  change (if((CR N U.query inQ).2 !=0)=true then _ else _)=_
  by_cases e3:((CR N U.query inQ).2 !=0)=true
  · rw[if_pos e3,if_pos e3];rfl
  rw[if_neg e3,if_neg e3,IE U.fragment _ hN,Option.bind_some]
  change (if((CR N U.fragment inQ).2 !=0)=true then _ else _)=_
  by_cases e4:((CR N U.fragment inQ).2 !=0)=true
  · rw[if_pos e4,if_pos e4];rfl
  rw[if_neg e4,if_neg e4]
  change Option.bind (Fe N (CR N U.path inP).1) _=_
  rw[AQK _ hN (by omega),Option.bind_some]
  have pl:=UH (N:=N) (CR N U.path inP).1
  have hp:Lb N (CR N U.path inP).1=if(IJ N (CR N U.path inP).1 []==[])=true then [47]else IJ N (CR N U.path inP).1 []:=by
    unfold Lb;split<;>simp_all
  have fin: ∀P:List UInt8,P=Lb N (CR N U.path inP).1→(Option.bind (Dc N (ApiURL.mk H.1.host H.1.port P (CR N U.query inQ).1 (CR N U.fragment inQ).1 U.hasQuery U.hasFrag)) fun y25=>
            if(decide ((y25.length:Int)>4096))=true then
             (some ((ApiURL.mk [] 0 [] [] [] false false),5):Option (ApiURL×Int))
            else
             some ((ApiURL.mk H.1.host H.1.port P (CR N U.query inQ).1 (CR N U.fragment inQ).1 U.hasQuery U.hasFrag),0))=some (if(KQ ⟨H.1.host,H.1.port,Lb N (CR N U.path inP).1,(CR N U.query inQ).1,(CR N U.fragment inQ).1,U.hasQuery,U.hasFrag⟩).length>4096 then(LB,5)
  else(⟨H.1.host,H.1.port,Lb N (CR N U.path inP).1,(CR N U.query inQ).1,(CR N U.fragment inQ).1,U.hasQuery,U.hasFrag⟩,0)):=by
    intro P hP
    subst hP
    rw[Qk _ ⟨q1,by dsimp only;omega,by dsimp only;omega,by dsimp only;omega,by dsimp only;omega⟩ (by omega),Option.bind_some]
    split
    · rename_i hx;rw[if_pos (by simp only[decide_eq_true_eq]at hx;omega)];rfl
    · rename_i hx;rw[if_neg (by simp only[decide_eq_true_eq]at hx;omega)]
  by_cases e5:(IJ N (CR N U.path inP).1 []==[])=true
  · rw[if_pos e5]at hp⊢
    exact fin _ hp.symm
  · rw[if_neg e5]at hp⊢
    exact fin _ hp.symm
theorem AIP {a b:List UInt8} (h:Gq a) (hb:(a++58::b).length≤1000000) (hN:20000≤N):Ic N (a++58::b)=some (Oq N a b):=by
  obtain⟨h5,_⟩:=Jf h
  unfold Ic Oq
  by_cases hl:(a++58::b).length>4096
  · rw[if_pos (by simp only[decide_eq_true_eq];omega),if_pos hl];rfl
  rw[if_neg (by simp only[decide_eq_true_eq];omega),if_neg hl,ARZ h (by omega) hN,Option.bind_some]
  have hbl:b.length≤4096:=by simp only[List.length_append,List.length_cons]at hl;omega
  obtain⟨l1,l2,l3,l4⟩:=Yl a b
  have hS:(L8 a b).hasScheme=true:=rfl
  have hsc:(L8 a b).scheme=a:=rfl
  dsimp only[AJ]
  rw[if_neg (by decide),hS,if_pos rfl,hsc,RQ a _ (by omega) (by decide),Option.bind_some,AEg h,if_neg (by decide)]
  generalize L8 a b=U at *
  unfold AAI
  cases hA:U.hasAuthority
  · rfl
  rw[if_pos rfl,if_neg (by decide)]
  rw[Ii _ [64] (by decide) (by omega),Option.bind_some,ATH (by omega)]
  cases hat:U.authority.contains 64
  rotate_left
  · rfl
  rw[if_neg (by decide),if_neg (by decide),AOj _ (by omega),Option.bind_some]
  have q1:=Yf U.authority
  have q2:=SH U.authority
  generalize hpS U.authority=H at *
  by_cases e1:(H.2 !=0)=true
  · rw[if_pos e1,if_pos e1];rfl
  rw[if_neg e1,if_neg e1]
  have n1:=G6 (N:=N) U.path inP
  have n2:=G6 (N:=N) U.query inQ
  have n3:=G6 (N:=N) U.fragment inQ
  rw[Jw U.path _ hN (by decide),Option.bind_some]
  change (if((CR N U.path inP).2 !=0)=true then _ else _)=_
  by_cases e2:((CR N U.path inP).2 !=0)=true
  · rw[if_pos e2,if_pos e2];rfl
  rw[if_neg e2,if_neg e2,Jw U.query _ hN (by decide),Option.bind_some]
  change (if((CR N U.query inQ).2 !=0)=true then _ else _)=_
  by_cases e3:((CR N U.query inQ).2 !=0)=true
  · rw[if_pos e3,if_pos e3];rfl
  rw[if_neg e3,if_neg e3,Jw U.fragment _ hN (by decide),Option.bind_some]
  change (if((CR N U.fragment inQ).2 !=0)=true then _ else _)=_
  by_cases e4:((CR N U.fragment inQ).2 !=0)=true
  · rw[if_pos e4,if_pos e4];rfl
  rw[if_neg e4,if_neg e4]
  change Option.bind (Ey N (CR N U.path inP).1) _=_
  rw[AQ1 _ hN (by omega),Option.bind_some]
  have pl:=UH (N:=N) (CR N U.path inP).1
  have hp:Lb N (CR N U.path inP).1=if(IJ N (CR N U.path inP).1 []==[])=true then [47]else IJ N (CR N U.path inP).1 []:=by
    unfold Lb;split<;>simp_all
  have fin: ∀P:List UInt8,P=Lb N (CR N U.path inP).1→(Option.bind (Df N (ApiURL.mk H.1.host H.1.port P (CR N U.query inQ).1 (CR N U.fragment inQ).1 U.hasQuery U.hasFrag)) fun y25=>
            if(decide ((y25.length:Int)>4096))=true then
             (some ((ApiURL.mk [] 0 [] [] [] false false),5):Option (ApiURL×Int))
            else
             some ((ApiURL.mk H.1.host H.1.port P (CR N U.query inQ).1 (CR N U.fragment inQ).1 U.hasQuery U.hasFrag),0))=some (if(KQ ⟨H.1.host,H.1.port,Lb N (CR N U.path inP).1,(CR N U.query inQ).1,(CR N U.fragment inQ).1,U.hasQuery,U.hasFrag⟩).length>4096 then(LB,5)
  else(⟨H.1.host,H.1.port,Lb N (CR N U.path inP).1,(CR N U.query inQ).1,(CR N U.fragment inQ).1,U.hasQuery,U.hasFrag⟩,0)):=by
    intro P hP
    subst hP
    rw[QV _ ⟨q1,by dsimp only;omega,by dsimp only;omega,by dsimp only;omega,by dsimp only;omega⟩ (by omega),Option.bind_some]
    split
    · rename_i hx;rw[if_pos (by simp only[decide_eq_true_eq]at hx;omega)];rfl
    · rename_i hx;rw[if_neg (by simp only[decide_eq_true_eq]at hx;omega)]
  by_cases e5:(IJ N (CR N U.path inP).1 []==[])=true
  · rw[if_pos e5]at hp⊢
    exact fin _ hp.symm
  · rw[if_neg e5]at hp⊢
    exact fin _ hp.symm
end
end Go.VM
namespace Go.VM
section
variable{N:Nat}
theorem ARt (c:UInt8) (l:List UInt8) (hb:l.length≤1000000):BX N l [c]=some (((l.takeWhile (· !=c)).length:Nat):Int):=by
  have hw:(fun x:UInt8=>!([c]:List UInt8).contains x)=(fun x=>x !=c):=by funext x;simp[bne];rfl
  rw[Ii l [c] (by simp) (by omega),hw]
theorem QI{c:UInt8}{l:List UInt8}:((((l.takeWhile (· !=c)).length:Nat):Int)==(l.length:Int))=!l.contains c:=by
  cases h:l.contains c
  · rw[Nv l h];simp
  · have:=JG h;simp;omega
theorem Px{c:UInt8}{l:List UInt8} (h:l.contains c=true) (hb:l.length≤1000000):
    sub l 0 (((l.takeWhile (· !=c)).length:Nat):Int)=some (Aa c l).1∧sub l (wr .i64 ((((l.takeWhile (· !=c)).length:Nat):Int)+1)) (l.length:Int)=some (Aa c l).2.1:=by
  have hlt:=JG h
  obtain⟨s1,s2⟩:=ABb h hb
  rw[JC,if_pos h]at s1 s2
  have w0:wr .i64 (((l.takeWhile (· !=c)).length:Int)+0)=((l.takeWhile (· !=c)).length:Int):=by rw[BH (by omega)];omega
  rw[w0]at s1
  exact⟨s1,s2⟩
theorem Oh{c:UInt8}{l:List UInt8}:(Aa c l).2.2=l.contains c:=by
  cases h:l.contains c
  · rw[Mk h]
  · rw[EN h]
def inA:List UInt8:=[33,36,38,39,40,41,42,43,44,59,61]
def AIZ (N:Nat) (u h:List UInt8):ApiAcct×Int:=
  if((CR N u inA).2 !=0||((CR N u inA).1==[]||(CR N u inA).1.head?==some 37))=true then(⟨[],[]⟩,80)
  else if((FZ h).2 !=0)=true then(⟨[],[]⟩,(FZ h).2)else(⟨(CR N u inA).1,(FZ h).1⟩,0)
def N9 (N:Nat) (s:List UInt8):ApiAcct×Int:=
  if s.length>4096 then(⟨[],[]⟩,5)
  else if s.length<5 then(⟨[],[]⟩,60)
  else if((s.take 5).map Dn==List.map Dn [97,99,99,116,58])=false then(⟨[],[]⟩,60)
  else if(Aa 64 (s.drop 5)).2.2=false then(⟨[],[]⟩,6)
  else AIZ N (Aa 64 (s.drop 5)).1 (Aa 64 (s.drop 5)).2.1
theorem AH3{α:Type} (l:List UInt8) (e:Bool) (A B:Option α):(if e=true then A else if(l==[])=true then A else Option.bind (idx l 0) fun x9=>if((AL x9)==37)=true then A else B)=if(e||(l==[]||l.head?==some 37))=true then A else B:=by
  cases e
  · cases l with
    |nil=>rfl
    | cons c t=>
      rw[if_neg (by decide),if_neg (by simp),show idx (c::t) 0=some c from rfl,Option.bind_some,Lv]
      by_cases hc:c=37
      · subst hc;rfl
      · rw[decide_eq_false hc];simp[hc]
  · rfl
theorem AL8 (s:List UInt8) (hb:s.length≤1000000) (hN:20000≤N):K9 N s=some (N9 N s):=by
  unfold K9 Ps N9
  by_cases h1:s.length>4096
  · rw[if_pos (by simp;omega),if_pos h1,Option.bind_some];rfl
  rw[if_neg (by simp;omega),if_neg h1]
  dsimp only[AJ]
  by_cases h2:s.length<5
  · rw[if_pos (by simp;omega),if_pos h2,if_pos rfl,Option.bind_some];rfl
  have hl:=FD 64 (s.drop 5)
  rw[List.length_drop]at hl
  rw[if_neg (by simp;omega),if_neg h2,show(0:Int)=((0:Nat):Int)from rfl,show(5:Int)=((5:Nat):Int)from rfl,CV s 0 5 (by omega) (by omega),Option.bind_some,List.drop_zero,Nat.sub_zero,RY _ _ (by rw[List.length_take];omega) (by decide),Option.bind_some,Bi (by omega),Option.bind_some,Ms 64 _ (by rw[List.length_drop];omega),Option.bind_some]
  cases (List.map Dn (s.take 5)==List.map Dn [97,99,99,116,58])
  · simp only[Bool.not_false,if_true,Option.bind_some];rfl
  simp only[Bool.not_true,Bool.false_eq_true,if_false]
  cases hc:(Aa 64 (s.drop 5)).2.2
  · simp only[Bool.false_eq_true,if_false,if_true,Option.bind_some];rfl
  simp only[if_true,Option.bind_some]
  rw[if_neg (by decide),if_neg (by decide),IE _ _ hN,Option.bind_some,TR _ (by omega),Option.bind_some]
  change (if((CR N (Aa 64 (s.drop 5)).1 inA).2 !=0)=true then _ else if((CR N (Aa 64 (s.drop 5)).1 inA).1==[])=true then _ else Option.bind (idx (CR N (Aa 64 (s.drop 5)).1 inA).1 0) _)=_
  try rw[if_neg (by decide: ¬(true=false))]
  unfold AIZ
  refine(AH3 _ _ _ _).trans ?_
  split
  · rfl
  · by_cases hh:((FZ (Aa 64 (s.drop 5)).2.1).2 !=0)=true
    · exact(if_pos hh).trans (congrArg some (if_pos hh).symm)
    · exact(if_neg hh).trans (congrArg some (if_neg hh).symm)
theorem AMZ (s:List UInt8) (hb:s.length≤1000000) (hN:20000≤N):J4 N s=some (N9 N s):=by
  unfold J4 N9
  by_cases h1:s.length>4096
  · rw[if_pos (by simp;omega),if_pos h1]
  rw[if_neg (by simp;omega),if_neg h1]
  dsimp only[AJ]
  by_cases h2:s.length<5
  · rw[if_pos (by simp;omega),if_pos h2,if_pos rfl]
  have hl:=FD 64 (s.drop 5)
  rw[List.length_drop]at hl
  rw[if_neg (by simp;omega),if_neg h2,show(0:Int)=((0:Nat):Int)from rfl,show(5:Int)=((5:Nat):Int)from rfl,CV s 0 5 (by omega) (by omega),Option.bind_some,List.drop_zero,Nat.sub_zero,RQ _ _ (by rw[List.length_take];omega) (by decide),Option.bind_some,Bi (by omega),Option.bind_some,ARt 64 _ (by rw[List.length_drop];omega),Option.bind_some,QI,Oh]
  cases (List.map Dn (s.take 5)==List.map Dn [97,99,99,116,58])
  · simp only[Bool.not_false,if_true]
  simp only[Bool.not_true,Bool.false_eq_true,if_false]
  rw[if_neg (by decide: ¬(true=false))]
  cases hc:(s.drop 5).contains 64
  · simp only[Bool.not_false,if_true]
  obtain⟨s1,s2⟩:=Px hc (by rw[List.length_drop];omega)
  simp only[Bool.not_true,Bool.false_eq_true,if_false]
  rw[show((0:Nat):Int)=0 from rfl,s1,Option.bind_some,Jw _ _ hN (by decide),Option.bind_some,s2,Option.bind_some,UF,Option.bind_some]
  change (if((CR N (Aa 64 (s.drop 5)).1 inA).2 !=0)=true then _ else if((CR N (Aa 64 (s.drop 5)).1 inA).1==[])=true then _ else Option.bind (idx (CR N (Aa 64 (s.drop 5)).1 inA).1 0) _)=_
  unfold AIZ
  refine(AH3 _ _ _ _).trans ?_
  split
  · rfl
  · by_cases hh:((FZ (Aa 64 (s.drop 5)).2.1).2 !=0)=true
    · exact(if_pos hh).trans (congrArg some (if_pos hh).symm)
    · exact(if_neg hh).trans (congrArg some (if_neg hh).symm)
def Vi (a:ApiAcct):List UInt8:=(([97,99,99,116,58]++a.user)++[64])++a.host
theorem AKg (a:ApiAcct) (h:a.user.length≤1000000∧a.host.length≤1000000):KA N a=some (Vi a):=by
  unfold KA Vi
  rw[BL (by simp;omega),BL (by simp;omega),BL (by simp;omega)]
theorem ALZ (a:ApiAcct) (h:a.user.length≤1000000∧a.host.length≤1000000):JK N a=some (Vi a):=by
  unfold JK Vi
  rw[BL (by simp;omega),BL (by simp;omega),BL (by simp;omega)]
theorem Q9 (s:List UInt8):(N9 N s).1.user.length≤4096∧(N9 N s).1.host.length≤253:=by
  have hh:=MQ (Aa 64 (s.drop 5)).2.1
  have hn:=G6 (N:=N) (Aa 64 (s.drop 5)).1 inA
  have hl:=FD 64 (s.drop 5)
  rw[List.length_drop]at hl
  unfold N9 AIZ
  split
  · simp
  split
  · simp
  split
  · simp
  split
  · simp
  split
  · simp
  split
  · simp
  · dsimp only;omega
end
end Go.VM
