import Derived.Calls
import Derived.Orders
import Derived.Tactics
import Derived.Deep.LoopGhost
import Derived.RowKit3
import Derived.StringKeys
import Derived.Laws.Strings
import Derived.Laws.Strings2
import Derived.Laws.StructEq
import Derived.Laws.Slices
import Derived.Laws.Tables
import Derived.Laws.Panics
import Derived.LaidEqlPtr
import Derived.Lib.Builder
import Derived.Laws.IdiomCopy
import Derived.Laws.Small
import Derived.Laws.BytesArg
import Derived.Laws.Runes
import Derived.Laws.Cover4
import Derived.Laws.Cells
import Derived.Laws.Append
import Derived.Laws.AppendOwn
set_option linter.defProp false
set_option linter.unusedSimpArgs false
set_option linter.unusedVariables false
namespace Go.VM
abbrev B8:=List UInt8
def fx{G:Prop}(h:G:=by omega):G:=h
def fy{G:Prop}(h:G:=by simp):G:=h
def fA{G:Prop}(h:G:=by decide):G:=h
def fB{G:Prop}(h:G:=by simp;omega):G:=h
abbrev aa:=@Option.bind_some
abbrev ac:=@And.intro
abbrev ae:=@Option.some.injEq
abbrev ag:=@List.length_cons
abbrev ah:=@List.length_append
abbrev aj:=@Bool.false_eq_true
abbrev an:=@if_neg
abbrev ap:=@List.length_nil
abbrev aq:=@if_pos
abbrev au:=@Nat.le_refl
abbrev av:=@Bool.and_eq_true
abbrev aw:=@decide_eq_true_eq
abbrev az:=@Prod.mk.injEq
abbrev aA:=@if_false
abbrev aB:=@Go.Result.andThen_ok
abbrev aC:=@Array.length_toList
abbrev aD:=@if_true
abbrev aE:=@Go.run_underlying
abbrev aF:=@List.map_cons
abbrev aG:=@decide_eq_true
abbrev aH:=@Array.getElem?_eq_some_iff
abbrev aI:=@Go.Sem.run_bind
abbrev aJ:=@Nat.zero_le
abbrev aK:=@Option.map_some
abbrev aL:=@List.drop_zero
abbrev aM:=@List.append_assoc
abbrev aN:=@List.length_drop
abbrev aO:=@decide_eq_false
abbrev aP:=@List.mem_cons
abbrev aQ:=@List.getElem?_eq_getElem
abbrev aR:=@List.mem_cons_of_mem
abbrev aS:=@Nat.lt_or_ge
abbrev aU:=@List.all_eq_true
abbrev aV:=@List.mem_singleton
abbrev aX:=@List.mem_append
abbrev aY:=@List.drop_drop
abbrev aZ:=@List.take_of_length_le
abbrev ba:=@List.length_take
abbrev bb:=@List.takeWhile_cons
abbrev bc:=@beq_iff_eq
abbrev be:=@List.length_singleton
abbrev bf:=@Go.Sem.run_pure
abbrev bg:=@Bool.false_or
abbrev bh:=@List.eq_nil_of_length_eq_zero
abbrev bk:=@List.nil_append
abbrev bl:=@List.all_cons
abbrev bm:=@List.cons_append
abbrev bo:=@Nat.sub_zero
abbrev br:=@Int.le_refl
abbrev bu:=@congrArg
abbrev bv:=@Int.tdiv_eq_ediv_of_nonneg
abbrev bw:=@beq_eq_false_iff_ne
abbrev bz:=@List.append_nil
abbrev bA:=@List.takeWhile_append_dropWhile
abbrev bB:=@Nat.succ_mul
abbrev bC:=@List.contains_cons
abbrev bD:=@List.mem_map
abbrev bE:=@Bool.not_false
abbrev bF:=@Int.toNat_natCast
abbrev bG:=@Nat.le_trans
abbrev bH:=@List.take_append_drop
abbrev bI:=@List.drop_of_length_le
abbrev bJ:=@Nat.zero_add
abbrev bK:=@Nat.mul_le_mul_right
abbrev bL:=@Bool.not_true
abbrev bM:=@List.drop_eq_getElem_cons
abbrev bP:=@Go.MapKept.run_getObj_map
abbrev bQ:=@Option.map_eq_some_iff
abbrev bR:=@Option.map_none
abbrev bS:=@Option.bind_eq_some_iff
abbrev bT:=@List.Sublist.refl
abbrev bU:=@List.getElem?_drop
abbrev bV:=@Nat.add_zero
abbrev bW:=@List.nodup_cons
abbrev bX:=@List.length_set
abbrev bY:=@List.dropWhile_sublist
abbrev bZ:=@List.dropWhile_cons
abbrev b9:=@List.ext_getElem?
abbrev ca:=@List.set_cons_zero
abbrev cb:=@Option.isSome_some
abbrev cc:=@Option.getD_none
abbrev cd:=@List.getLast?_singleton
abbrev ce:=@UInt8.ofNat_toNat
abbrev cf:=@List.flatMap_cons
abbrev ci:=@List.size_toArray
abbrev cj:=@List.take_succ_cons
abbrev ck:=@List.length_map
abbrev cm:=@Nat.not_lt_zero
abbrev cn:=@List.length_replicate
abbrev co:=@List.drop_append
abbrev cp:=@List.map_nil
abbrev cq:=@List.sum_cons
abbrev cr:=@Option.isSome_iff_exists
abbrev cu:=@Nat.add_mul
abbrev cv:=@List.Perm.swap
abbrev cw:=@List.getLast?_append
abbrev cx:=@List.getElem?_cons_zero
abbrev cy:=@List.Sublist.cons
abbrev cA:=@Option.some.inj
abbrev cB:=@List.map_append
abbrev cC:=@and_true
abbrev cD:=@Bool.true_and
abbrev cE:=@Nat.add_assoc
abbrev cF:=@List.set_cons_succ
abbrev cG:=@List.Perm.cons
abbrev cH:=@Array.getElem?_eq_getElem
abbrev cI:=@Go.MapKept.run_setObj_map
abbrev cJ:=@List.sublist_append_right
abbrev cK:=@Bool.or_eq_true
abbrev cL:=@List.mem_of_mem_drop
abbrev cM:=@not_true_eq_false
abbrev cN:=@List.getElem?_set_ne
abbrev cO:=@List.dropLast_concat
abbrev cP:=@List.any_cons
abbrev cQ:=@List.set_comm
abbrev cR:=@List.eq_of_mem_replicate
abbrev cS:=@List.getD_cons_succ
abbrev cT:=@List.take_length
abbrev cU:=@List.range'_succ
abbrev cV:=@Go.mem_ready
abbrev cW:=@Go.MapKept.run_checkKey
abbrev cX:=@List.Perm.refl
abbrev cY:=@List.getLast?_eq_some_getLast
abbrev cZ:=@List.drop_append_of_le_length
abbrev c7:=@Bool.true_or
abbrev c8:=@List.getElem?_take
abbrev c9:=@Option.isNone_none
abbrev da:=@Go.MapKept.run_findKey
abbrev db:=@List.cons.injEq
abbrev dc:=@Bool.and_self
abbrev de:=@List.set_append_right
abbrev df:=@List.mem_append_right
abbrev dg:=@List.getElem?_toArray
abbrev dh:=@List.getElem?_set
abbrev di:=@List.mem_of_mem_take
abbrev dj:=@List.mem_range
abbrev dk:=@List.isPrefixOf_iff_prefix
abbrev dl:=@List.mem_append_left
abbrev dm:=@Option.or_some
abbrev dn:=@Option.some_or
abbrev dp:=@Nat.mod_eq_of_lt
abbrev dq:=@Nat.sub_self
abbrev dr:=@List.filter_cons
abbrev dt:=@beq_self_eq_true
abbrev du:=@Option.getD_some
abbrev dv:=@Go.World.size_alloc
abbrev dw:=@List.perm_middle
abbrev dx:=@List.getElem?_eq_some_iff
abbrev dy:=@List.length_pos_iff
abbrev dz:=@List.replicate_succ
abbrev dA:=@List.getD_cons_zero
abbrev dB:=@Go.run_firstCells_some
abbrev dC:=@UInt8.toNat_inj
abbrev dD:=@Ne.symm
abbrev dE:=@List.mem_cons_self
abbrev dF:=@Option.isSome_none
abbrev dG:=@Go.run_loadCells_list
abbrev dH:=@List.map_replicate
abbrev dI:=@Nat.eq_zero_or_pos
abbrev dJ:=@List.length_eq_zero_iff
abbrev dK:=@of_decide_eq_true
abbrev dL:=@true_and
abbrev dM:=@List.take_zero
abbrev dN:=@Go.Value.slice.injEq
abbrev dO:=@Go.run_convert_bytes_arg
abbrev dP:=@Array.getElem?_modify
abbrev dQ:=@List.not_mem_nil
abbrev dR:=@List.isEmpty_iff
abbrev dS:=@Array.size_range
abbrev dT:=@Nat.le_of_not_lt
abbrev dU:=@Bool.and_true
abbrev dV:=@Bool.or_false
abbrev dW:=@Go.grownCap_ge
abbrev dX:=@List.range_eq_range'
abbrev dY:=@Go.MapKept.bytes_beq
abbrev dZ:=@Array.replicate_succ
abbrev d6:=@Array.replicate_zero
abbrev d7:=@List.dropLast_concat_getLast
abbrev d8:=@Option.some_get
abbrev d9:=@Array.toList_zipIdx
abbrev eb:=@List.mem_map_of_mem
abbrev ed:=@List.append_toArray
abbrev ef:=@List.map_eq_nil_iff
abbrev ek:=@decide_false
abbrev eo:=@Nat.add_comm
abbrev eu:=@Nat.zero_mul
abbrev ev:=@Int.tmod_eq_emod_of_nonneg
abbrev ew:=@List.drop_left
abbrev ez:=@UInt8.toNat_ofNat'
abbrev eA:=@List.take_left
abbrev eB:=@Int.toNat_zero
abbrev eC:=@List.getElem?_append_right
abbrev eD:=@Go.growslice_fits
abbrev eF:=@Array.size_map
abbrev eG:=@Array.foldl_toList
abbrev eH:=@Bool.true_eq_false
abbrev eI:=@Go.run_findKey_eq
abbrev eJ:=@List.getLast?_eq_getElem?
abbrev eK:=@List.mem_of_find?_eq_some
abbrev eL:=@List.mem_or_eq_of_mem_set
abbrev eM:=@List.getElem?_append_left
abbrev eN:=@ne_eq
abbrev eO:=@List.contains_nil
abbrev eP:=@Array.size_append
abbrev eQ:=@List.push_toArray
abbrev eR:=@List.append_cancel_right
abbrev eS:=@List.prefix_iff_eq_take
abbrev eT:=@or_false
abbrev eU:=@Bool.not_eq_true
abbrev eV:=@Nat.add_sub_cancel_left
abbrev eW:=@Nat.add_left_cancel_iff
abbrev eX:=@List.getElem?_cons_succ
abbrev eY:=@Array.toList_inj
abbrev eZ:=@bne_iff_ne
abbrev e8:=@List.all_nil
abbrev fa:=@List.head?_eq_getElem?
abbrev fb:=@Go.wp_mono
abbrev fc:=@Nat.min_eq_left
abbrev fd:=@Nat.add_eq_left
abbrev fe:=@List.drop_left'
abbrev ff:=@List.singleton_append
abbrev fg:=@List.getElem?_eq_none
abbrev fh:=@Array.getElem?_toList
abbrev fi:=@List.eq_nil_or_concat
abbrev fj:=@Nat.mul_le_mul
abbrev fk:=@List.take_take
abbrev fm:=@Option.map_map
abbrev fo:=@Go.strOfNums_data
abbrev fp:=@Nat.le_succ
abbrev fq:=@Go.getD_set_ne
abbrev fr:=@Nat.mul_one
abbrev ft:=@List.map_take
abbrev fu:=@Bool.or_true
abbrev fw:=@List.set_set
def slr{α:Type}{l:List α}:List.Sublist l l:=bT l
def Bg:Nat:=4611686018427387904
inductive AVal where|any|bool (b:Bool)|int (k:IntKind) (n:Int)|str (s:B8)|agg (cs:List AVal)|tuple (vs:List AVal)|slice (w:Nat) (xs:List AVal) (own:Bool)|ptr (i off:Nat)|nilp|cptr (cs:List AVal)|fn (f:Fn) (fst cap:List AVal)|nilFn|iface (t:TypeId) (v:AVal)|nilIface|iter (s:B8) (pos:Nat)|bsl (w i off len:Nat)|nself (i:Nat) (T:TypeId) (n:Nat)|buf (e:TypeId) (l:B8) (own:Bool)|bufp (e:TypeId) (l:B8) (own:Bool)|map (ks:List B8) (vs:List AVal)|slop (w:Nat) (xs:List AVal)|sh (i:Nat)|sptr (i w n:Nat)|gsl (w i len:Nat)|nmap|num (k:IntKind)|nbuf (e:TypeId)|trow (T:TypeId) (i len:Nat)|vec (w:Nat) (xs:List AVal)|vptr (i w n k:Nat)|hset (ks:List (B8×Int)) deriving Inhabited
mutual def AVal.strip:AVal->AVal|.agg cs=>.agg (stripL cs)|.tuple cs=>.tuple (stripL cs)|.slice w xs _=>.slice w xs false|.iter _ _=>.any|.map _ _=>.any|.slop _ _=>.any|.vec _ _=>.any|.hset _=>.any|.buf e l _=>.buf e l false|.bufp e l _=>.bufp e l false|v=>v def stripL:List AVal->List AVal|[]=>[]|x::xs=>x.strip::stripL xs end
def KT (b:Nat):Value->Nat|.slice (some a) len cap=>if len<cap/\a.block=b then 1 else 0|_=>0
def Ql (b:Nat):Value->Nat|.pointer (some a)=>if a.block=b then 1 else 0|_=>0
def OT (b:Nat):Value->Nat|.map (some r)=>if r=b then 1 else 0|_=>0
def CG (b:Nat):Value->Nat|.slice (some a) _ _=>if a.block=b then 1 else 0|_=>0
theorem VI{b:Nat}{v:Value}:KT b v<=CG b v:=by
 unfold KT CG;split;·rename_i a len cap;split<;>simp_all
 omega
mutual def cnt (b:Nat):AVal->Value->Nat|.agg cs,.agg arr=>AO b cs arr.toList|.tuple cs,.tuple arr=>AO b cs arr.toList|.slice _ _ true,v=>KT b v|.iter _ _,v=>Ql b v|.buf _ _ true,v=>CG b v|.bufp _ _ true,v=>Ql b v|.map _ _,v=>OT b v|.slop _ _,v=>CG b v|.vec _ _,v=>CG b v|.hset _,v=>OT b v|_,_=>0 def AO (b:Nat):List AVal->List Value->Nat|x::xs,v::vs=>cnt b x v+AO b xs vs|_,_=>0 end
structure Ghost where
  com:Nat->Option (List Value)
  bx:Nat->Option Nat
  bt:Nat->Option (TypeId×Nat)
  ct:Nat->Option TypeId
  sx:Nat->Option Value
def Ghost.le (Γ Γ':Ghost):Prop:=(∀b cs,Γ.com b=some cs->∃ds,Γ'.com b=some (cs++ds))/\(∀i b,Γ.bx i=some b->Γ'.bx i=some b)/\(∀i x,Γ.bt i=some x->Γ'.bt i=some x)/\(∀b e,Γ.ct b=some e->Γ'.ct b=some e)/\∀i v,Γ.sx i=some v->Γ'.sx i=some v
theorem Ghost.le_refl (Γ:Ghost):Γ.le Γ:=⟨λ_ cs h=>⟨[],by grind⟩,λ_ _ h=>h,λ_ _ h=>h,λ_ _ h=>h,λ_ _ h=>h⟩
theorem Ghost.le_trans{a b c:Ghost} (h:a.le b) (k:b.le c):a.le c:=⟨λn cs e=>by obtain⟨ds,e⟩:=h.1 n cs e;obtain⟨es,e⟩:=k.1 n _ e;grind,λi n e=>k.2.1 i n (h.2.1 i n e),λi n e=>k.2.2.1 i n (h.2.2.1 i n e),λi n e=>k.2.2.2.1 i n (h.2.2.2.1 i n e),λi n e=>k.2.2.2.2 i n (h.2.2.2.2 i n e)⟩
def u8s (l:B8):List AVal:=l.map λb=>.int .u8 b.toNat
def bufOK (Γ:Ghost) (e:TypeId):Value->Prop|.slice (some a) _ cap=>a.off=0/\a.spot=none/\cap≠0/\Γ.ct a.block=some e|.slice none len cap=>len=0/\cap=0|_=>False
theorem bufOK.mono{Γ Γ':Ghost} (le:Γ.le Γ'){e:TypeId}{v:Value} (h:bufOK Γ e v):bufOK Γ' e v:=by
 cases v with
 |slice p len cap=>cases p with|none=>exact h|some a=>exact⟨h.1,h.2.1,h.2.2.1,le.2.2.2.1 _ _ h.2.2.2⟩
 |_=>exact h
mutual inductive Rep (Γ:Ghost):AVal->Value->Prop|any (v:Value):Rep Γ .any v|bool (b:Bool):Rep Γ (.bool b) (.bool b)|int (k:IntKind) (n:Int):Rep Γ (.int k n) (.int k n)|str (b:ByteArray) (hn:b.data.toList.length<=Bg):Rep Γ (.str b.data.toList) (.string b)|agg{cs:List AVal}{arr:Array Value} (h:RepL Γ cs arr.toList) (one: ∀v,v∈arr.toList->v.oneCell'=true):Rep Γ (.agg cs) (.agg arr)|tuple{cs:List AVal}{arr:Array Value} (h:RepL Γ cs arr.toList):Rep Γ (.tuple cs) (.tuple arr)|snil (w:Nat) (own:Bool) (a:Option Addr):Rep Γ (.slice w [] own) (.slice a 0 0)|slice{w:Nat}{xs:List AVal} (own:Bool){b off len cap:Nat}{cells:List Value} (hb:Γ.com b=some cells) (hl:xs.length=len) (hc:len<=cap/\len<=Bg) (h:RepS Γ w xs (cells.drop off)) (hn:own=true->xs=[]->cap=0\/w=1):Rep Γ (.slice w xs own) (.slice (some ⟨b,off,none⟩) len cap)|ptr{i off b:Nat} (h:Γ.bx i=some b):Rep Γ (.ptr i off) (.pointer (some ⟨b,off,none⟩))|nilp:Rep Γ .nilp (.pointer none)|cptr{cs:List AVal}{b off:Nat}{cells vs rest:List Value} (hb:Γ.com b=some cells) (hd:cells.drop off=vs++rest) (h:RepL Γ cs vs) (ho: ∀v,v∈vs->v.oneCell'=true):Rep Γ (.cptr cs) (.pointer (some ⟨b,off,none⟩))|fn{f:Fn}{x y:List AVal}{p q:Array Value} (hx:RepL Γ x p.toList) (hy:RepL Γ y q.toList):Rep Γ (.fn f x y) (.func f p q)|nilFn:Rep Γ .nilFn .nilFunc|iface{t:TypeId}{x:AVal}{v:Value} (h:Rep Γ x v):Rep Γ (.iface t x) (.iface t v)|nilIface:Rep Γ .nilIface .nilIface|iter (s:B8) (pos:Nat) (v:Value):Rep Γ (.iter s pos) v|bsl{w i off off' len b cap:Nat} (h:Γ.bx i=some b) (ho:len=0\/off'=off) (hc:len<=cap/\len<=Bg):Rep Γ (.bsl w i off len) (.slice (some ⟨b,off',none⟩) len cap)|nself{i n:Nat}{T:TypeId} (h:Γ.bt i=some (T,n)):Rep Γ (.nself i T n) (.pointer none)|buf{e:TypeId}{l:B8} (own:Bool){v:Value} (h:Rep Γ (.slice 1 (u8s l) own) v) (k:bufOK Γ e v):Rep Γ (.buf e l own) v|bnil (e:TypeId) (own:Bool):Rep Γ (.bufp e [] own) (.pointer none)|bufp{e:TypeId}{l:B8} (own:Bool){b:Nat}{cells:List Value} (hb:Γ.com b=some cells) (hc:Γ.ct b=some e) (h:RepS Γ 1 (u8s l) cells) (hl:l.length<=Bg):Rep Γ (.bufp e l own) (.pointer (some ⟨b,0,none⟩))|map (ks:List B8) (vs:List AVal) (v:Value):Rep Γ (.map ks vs) v|slop{w:Nat}{xs:List AVal}{b off len cap:Nat}{cells:List Value} (hb:Γ.com b=some cells) (hl:xs.length+1=len) (hc:len<=cap/\len<=Bg) (h:RepS Γ w xs (cells.drop off)):Rep Γ (.slop w xs) (.slice (some ⟨b,off,none⟩) len cap)|sh{i:Nat}{v:Value} (h:Γ.sx i=some v) (k:v.cells= #[v]/\v.oneCell'=true):Rep Γ (.sh i) v|nmap:Rep Γ .nmap (.map none)|num (k:IntKind) (n:Int):Rep Γ (.num k) (.int k n)|nbuf (e:TypeId):Rep Γ (.nbuf e) (.slice none 0 0)|trow{i len b cap n:Nat}{T:TypeId} (h:Γ.bx i=some b) (ht:Γ.bt i=some (T,n)) (hc:len<=cap/\len<=Bg) (hz:cap=n):Rep Γ (.trow T i len) (.slice (some ⟨b,0,none⟩) len cap)|vec (w:Nat) (xs:List AVal) (v:Value):Rep Γ (.vec w xs) v|hset (ks:List (B8×Int)) (v:Value):Rep Γ (.hset ks) v|vptr{i w n k b off len cap:Nat} (h:Γ.sx i=some (.slice (some ⟨b,off,none⟩) len cap)):Rep Γ (.vptr i w n k) (.pointer (some ⟨b,off+(n * w+k),none⟩))|gsl{w i len b cap n:Nat}{T:TypeId} (h:Γ.bx i=some b) (ht:Γ.bt i=some (T,n)) (hc:len<=cap/\len<=Bg) (hz:cap * w=n):Rep Γ (.gsl w i len) (.slice (some ⟨b,0,none⟩) len cap)|sptr{i w n b off len cap:Nat} (h:Γ.sx i=some (.slice (some ⟨b,off,none⟩) len cap)):Rep Γ (.sptr i w n) (.pointer (some ⟨b,off+n * w,none⟩)) inductive RepL (Γ:Ghost):List AVal->List Value->Prop|nil:RepL Γ [] []|cons{x:AVal}{v:Value}{xs:List AVal}{vs:List Value} (h:Rep Γ x v) (t:RepL Γ xs vs):RepL Γ (x::xs) (v::vs) inductive RepS (Γ:Ghost):Nat->List AVal->List Value->Prop|nil (w:Nat) (cs:List Value):RepS Γ w [] cs|cons{w:Nat}{x:AVal}{v:Value}{xs:List AVal}{cs:List Value} (h:Rep Γ x v) (hw:v.cells.size=w/\∀c,c∈v.cells.toList->c.oneCell'=true) (t:RepS Γ w xs cs):RepS Γ w (x::xs) (v.cells.toList++cs) end
theorem RepS.more{Γ:Ghost}{w:Nat}{xs:List AVal}{cs:List Value} (h:RepS Γ w xs cs) (ds:List Value):RepS Γ w xs (cs++ds):=by induction xs generalizing cs with|nil=>exact .nil _ _|cons x xs ih=>cases h with|cons h hw t=>rw[aM];exact .cons h hw (ih t)
mutual theorem Rep.mono{Γ Γ':Ghost} (le:Γ.le Γ'): {x:AVal}->{v:Value}->Rep Γ x v->Rep Γ' x v|_,_,.any v=>.any v|_,_,.bool b=>.bool b|_,_,.int k n=>.int k n|_,_,.str b h=>.str b h|_,_,.agg h o=>.agg (RepL.mono le h) o|_,_,.tuple h=>.tuple (RepL.mono le h)|_,_,.snil w o a=>.snil w o a|_,_,.slice o hb hl hc h hn=>by obtain⟨ds,hb'⟩:=le.1 _ _ hb;refine .slice o hb' hl hc ?_ hn;rw[co];exact(RepS.mono le h).more _|_,_,.ptr h=>.ptr (le.2.1 _ _ h)|_,_,.nilp=>.nilp|_,_,.cptr (cells:=cells) (off:=off) (rest:=rest) hb hd h ho=>by obtain⟨ds,hb'⟩:=le.1 _ _ hb;exact .cptr (rest:=rest++ds.drop (off-cells.length)) hb' (by grind[List.drop_append]) (RepL.mono le h) ho|_,_,.fn h k=>.fn (RepL.mono le h) (RepL.mono le k)|_,_,.nilFn=>.nilFn|_,_,.iface h=>.iface (Rep.mono le h)|_,_,.nilIface=>.nilIface|_,_,.iter s p v=>.iter s p v|_,_,.bsl h ho hc=>.bsl (le.2.1 _ _ h) ho hc|_,_,.nself h=>.nself (le.2.2.1 _ _ h)|_,_,.buf o h k=>.buf o (Rep.mono le h) (k.mono le)|_,_,.bnil e o=>.bnil e o|_,_,.bufp o hb hc h hl=>by obtain⟨ds,hb'⟩:=le.1 _ _ hb;exact .bufp o hb' (le.2.2.2.1 _ _ hc) ((RepS.mono le h).more _) hl|_,_,.map ks vs v=>.map ks vs v|_,_,.slop hb hl hc h=>by obtain⟨ds,hb'⟩:=le.1 _ _ hb;refine .slop hb' hl hc ?_;rw[co];exact(RepS.mono le h).more _|_,_,.sh h k=>.sh (le.2.2.2.2 _ _ h) k|_,_,.sptr h=>.sptr (le.2.2.2.2 _ _ h)|_,_,.nmap=>.nmap|_,_,.num k n=>.num k n|_,_,.nbuf e=>.nbuf e|_,_,.trow h ht hc hz=>.trow (le.2.1 _ _ h) (le.2.2.1 _ _ ht) hc hz|_,_,.vec w xs v=>.vec w xs v|_,_,.hset ks v=>.hset ks v|_,_,.vptr h=>.vptr (le.2.2.2.2 _ _ h)|_,_,.gsl h ht hc hz=>.gsl (le.2.1 _ _ h) (le.2.2.1 _ _ ht) hc hz theorem RepL.mono{Γ Γ':Ghost} (le:Γ.le Γ'): {xs:List AVal}->{vs:List Value}->RepL Γ xs vs->RepL Γ' xs vs|_,_,.nil=>.nil|_,_,.cons h t=>.cons (Rep.mono le h) (RepL.mono le t) theorem RepS.mono{Γ Γ':Ghost} (le:Γ.le Γ'): {w:Nat}->{xs:List AVal}->{cs:List Value}->RepS Γ w xs cs->RepS Γ' w xs cs|_,_,_,.nil w cs=>.nil w cs|_,_,_,.cons h hw t=>.cons (Rep.mono le h) hw (RepS.mono le t) end
mutual theorem Rep.strip{Γ:Ghost}: {x:AVal}->{v:Value}->Rep Γ x v->Rep Γ x.strip v|_,_,.any v=>.any v|_,_,.bool b=>.bool b|_,_,.int k n=>.int k n|_,_,.str b h=>.str b h|_,_,.agg h o=>by rw[AVal.strip];exact .agg (RepL.strip h) o|_,_,.tuple h=>by rw[AVal.strip];exact .tuple (RepL.strip h)|_,_,.snil w o a=>.snil w _ a|_,_,.slice o hb hl hc h hn=>.slice _ hb hl hc h (λh=>by cases h)|_,_,.ptr h=>.ptr h|_,_,.nilp=>.nilp|_,_,.cptr hb hd h ho=>.cptr hb hd h ho|_,_,.fn h k=>.fn h k|_,_,.nilFn=>.nilFn|_,_,.iface h=>.iface h|_,_,.nilIface=>.nilIface|_,_,.iter s p v=>by rw[AVal.strip];exact .any _|_,_,.bsl h ho hc=>.bsl h ho hc|_,_,.nself h=>.nself h|_,_,.buf o h k=>by have q:=Rep.strip h;rw[AVal.strip]at q;exact .buf _ q k|_,_,.bnil e o=>.bnil e _|_,_,.bufp o hb hc h hl=>.bufp _ hb hc h hl|_,_,.map ks vs v=>by rw[AVal.strip];exact .any _|_,_,.slop hb hl hc h=>by rw[AVal.strip];exact .any _|_,_,.sh h k=>.sh h k|_,_,.sptr h=>.sptr h|_,_,.gsl h ht hc hz=>.gsl h ht hc hz|_,_,.nmap=>.nmap|_,_,.num k n=>.num k n|_,_,.nbuf e=>.nbuf e|_,_,.trow h ht hc hz=>.trow h ht hc hz|_,_,.vec w xs v=>by rw[AVal.strip];exact .any _|_,_,.hset ks v=>by rw[AVal.strip];exact .any _|_,_,.vptr h=>.vptr h theorem RepL.strip{Γ:Ghost}: {xs:List AVal}->{vs:List Value}->RepL Γ xs vs->RepL Γ (stripL xs) vs|_,_,.nil=>by rw[stripL];exact .nil|_,_,.cons h t=>by rw[stripL];exact .cons (Rep.strip h) (RepL.strip t) end
mutual theorem IE (b:Nat):(x:AVal)->(v:Value)->cnt b x.strip v=0|.agg cs,v=>by rw[AVal.strip];cases v<;>simp[cnt];exact Hz b cs _|.tuple cs,v=>by rw[AVal.strip];cases v<;>simp[cnt];exact Hz b cs _|.slice w xs o,v=>by grind[AVal.strip,cnt]|.any,_=>by simp[AVal.strip,cnt]|.bool _,_=>by simp[AVal.strip,cnt]|.int _ _,_=>by simp[AVal.strip,cnt]|.str _,_=>by simp[AVal.strip,cnt]|.ptr _ _,_=>by simp[AVal.strip,cnt]|.nilp,_=>by simp[AVal.strip,cnt]|.cptr _,_=>by simp[AVal.strip,cnt]|.fn _ _ _,_=>by simp[AVal.strip,cnt]|.nilFn,_=>by simp[AVal.strip,cnt]|.iface _ _,_=>by simp[AVal.strip,cnt]|.nilIface,_=>by simp[AVal.strip,cnt]|.iter _ _,_=>by simp[AVal.strip,cnt]|.bsl _ _ _ _,_=>by simp[AVal.strip,cnt]|.nself _ _ _,_=>by simp[AVal.strip,cnt]|.buf _ _ _,_=>by simp[AVal.strip,cnt]|.bufp _ _ _,_=>by simp[AVal.strip,cnt]|.map _ _,_=>by simp[AVal.strip,cnt]|.slop _ _,_=>by simp[AVal.strip,cnt]|.sh _,_=>by simp[AVal.strip,cnt]|.sptr _ _ _,_=>by simp[AVal.strip,cnt]|.gsl _ _ _,_=>by simp[AVal.strip,cnt]|.nmap,_=>by simp[AVal.strip,cnt]|.num _,_=>by simp[AVal.strip,cnt]|.nbuf _,_=>by simp[AVal.strip,cnt]|.trow _ _ _,_=>by simp[AVal.strip,cnt]|.vptr _ _ _ _,_=>by simp[AVal.strip,cnt]|.vec _ _,_=>by simp[AVal.strip,cnt]|.hset _,_=>by simp[AVal.strip,cnt] theorem Hz (b:Nat):(xs:List AVal)->(vs:List Value)->AO b (stripL xs) vs=0|[],_=>by simp[stripL,AO]|x::xs,[]=>by simp[stripL,AO]|x::xs,v::vs=>by rw[stripL,AO,IE b x v,Hz b xs vs] end
def KR (Γ:Ghost) (w:World) (wd:Nat):Value->Prop|.slice (some a) len cap=>len<cap->∃arr e lo hi cells,w.heap[a.block]?=some (.cells arr e (lo,hi))/\(∀j,j<arr.size->¬(lo<=j/\j<hi))/\a.spot=none/\Γ.com a.block=some cells/\cells.length=a.off+len * wd/\a.off+cap * wd<=arr.size|_=>True
theorem YV{Γ Γ':Ghost}{w w':World}{wd:Nat}{v:Value} (h:KR Γ w wd v) (k: ∀b,1<=KT b v->w'.heap[b]?=w.heap[b]?/\Γ'.com b=Γ.com b):KR Γ' w' wd v:=by unfold KR at *;split<;>simp_all[KT]
def Akr (w:World) (s:B8) (pos:Nat) (v:Value):Prop:= ∃b sb,v=.pointer (some ⟨b,0,none⟩)/\sb.data.toList=s/\w.heap[b]?=some (.stringIter sb pos)
theorem AUh{w w':World}{s:B8}{pos:Nat}{v:Value} (h:Akr w s pos v) (k: ∀b,1<=Ql b v->w'.heap[b]?=w.heap[b]?):Akr w' s pos v:=by obtain⟨b,sb,rfl,h1,h2⟩:=h;exact⟨b,sb,rfl,h1,by grind[Ql]⟩
def Zr (Γ:Ghost) (w:World) (c:Nat->Nat):Prop:= ∀b,1<=c b->(∃cells,Γ.com b=some cells)/\ ∃o,w.heap[b]?=some o
theorem Y0{Γ Γ':Ghost}{w w':World}{c:Nat->Nat} (h:Zr Γ w c) (k: ∀b,1<=c b->w'.heap[b]?=w.heap[b]?/\Γ'.com b=Γ.com b):Zr Γ' w' c:=λb hb=>by rw[(k b hb).1,(k b hb).2];exact h b hb
inductive RepK (Γ:Ghost):List B8->List AVal->List MapEntry->Prop|nil:RepK Γ [] [] []|cons{b:ByteArray}{x:AVal}{e:MapEntry}{ks:List B8}{vs:List AVal}{es:List MapEntry} (hk:e.key=.string b) (hv:Rep Γ x e.val) (t:RepK Γ ks vs es):RepK Γ (b.data.toList::ks) (x::vs) (e::es)
theorem RepK.mono{Γ Γ':Ghost} (le:Γ.le Γ'){ks:List B8}{vs:List AVal}{es:List MapEntry} (h:RepK Γ ks vs es):RepK Γ' ks vs es:=by induction h with|nil=>exact .nil|cons hk hv _ ih=>exact .cons hk (hv.mono le) ih
def AKB (Γ:Ghost) (w:World) (ks:List B8) (vs:List AVal) (v:Value):Prop:= ∃b es clock,v=.map (some b)/\w.heap[b]?=some (.map es clock)/\RepK Γ ks vs es.toList
theorem APQ{Γ Γ':Ghost}{w w':World}{ks:List B8}{vs:List AVal}{v:Value} (h:AKB Γ w ks vs v) (le:Γ.le Γ') (k: ∀b,1<=OT b v->w'.heap[b]?=w.heap[b]?):AKB Γ' w' ks vs v:=by obtain⟨b,es,clock,rfl,h1,h2⟩:=h;exact⟨b,es,clock,rfl,by grind[OT],h2.mono le⟩
def Q4 (Γ:Ghost) (w:World) (wd n:Nat):Value->Prop|.slice (some a) len cap=>∃arr e lo hi cells,w.heap[a.block]?=some (.cells arr e (lo,hi))/\(∀j,j<arr.size->¬(lo<=j/\j<hi))/\a.spot=none/\Γ.com a.block=some cells/\cells.length=a.off+n * wd/\a.off+cap * wd<=arr.size/\len=n+1|_=>False
theorem AKX{Γ Γ':Ghost}{w w':World}{wd n:Nat}{v:Value} (h:Q4 Γ w wd n v) (k: ∀b,1<=CG b v->w'.heap[b]?=w.heap[b]?/\Γ'.com b=Γ.com b):Q4 Γ' w' wd n v:=by
 unfold Q4 at *;split;·rename_i a len cap;simp only[CG]at h k;obtain⟨h1,h2⟩:=k a.block fy;rw[h1,h2];exact h
 ·split at h<;>first|exact h.elim|(rename_i hx;exact absurd rfl (hx _ _ _))
inductive RepH:List (B8×Int)->List MapEntry->Prop|nil:RepH [] []|cons{b:ByteArray}{p:Int}{e:MapEntry}{ks:List (B8×Int)}{es:List MapEntry} (hn:b.data.toList.length<=Bg) (hk:e.key=.agg #[.string b,.int .i64 p]) (hv:e.val=.bool true) (t:RepH ks es):RepH ((b.data.toList,p)::ks) (e::es)
def Aob (w:World) (ks:List (B8×Int)) (v:Value):Prop:= ∃b es clock,v=.map (some b)/\w.heap[b]?=some (.map es clock)/\RepH ks es.toList
def Tm (Γ:Ghost) (w:World) (wd:Nat) (xs:List AVal) (v:Value):Prop:=(xs=[]/\v=.slice none 0 0)\/∃b off cap arr e lo hi,v=.slice (some ⟨b,off,none⟩) xs.length cap/\w.heap[b]?=some (.cells arr e (lo,hi))/\(∀j,j<arr.size->¬(lo<=j/\j<hi))/\Γ.com b=some []/\xs.length<=cap/\xs.length<=Bg/\off+cap * wd<=arr.size/\RepS Γ wd xs (arr.toList.drop off)
theorem ASh{Γ Γ':Ghost}{w w':World}{wd:Nat}{xs:List AVal}{v:Value} (h:Tm Γ w wd xs v) (le:Γ.le Γ') (k: ∀b,1<=CG b v->w'.heap[b]?=w.heap[b]?/\Γ'.com b=Γ.com b):Tm Γ' w' wd xs v:=by
 rcases h with h|⟨b,off,cap,arr,e,lo,hi,rfl,h1,h2,h3,h4,h5,h6,h7⟩;·exact .inl h
 ·obtain⟨k1,k2⟩:=k b (by simp[CG]);exact .inr ⟨b,off,cap,arr,e,lo,hi,rfl,by rw[k1];exact h1,h2,by rw[k2];exact h3,h4,h5,h6,h7.mono le⟩
mutual def own (Γ:Ghost) (w:World):AVal->Value->Prop|.agg cs,.agg arr=>ownL Γ w cs arr.toList|.tuple cs,.tuple arr=>ownL Γ w cs arr.toList|.slice wd _ true,v=>KR Γ w wd v|.iter s pos,v=>Akr w s pos v|.buf _ _ true,v=>KR Γ w 1 v/\Zr Γ w λb=>CG b v|.bufp _ _ true,v=>Zr Γ w λb=>Ql b v|.map ks vs,v=>AKB Γ w ks vs v|.slop wd xs,v=>Q4 Γ w wd xs.length v|.vec wd xs,v=>Tm Γ w wd xs v|.hset ks,v=>Aob w ks v|_,_=>True def ownL (Γ:Ghost) (w:World):List AVal->List Value->Prop|x::xs,v::vs=>own Γ w x v/\ownL Γ w xs vs|_,_=>True end
mutual theorem La (Γ:Ghost) (w:World):(x:AVal)->(v:Value)->own Γ w x.strip v|.agg cs,v=>by rw[AVal.strip];cases v<;>simp only[own];exact Jf Γ w cs _|.tuple cs,v=>by rw[AVal.strip];cases v<;>simp only[own];exact Jf Γ w cs _|.slice _ _ o,v=>by grind[AVal.strip,own]|.any,_=>by simp[AVal.strip,own]|.bool _,_=>by simp[AVal.strip,own]|.int _ _,_=>by simp[AVal.strip,own]|.str _,_=>by simp[AVal.strip,own]|.ptr _ _,_=>by simp[AVal.strip,own]|.nilp,_=>by simp[AVal.strip,own]|.cptr _,_=>by simp[AVal.strip,own]|.fn _ _ _,_=>by simp[AVal.strip,own]|.nilFn,_=>by simp[AVal.strip,own]|.iface _ _,_=>by simp[AVal.strip,own]|.nilIface,_=>by simp[AVal.strip,own]|.iter _ _,_=>by simp[AVal.strip,own]|.bsl _ _ _ _,_=>by simp[AVal.strip,own]|.nself _ _ _,_=>by simp[AVal.strip,own]|.buf _ _ _,_=>by simp[AVal.strip,own]|.bufp _ _ _,_=>by simp[AVal.strip,own]|.map _ _,_=>by simp[AVal.strip,own]|.slop _ _,_=>by simp[AVal.strip,own]|.sh _,_=>by simp[AVal.strip,own]|.sptr _ _ _,_=>by simp[AVal.strip,own]|.gsl _ _ _,_=>by simp[AVal.strip,own]|.nmap,_=>by simp[AVal.strip,own]|.num _,_=>by simp[AVal.strip,own]|.nbuf _,_=>by simp[AVal.strip,own]|.trow _ _ _,_=>by simp[AVal.strip,own]|.vptr _ _ _ _,_=>by simp[AVal.strip,own]|.vec _ _,_=>by simp[AVal.strip,own]|.hset _,_=>by simp[AVal.strip,own] theorem Jf (Γ:Ghost) (w:World):(xs:List AVal)->(vs:List Value)->ownL Γ w (stripL xs) vs|[],_=>by simp[stripL,ownL]|x::xs,[]=>by simp[stripL,ownL]|x::xs,v::vs=>by rw[stripL,ownL];exact⟨La Γ w x v,Jf Γ w xs vs⟩ end
mutual theorem AQH{Γ Γ':Ghost}{w w':World} (le:Γ.le Γ'):(x:AVal)->(v:Value)->own Γ w x v->(∀b,1<=cnt b x v->w'.heap[b]?=w.heap[b]?/\Γ'.com b=Γ.com b)->own Γ' w' x v|.agg cs,v,h,k=>by cases v<;>simp only[own,cnt]at *;exact Be le cs _ h k|.tuple cs,v,h,k=>by cases v<;>simp only[own,cnt]at *;exact Be le cs _ h k|.slice wd xs o,v,h,k=>by cases o<;>grind[own,cnt,YV]|.any,_,_,_=>by simp[own]|.bool _,_,_,_=>by simp[own]|.int _ _,_,_,_=>by simp[own]|.str _,_,_,_=>by simp[own]|.ptr _ _,_,_,_=>by simp[own]|.nilp,_,_,_=>by simp[own]|.cptr _,_,_,_=>by simp[own]|.fn _ _ _,_,_,_=>by simp[own]|.nilFn,_,_,_=>by simp[own]|.iface _ _,_,_,_=>by simp[own]|.nilIface,_,_,_=>by simp[own]|.bsl _ _ _ _,_,_,_=>by simp[own]|.nself _ _ _,_,_,_=>by simp[own]|.buf _ _ o,v,h,k=>by cases o<;>grind[own,cnt,YV,Nat.le_trans,VI,Y0]|.bufp _ _ o,v,h,k=>by cases o<;>grind[own,cnt,Y0]|.sh _,_,_,_=>by simp[own]|.sptr _ _ _,_,_,_=>by simp[own]|.gsl _ _ _,_,_,_=>by simp[own]|.nmap,_,_,_=>by simp[own]|.num _,_,_,_=>by simp[own]|.nbuf _,_,_,_=>by simp[own]|.trow _ _ _,_,_,_=>by simp[own]|.vptr _ _ _ _,_,_,_=>by simp[own]|.hset ks,v,h,k=>by simp only[own,cnt]at *;obtain⟨b,es,clock,rfl,h1,h2⟩:=h;exact⟨b,es,clock,rfl,by rw[(k b (by simp[OT])).1];exact h1,h2⟩|.vec wd xs,v,h,k=>by simp only[own,cnt]at *;exact ASh h le k|.map ks vs,v,h,k=>by grind[own,cnt,APQ]|.slop wd xs,v,h,k=>by grind[own,cnt,AKX]|.iter s p,v,h,k=>by grind[own,cnt,AUh] theorem Be{Γ Γ':Ghost}{w w':World} (le:Γ.le Γ'):(xs:List AVal)->(vs:List Value)->ownL Γ w xs vs->(∀b,1<=AO b xs vs->w'.heap[b]?=w.heap[b]?/\Γ'.com b=Γ.com b)->ownL Γ' w' xs vs|[],_,_,_=>by simp[ownL]|x::xs,[],_,_=>by simp[ownL]|x::xs,v::vs,h,k=>by rw[ownL]at *;exact⟨AQH le x v h.1 (λb hb=>k b (by grind[AO])),Be le xs vs h.2 (λb hb=>k b (by grind[AO]))⟩ end
end Go.VM
set_option linter.unusedVariables false
namespace Go.VM
structure Env where
  P:Program
  T:Nat->Option (List AVal)
structure St where
  m:List (Nat×List AVal)
  next:Nat
def Af:List (Nat×List AVal)->Nat->Option (List AVal)|[],_=>none|(j,c)::m,i=>if i=j then some c else Af m i
def Ar:List (Nat×List AVal)->Nat->List AVal->List (Nat×List AVal)|[],_,_=>[]|(j,c)::m,i,x=>if i=j then(j,x)::m else(j,c)::Ar m i x
def Kv{m:List (Nat×List AVal)}{i:Nat}{c:List AVal} (h:Af m i=some c):(i,c)∈m:=by induction m<;>grind[Af,List.mem_cons_of_mem]
def ADd (m:List (Nat×List AVal)) (i:Nat) (x:List AVal):(Ar m i x).map (·.1)=m.map (·.1):=by induction m<;>grind[Ar]
def hcells (w:World) (b:Nat):List Value:=match w.heap[b]? with|some (.cells arr _ _)=>arr.toList|_=>[]
def Ct (Γ:Ghost) (w:World) (b:Nat) (p:Nat×List AVal):Nat:=match Γ.bx p.1 with|some k=>AO b p.2 (hcells w k)|none=>match Γ.sx p.1 with|some v=>AO b p.2 [v]|none=>0
def Ah (Γ:Ghost) (w:World) (b:Nat):List (Nat×List AVal)->Nat|[]=>0|p::m=>Ct Γ w b p+Ah Γ w b m
structure BoxOK (Γ:Ghost) (w:World) (p:Nat×List AVal) (b:Nat) (arr:Array Value) (e:TypeId):Prop where
  bx:Γ.bx p.1=some b
  heap: ∃lo hi,w.heap[b]?=some (.cells arr e (lo,hi))/\ ∀j,j<arr.size-> ¬(lo<=j/\j<hi)
  rep:RepL Γ p.2 (arr.toList.take p.2.length)
  own:ownL Γ w p.2 arr.toList
  com:Γ.com b=none
  one: ∀v,v∈arr.toList.take p.2.length->v.oneCell'=true
  ty: ∀T n,Γ.bt p.1=some (T,n)->e=T/\arr.size=n
structure ShOK (Γ:Ghost) (w:World) (p:Nat×List AVal) (v:Value):Prop where
  sx:Γ.sx p.1=some v
  bx:Γ.bx p.1=none
  rep:RepL Γ p.2 [v]
  own:ownL Γ w p.2 [v]
theorem NB (b:Nat): ∀(xs:List AVal) (vs:List Value),AO b xs (vs.take xs.length)=AO b xs vs|[],_=>by simp[AO]|x::xs,[]=>by simp|x::xs,v::vs=>by simp only[ag,cj,AO,NB b xs vs]
def M8 (Γ:Ghost) (w:World): ∀(xs:List AVal) (vs:List Value),ownL Γ w xs (vs.take xs.length)<->ownL Γ w xs vs|[],_=>by simp[ownL]|x::xs,[]=>by simp|x::xs,v::vs=>by simp only[ag,cj,ownL,M8 Γ w xs vs]
theorem MO: ∀xs:List AVal,(stripL xs).length=xs.length|[]=>by simp[stripL]|x::xs=>by simp[stripL,MO xs]
structure Sim (E:Env) (F:Nat->Nat) (Γ:Ghost) (st:St) (w:World) (af:List AVal) (tm:List Value):Prop where
  com_ok: ∀b cs,Γ.com b=some cs-> ∃arr e fz,w.heap[b]?=some (.cells arr e fz)/\(∃ds,arr.toList=cs++ds)/\ ∀T,Γ.ct b=some T->e=T
  box_ok: ∀p,p∈st.m->(∃b arr e,BoxOK Γ w p b arr e)\/ ∃v,ShOK Γ w p v
  sx_next: ∀i v,Γ.sx i=some v->i<st.next/\Γ.bx i=none
  keys:(st.m.map (·.1)).Nodup
  inj: ∀i j b,Γ.bx i=some b->Γ.bx j=some b->i=j
  bx_lt: ∀i b,Γ.bx i=some b->b<w.heap.size
  bx_next: ∀i b,Γ.bx i=some b->i<st.next
  tyd:(∀i x,Γ.bt i=some x-> ∃b,Γ.bx i=some b)/\ ∀b e,Γ.ct b=some e-> ∃cs,Γ.com b=some cs
  bx_F: ∀p b,p∈st.m->Γ.bx p.1=some b->F b=0
  F_lt: ∀b,w.heap.size<=b->F b=0
  glob: ∀g cs,E.T g=some cs->Rep Γ (.cptr cs) (.pointer (some ⟨g,0,none⟩))
  rep:RepL Γ af tm
  own:ownL Γ w af tm
  tok: ∀b,F b+AO b af tm+Ah Γ w b st.m<=1
structure Ext (F:Nat->Nat) (Γ:Ghost) (w:World) (Γ':Ghost) (w':World):Prop where
  le:Γ.le Γ'
  keep: ∀b,1<=F b->w'.heap[b]?=w.heap[b]?/\Γ'.com b=Γ.com b
  size:w.heap.size<=w'.heap.size
  os:w'.os=w.os
  output:w'.output=w.output
  tape:w'.tape=w.tape
def Ext.refl (F:Nat->Nat) (Γ:Ghost) (w:World):Ext F Γ w Γ w:=⟨Γ.le_refl,λ_ _=>⟨rfl,rfl⟩,au _,rfl,rfl,rfl⟩
theorem Ext.trans{F:Nat->Nat}{a b c:Ghost}{u v w:World} (h:Ext F a u b v) (k:Ext F b v c w):Ext F a u c w:=⟨Ghost.le_trans h.le k.le,λn hn=>⟨(k.keep n hn).1.trans (h.keep n hn).1,(k.keep n hn).2.trans (h.keep n hn).2⟩,bG h.size k.size,k.os.trans h.os,k.output.trans h.output,k.tape.trans h.tape⟩
def Ext.less{F G:Nat->Nat}{a b:Ghost}{u v:World} (h:Ext F a u b v) (le: ∀n,G n<=F n):Ext G a u b v:=⟨h.le,λn hn=>h.keep n (bG hn (le n)),h.size,h.os,h.output,h.tape⟩
abbrev APost:=Exit->List AVal->St->Prop
def lift (E:Env) (F:Nat->Nat) (Γ:Ghost) (w:World) (n:Nat) (Q:APost):Exit->Act->World->Prop:=λe a' w'=>(match e with|.normal|.exit _|.ret=>True|_=>False)/\a'.defers=[]/\∃Γ' af' st',Ext F Γ w Γ' w'/\n<=st'.next/\Sim E F Γ' st' w' af' a'.tmps.toList/\Q e af' st'
structure AWp (E:Env) (c:Code) (Q:APost) (af:List AVal) (st:St):Prop where go: ∀(F:Nat->Nat) (Γ:Ghost) (w:World) (a:Act),a.defers=[]->Sim E F Γ st w af a.tmps.toList->c.wp E.P (lift E F Γ w st.next Q) a w
structure ACall (E:Env) (f:FuncId) (args:List AVal) (st:St) (Q:AVal->St->Prop):Prop where go: ∀(F:Nat->Nat) (Γ:Ghost) (w:World) (cargs:Array Value),Sim E F Γ st w args cargs.toList->Calls E.P f cargs w λe w'=>∃v,e=.returned v/\∃Γ' r st',Ext F Γ w Γ' w'/\st.next<=st'.next/\Sim E F Γ' st' w' [r] [v]/\Q r st'
def ACall.mono{E:Env}{f:FuncId}{args:List AVal}{st:St}{Q Q':AVal->St->Prop} (h:ACall E f args st Q) (hq: ∀r st',st.next<=st'.next->Q r st'->Q' r st'):ACall E f args st Q':=⟨λF Γ w cargs hs=>(h.go F Γ w cargs hs).mono λ_ _ ⟨v,he,Γ',r,st',h1,h2,h3,h4⟩=>⟨v,he,Γ',r,st',h1,h2,h3,hq r st' h2 h4⟩⟩
def AWp.mono{E:Env}{c:Code}{Q Q':APost}{af:List AVal}{st:St} (h:AWp E c Q af st) (hq: ∀e af' st',st.next<=st'.next->Q e af' st'->Q' e af' st'):AWp E c Q' af st:=⟨λF Γ w a hd hs=>fb (h.go F Γ w a hd hs) λ_ _ _ ⟨h0,h1,Γ',af',st',h2,h3,h4,h5⟩=>⟨h0,h1,Γ',af',st',h2,h3,h4,hq _ _ _ h3 h5⟩⟩
def Vd{E:Env}{F:Nat->Nat}{Γ Γ₁:Ghost}{w w₁:World}{n n₁:Nat}{Q:APost} (hx:Ext F Γ w Γ₁ w₁) (hn:n<=n₁){e:Exit}{a':Act}{w':World} (h:lift E F Γ₁ w₁ n₁ Q e a' w'):lift E F Γ w n Q e a' w':=by obtain⟨h0,h1,Γ',af',st',h2,h3,h4,h5⟩:=h;exact⟨h0,h1,Γ',af',st',hx.trans h2,bG hn h3,h4,h5⟩
section rules
variable{E:Env}{Q:APost}{af:List AVal}{st:St}
def AOR (h:Q .normal af st):AWp E .skip Q af st:=⟨λF Γ w a hd hs=>wp_skip ⟨trivial,hd,Γ,af,st,Ext.refl _ _ _,au _,hs,h⟩⟩
def Acn{l:Nat} (h:Q .normal af st):AWp E (.label l) Q af st:=⟨λF Γ w a hd hs=>wp_label ⟨trivial,hd,Γ,af,st,Ext.refl _ _ _,au _,hs,h⟩⟩
def AYo (h:Q .ret af st):AWp E .ret Q af st:=⟨λF Γ w a hd hs=>wp_ret ⟨trivial,hd,Γ,af,st,Ext.refl _ _ _,au _,hs,h⟩⟩
def APd{id:Nat} (h:Q (.exit id) af st):AWp E (.exit id) Q af st:=⟨λF Γ w a hd hs=>wp_exit ⟨trivial,hd,Γ,af,st,Ext.refl _ _ _,au _,hs,h⟩⟩
def ApJ (E:Env) (y:Code) (Q:APost):APost:=λe af st=>match e with|.normal=>AWp E y Q af st|e=>Q e af st
def UV{x y:Code} (h:AWp E x (ApJ E y Q) af st):AWp E (.seq x y) Q af st:=by constructor;intro F Γ w a hd hs;refine wp_seq (fb (h.go F Γ w a hd hs) ?_);intro e a' w' hq;cases e with|normal=>obtain⟨_,h1,Γ',af',st',h2,h3,h4,h5⟩:=hq;exact fb (h5.go F Γ' w' a' h1 h4) λ_ _ _ q=>Vd h2 h3 q|_=>exact hq
def ADN{id:Nat}{c:Code} (h:AWp E c (λe af st=>match e with|.exit id'=>if id'=id then Q .normal af st else Q (.exit id') af st|e=>Q e af st) af st):AWp E (.block id c) Q af st:=by
 constructor;intro F Γ w a hd hs;refine wp_block (fb (h.go F Γ w a hd hs) ?_);intro e a' w' hq;cases e with
 |exit id'=>
  obtain⟨_,h1,Γ',af',st',h2,h3,h4,h5⟩:=hq;simp only[Exit.inBlock];simp only at h5;split;·rename_i he;rw[aq he]at h5;exact⟨trivial,h1,Γ',af',st',h2,h3,h4,h5⟩
  ·rename_i he;rw[an he]at h5;exact⟨trivial,h1,Γ',af',st',h2,h3,h4,h5⟩
 |_=>exact hq
end rules
end Go.VM
set_option linter.unusedVariables false
namespace Go.VM
def H9 (P:Program) (t:TypeId):Nat:=match P.underlying t with|some (.slice e)=>((P.info? e).map (·.size)).getD 0|_=>0
def QH:Value->AVal|.bool b=>.bool b|.int k n=>.int k n|.string s=>if s.data.toList.length<=Bg then .str s.data.toList else .any|.pointer none=>.nilp|.slice none 0 0=>.slice 0 [] true|.nilFunc=>.nilFn|.nilIface=>.nilIface|_=>.any
def AWd (Γ:Ghost) (v:Value):Rep Γ (QH v) v:=by unfold QH;split<;>(try split)<;>constructor<;>assumption
def AW4 (Γ:Ghost) (W:World) (v:Value):own Γ W (QH v) v:=by unfold QH;split<;>(try split)<;>simp[own,KR]
def AV0 (v:Value) (b:Nat):cnt b (QH v) v=0:=by unfold QH;split<;>(try split)<;>simp[cnt,KT]
def Yx (Γ:Ghost): ∀vs:List Value,RepL Γ (vs.map QH) vs|[]=>.nil|v::vs=>.cons (AWd Γ v) (Yx Γ vs)
theorem Yt (Γ:Ghost) (W:World): ∀vs:List Value,ownL Γ W (vs.map QH) vs|[]=>by simp[ownL]|v::vs=>by rw[aF,ownL];exact⟨AW4 Γ W v,Yt Γ W vs⟩
theorem Yd (b:Nat): ∀vs:List Value,AO b (vs.map QH) vs=0|[]=>by simp[AO]|v::vs=>by rw[aF,AO,AV0,Yd b vs]
def Jl (w:Nat):Value->AVal|.agg arr=>if arr.toList.all Value.oneCell'=true then .agg (arr.toList.map QH)else .any|.bool b=>.bool b|.int k n=>.int k n|.string s=>if s.data.toList.length<=Bg then .str s.data.toList else .any|.pointer none=>.nilp|.slice none 0 0=>.slice w [] true|.nilFunc=>.nilFn|.nilIface=>.nilIface|_=>.any
def AVz (Γ:Ghost) (w:Nat) (v:Value):Rep Γ (Jl w v) v:=by
 unfold Jl;split
 ·split;·rename_i arr h;exact .agg (Yx Γ _) λv hv=>aU.1 h v hv
  ·exact .any _
 all_goals ((try split)<;>constructor<;>assumption)
def AUJ (Γ:Ghost) (W:World) (w:Nat) (v:Value):own Γ W (Jl w v) v:=by unfold Jl;grind[own,Yt,KR]
theorem ATo (w:Nat) (v:Value) (b:Nat):cnt b (Jl w v) v=0:=by unfold Jl;grind[cnt,Yd,KT]
def rd (E:Env) (af:List AVal) (t:TypeId):Operand->AVal
 |.tmp i=>af.getD i .any
 |.const v=>Jl (H9 E.P t) v
 |.global g=>match E.T g with|some cs=>.cptr cs|none=>.any
 |.func f=>.fn (.func f) [] []
def stripAt (af:List AVal):Operand->List AVal|.tmp i=>af.set i (af.getD i .any).strip|_=>af
def RepL.length{Γ:Ghost}{xs:List AVal}{vs:List Value} (h:RepL Γ xs vs):xs.length=vs.length:=by induction xs generalizing vs with|nil=>cases h;rfl|cons x xs ih=>cases h with|cons h t=>grind
def RepL.get{Γ:Ghost}{xs:List AVal}{vs:List Value} (h:RepL Γ xs vs) (i:Nat) (d:Value):Rep Γ (xs.getD i .any) (vs.getD i d):=by induction xs generalizing vs i with|nil=>simp;exact .any _|cons x xs ih=>cases h with|cons h t=>cases i with|zero=>grind|succ i=>simp_all
def RepL.set{Γ:Ghost}{xs:List AVal}{vs:List Value} (h:RepL Γ xs vs) (i:Nat){x:AVal}{v:Value} (hx:Rep Γ x v):RepL Γ (xs.set i x) (vs.set i v):=by induction xs generalizing vs i with|nil=>cases h;simpa using RepL.nil|cons y xs ih=>cases h with|cons h t=>cases i with|zero=>simpa using .cons hx t|succ i=>simpa using .cons h (ih t i)
def RepL.setStrip{Γ:Ghost}{xs:List AVal}{vs:List Value} (h:RepL Γ xs vs) (i:Nat):RepL Γ (xs.set i (xs.getD i .any).strip) vs:=by induction xs generalizing vs i with|nil=>grind|cons y xs ih=>cases h with|cons h t=>cases i with|zero=>simpa using .cons h.strip t|succ i=>simpa using .cons h (ih t i)
def ownL.get{Γ:Ghost}{w:World}{xs:List AVal}{vs:List Value} (h:ownL Γ w xs vs) (hl:xs.length=vs.length) (i:Nat) (d:Value):own Γ w (xs.getD i .any) (vs.getD i d):=by induction xs generalizing vs i with|nil=>simp[own]|cons x xs ih=>cases vs with|nil=>grind|cons v vs=>rw[ownL]at h;cases i with|zero=>grind|succ i=>simp_all
def ownL.set{Γ:Ghost}{w:World}{xs:List AVal}{vs:List Value} (h:ownL Γ w xs vs) (i:Nat){x:AVal}{v:Value} (hx:own Γ w x v):ownL Γ w (xs.set i x) (vs.set i v):=by induction xs generalizing vs i with|nil=>simp[ownL]|cons y xs ih=>cases vs with|nil=>cases i<;>simp[ownL]|cons u vs=>rw[ownL]at h;cases i with|zero=>grind[ownL]|succ i=>grind[ownL]
def ownL.setStrip{Γ:Ghost}{w:World}{xs:List AVal}{vs:List Value} (h:ownL Γ w xs vs) (i:Nat):ownL Γ w (xs.set i (xs.getD i .any).strip) vs:=by induction xs generalizing vs i with|nil=>grind|cons y xs ih=>cases vs with|nil=>cases i<;>simp[ownL]|cons u vs=>rw[ownL]at h;cases i with|zero=>simp only[ca,ownL];exact⟨La _ _ _ _,h.2⟩|succ i=>simp only[cF,ownL,cS];exact⟨h.1,ih h.2 i⟩
theorem HY (b:Nat) (xs:List AVal) (vs:List Value) (i:Nat) (x:AVal) (v:Value):AO b (xs.set i x) (vs.set i v)<=AO b xs vs+cnt b x v:=by induction xs generalizing vs i with|nil=>simp[AO]|cons y xs ih=>cases vs with|nil=>cases i<;>simp[AO]|cons u vs=>cases i with|zero=>grind[AO]|succ i=>grind[AO]
def MP (b:Nat) (xs:List AVal) (vs:List Value) (i:Nat) (d:Value) (hl:xs.length=vs.length):AO b (xs.set i (xs.getD i .any).strip) vs+cnt b (xs.getD i .any) (vs.getD i d)=AO b xs vs:=by induction xs generalizing vs i with|nil=>simp[AO,cnt]|cons y xs ih=>cases vs with|nil=>grind|cons u vs=>cases i with|zero=>simp only[ca,AO,dA,IE];omega|succ i=>simp only[cF,AO,cS];have:=ih vs i (by simpa using hl);omega
def Held (Γ:Ghost) (w:World) (b:Nat):Prop:=(∃cs,Γ.com b=some cs)\/(∃s p,w.heap[b]?=some (.stringIter s p))\/ ∃es clock,w.heap[b]?=some (.map es clock)
def AWE{Γ:Ghost}{w:World}{wd:Nat}{v:Value}{b:Nat} (h:KR Γ w wd v) (hc:1<=KT b v):b<w.heap.size/\Held Γ w b:=by
 unfold KT at hc;split at hc
 ·rename_i a len cap;split at hc;·rename_i hh;obtain⟨hlt,rfl⟩:=hh;obtain⟨arr,e,lo,hi,cells,h1,_,_,h2,_⟩:=h hlt;refine⟨?_,.inl ⟨cells,h2⟩⟩;grind
  omega
 omega
mutual theorem ApR{Γ:Ghost}{w:World}{b:Nat}:(x:AVal)->(v:Value)->own Γ w x v->1<=cnt b x v->b<w.heap.size/\Held Γ w b
 |.agg cs,v,h,k=>by
  cases v<;>simp only[own,cnt]at * <;>try omega
  exact Bl cs _ h k
 |.tuple cs,v,h,k=>by
  cases v<;>simp only[own,cnt]at * <;>try omega
  exact Bl cs _ h k
 |.slice wd xs o,v,h,k=>by
  cases o;·grind[cnt]
  ·simp only[own,cnt]at *;exact AWE h k
 |.any,_,_,k=>by grind[cnt]
 |.bool _,_,_,k=>by grind[cnt]
 |.int _ _,_,_,k=>by grind[cnt]
 |.str _,_,_,k=>by grind[cnt]
 |.ptr _ _,_,_,k=>by grind[cnt]
 |.nilp,_,_,k=>by grind[cnt]
 |.bsl _ _ _ _,_,_,k=>by grind[cnt]
 |.nself _ _ _,_,_,k=>by grind[cnt]
 |.buf _ _ o,v,h,k=>by
  cases o;·grind[cnt]
  ·simp only[own,cnt]at *;obtain⟨hc,o,ho⟩:=h.2 _ k;exact⟨(aH.1 ho).1,.inl hc⟩
 |.bufp _ _ o,v,h,k=>by
  cases o;·grind[cnt]
  ·simp only[own,cnt]at *;obtain⟨hc,o,ho⟩:=h _ k;exact⟨(aH.1 ho).1,.inl hc⟩
 |.cptr _,_,_,k=>by grind[cnt]
 |.fn _ _ _,_,_,k=>by grind[cnt]
 |.nilFn,_,_,k=>by grind[cnt]
 |.iface _ _,_,_,k=>by grind[cnt]
 |.nilIface,_,_,k=>by grind[cnt]
 |.sh _,_,_,k=>by grind[cnt]
 |.sptr _ _ _,_,_,k=>by grind[cnt]
 |.gsl _ _ _,_,_,k=>by grind[cnt]
 |.nmap,_,_,k=>by grind[cnt]
 |.num _,_,_,k=>by grind[cnt]
 |.nbuf _,_,_,k=>by grind[cnt]
 |.trow _ _ _,_,_,k=>by grind[cnt]
 |.vptr _ _ _ _,_,_,k=>by grind[cnt]
 | .vec wd xs,v,h,k=>by
  simp only[own,cnt]at *;rcases h with⟨_,rfl⟩|⟨b',off,cap,arr,e,lo,hi,rfl,h1,_,h3,_⟩;·simp[CG]at k
  ·have e':b'=b:=by
    simp only[CG]at k;split at k;·assumption
    ·omega
   subst e';exact⟨(aH.1 h1).1,.inl ⟨_,h3⟩⟩
 |.map ks vs,v,h,k=>by
  simp only[own,cnt]at *;obtain⟨b',es,clock,rfl,h1,h2⟩:=h;have e:b'=b:=by grind[OT]
  subst e;exact⟨(aH.1 h1).1,.inr (.inr ⟨_,_,h1⟩)⟩
 |.hset ks,v,h,k=>by
  simp only[own,cnt]at *;obtain⟨b',es,clock,rfl,h1,h2⟩:=h;have e:b'=b:=by grind[OT]
  subst e;exact⟨(aH.1 h1).1,.inr (.inr ⟨_,_,h1⟩)⟩
 | .slop wd xs,v,h,k=>by
  simp only[own,cnt]at *;unfold CG at k;split at k
  ·rename_i a len cap;split at k;·rename_i e;obtain⟨arr,e',lo,hi,cells,h1,_,_,h2,_⟩:=h;rw[e]at h1 h2;exact⟨(aH.1 h1).1,.inl ⟨_,h2⟩⟩
   omega
  omega
 |.iter s p,v,h,k=>by
  simp only[own,cnt]at *;obtain⟨b',sb,rfl,h1,h2⟩:=h;have e:b'=b:=by grind[Ql]
  subst e;exact⟨(aH.1 h2).1,.inr (.inl ⟨_,_,h2⟩)⟩ theorem Bl{Γ:Ghost}{w:World}{b:Nat}:(xs:List AVal)->(vs:List Value)->ownL Γ w xs vs->1<=AO b xs vs->b<w.heap.size/\Held Γ w b
 |[],_,_,k=>by grind[AO]
 |x::xs,[],_,k=>by grind[AO]
 |x::xs,v::vs,h,k=>by
  rw[ownL]at h;rw[AO]at k;rcases aS 0 (cnt b x v)with c|c;·exact ApR x v h.1 c
  ·exact Bl xs vs h.2 fx end
section
variable{E:Env}{F:Nat->Nat}{Γ:Ghost}{st:St}{w:World}{af:List AVal}{a:Act}
theorem Array.getD_toList' (xs:Array Value) (i:Nat) (d:Value):xs.getD i d=xs.toList.getD i d:=by simp[Array.getD,List.getD];split<;>simp_all
theorem Sim.rd (h:Sim E F Γ st w af a.tmps.toList) (t:TypeId) (x:Operand):Rep Γ (rd E af t x) (a.eval x):=by
 cases x with
 |tmp i=>simp only[VM.rd,Act.eval,Array.getD_toList'];exact h.rep.get i _
 |const v=>exact AVz _ _ _
 |global g=>
  simp only[VM.rd,Act.eval];split;·rename_i cs e;exact h.glob g cs e
  ·exact .any _
 |func f=>exact .fn .nil .nil
theorem Sim.rd_own (h:Sim E F Γ st w af a.tmps.toList) (t:TypeId) (x:Operand):VM.own Γ w (VM.rd E af t x) (a.eval x):=by cases x with|tmp i=>simp only[VM.rd,Act.eval,Array.getD_toList'];exact h.own.get h.rep.length i _|const v=>exact AUJ _ _ _ _|global g=>simp only[VM.rd];split<;>simp[VM.own]|func f=>simp[VM.rd,VM.own]
theorem Sim.rd_cnt (h:Sim E F Γ st w af a.tmps.toList) (t:TypeId) (x:Operand) (b:Nat):AO b (stripAt af x) a.tmps.toList+cnt b (VM.rd E af t x) (a.eval x)=AO b af a.tmps.toList:=by cases x with|tmp i=>simp only[VM.rd,Act.eval,stripAt,Array.getD_toList'];exact MP b _ _ i _ h.rep.length|const v=>grind[VM.rd,stripAt,Act.eval,ATo]|global g=>simp only[VM.rd,stripAt,fd];split<;>simp[cnt]|func f=>simp[VM.rd,stripAt,cnt]
theorem Sim.stripAt (h:Sim E F Γ st w af a.tmps.toList) (x:Operand):Sim E F Γ st w (stripAt af x) a.tmps.toList:=by
 refine {h with rep:=?_,own:=?_,tok:=?_};·cases x<;>first|exact h.rep|exact h.rep.setStrip _
 ·cases x<;>first|exact h.own|exact h.own.setStrip _
 ·intro b;have:=h.rd_cnt 0 x b;have:=h.tok b;omega
def Ab (af:List AVal) (dst:Option Tmp) (r:AVal):List AVal:=match dst with|some d=>af.set d r|none=>af
theorem Ve (a:Act) (d:Tmp) (v:Value):(a.put (some d) v).tmps.toList=a.tmps.toList.set d v:=by simp[Act.put]
theorem Sim.put (h:Sim E F Γ st w af a.tmps.toList) (dst:Option Tmp){r:AVal}{v:Value} (hr:Rep Γ r v) (ho:VM.own Γ w r v) (ht: ∀b,F b+AO b af a.tmps.toList+cnt b r v+Ah Γ w b st.m<=1):Sim E F Γ st w (Ab af dst r) (a.put dst v).tmps.toList:=by cases dst with|none=>exact h|some d=>rw[Ve];refine {h with rep:=h.rep.set d hr,own:=h.own.set d ho,tok:=?_};grind[HY,Ab]
theorem Sim.putStrip (h:Sim E F Γ st w af a.tmps.toList) (dst:Option Tmp){r:AVal}{v:Value} (hr:Rep Γ r v):Sim E F Γ st w (Ab af dst r.strip) (a.put dst v).tmps.toList:=h.put dst hr.strip (La _ _ _ _) (λb=>by rw[IE];exact h.tok b)
end
end Go.VM
set_option linter.unusedVariables false
namespace Go.VM
def AX:AVal->List AVal|.agg cs=>cs|x=>[x]
def Rep.slice_cells{Γ:Ghost}{w:Nat}{xs:List AVal}{o:Bool}{v:Value} (h:Rep Γ (.slice w xs o) v):v.cells= #[v]:=by cases h<;>rfl
theorem Rep.cells{Γ:Ghost}{x:AVal}{v:Value} (h:Rep Γ x v) (hw:(AX x).length=v.cells.size):RepL Γ (AX x) v.cells.toList:=by
 cases h with
 |any v=>simp only[AX,ag,ap,bJ]at hw;obtain⟨⟨l⟩⟩: ∃a:Array Value,a=v.cells:=⟨_,rfl⟩;generalize hc:v.cells=c at *;obtain⟨l⟩:=c;match l,hw with|[c],_=>exact .cons (.any _) .nil
 |agg h _=>exact h
 |iter s pos v=>simp only[AX,ag,ap,bJ]at hw;generalize v.cells=c at *;obtain⟨l⟩:=c;match l,hw with|[c],_=>exact .cons (.iter _ _ _) .nil
 |map ks vs v=>simp only[AX,ag,ap,bJ]at hw;generalize v.cells=c at *;obtain⟨l⟩:=c;match l,hw with|[c],_=>exact .cons (.map _ _ _) .nil
 |hset ks v=>simp only[AX,ag,ap,bJ]at hw;generalize v.cells=c at *;obtain⟨l⟩:=c;match l,hw with|[c],_=>exact .cons (.hset _ _) .nil
 |vec w xs v=>simp only[AX,ag,ap,bJ]at hw;generalize v.cells=c at *;obtain⟨l⟩:=c;match l,hw with|[c],_=>exact .cons (.vec _ _ _) .nil
 |sh h k=>rw[k.1];exact .cons (.sh h k) .nil
 |buf o h k=>rw[show v.cells= #[v]from h.slice_cells];exact .cons (.buf _ h k) .nil
 |_=>exact .cons (by constructor<;>assumption) .nil
def KV (op:BinOp) (k:IntKind) (a b:Int):Option AVal:=match op with|.add=>some (.int k (k.wrap (a+b)))|.sub=>some (.int k (k.wrap (a-b)))|.mul=>some (.int k (k.wrap (a * b)))|.quo=>if b=0 then none else some (.int k (k.wrap (a.tdiv b)))|.rem=>if b=0 then none else some (.int k (a.tmod b))|.and=>some (.int k (k.wrap (BitVec.ofInt k.bits a&&&BitVec.ofInt k.bits b).toNat))|.or=>some (.int k (k.wrap (BitVec.ofInt k.bits a|||BitVec.ofInt k.bits b).toNat))|.xor=>some (.int k (k.wrap (BitVec.ofInt k.bits a^^^BitVec.ofInt k.bits b).toNat))|.andNot=>some (.int k (k.wrap (BitVec.ofInt k.bits a&&& ~~~ BitVec.ofInt k.bits b).toNat))|.eql=>some (.bool (a==b))|.neq=>some (.bool (a !=b))|.lss=>some (.bool (decide (a<b)))|.leq=>some (.bool (decide (a<=b)))|.gtr=>some (.bool (decide (a>b)))|.geq=>some (.bool (decide (a>=b)))|_=>none
def AAQ (op:BinOp) (k:IntKind) (x y:Int):Option AVal:=if y<0 then none else match op with|.shl=>some (.int k (k.wrap (x * 2^min y.toNat k.bits)))|.shr=>some (.int k (x.fdiv (2^min y.toNat k.bits)))|_=>none
def Z8 (op:BinOp) (a b:B8):Option AVal:=match op with|.add=>if a.length+b.length<=Bg then some (.str (a++b))else none|.eql=>some (.bool (a==b))|.neq=>some (.bool (!(a==b)))|.lss=>some (.bool (Op.bytesLess a b))|.leq=>some (.bool (Op.bytesLess a b||a==b))|.gtr=>some (.bool (!(Op.bytesLess a b||a==b)))|.geq=>some (.bool (!(Op.bytesLess a b)))|_=>none
def AJn (op:BinOp) (a b:Bool):Option AVal:=match op with|.eql=>some (.bool (a==b))|.neq=>some (.bool (!(a==b)))|_=>none
def WZ (P:Program) (t:TypeId):Bool:=match P.underlying t with|some .bool=>true|_=>false
def eqA (P:Program):Nat->TypeId->AVal->AVal->Option Bool
  |0,_,_,_=>none
  | d + 1, t, x,y=>
    match P.underlying t,x,y with
    |some .bool,.bool a,.bool b=>some (a==b)
    |some (.int _),.int k a,.int k' b=>if k=k' then some (a==b)else none
    |some .string,.str a,.str b=>some (a==b)
    | some (.struct fs),.agg xs,.agg ys=>
      if P.stoodInHeld t then none else
      fs.toList.foldr (λf acc=>
        if f.name ≠ "_" then
          match P.underlying f.type with
          |some (.array _ _)=>none
          | some (.struct _)=>
            match(P.info? f.type).map (·.size)with
            | some z=>
              match eqA P d f.type (.agg ((xs.drop f.offset).take z)) (.agg ((ys.drop f.offset).take z)),acc with
              |some a,some b=>some (a&&b)
              |_,_=>none
            |none=>none
          | _=>
            match xs[f.offset]?,ys[f.offset]? with
            | some x,some y=>
              match eqA P d f.type x y,acc with
              |some a,some b=>some (a&&b)
              |_,_=>none
            |_,_=>none
        else acc) (some true)
    |_,_,_=>none
def SF (P:Program) (t:TypeId):Bool:=match P.underlying t with|some (.pointer e)=>(P.info? e).isSome|_=>false
def AD6:AVal->AVal->Option Bool|.nilp,.nilp=>some true|.nself _ _ _,.nilp=>some true|.nilp,.nself _ _ _=>some true|.ptr _ _,.nilp=>some false|.nilp,.ptr _ _=>some false|.ptr i o,.ptr j p=>if i=j/\o=p then some true else none|_,_=>none
def RG (op:BinOp) (g:Bool) (e:Option Bool):Option AVal:=match op,g,e with|.eql,true,some b=>some (.bool b)|.neq,true,some b=>some (.bool (!b))|_,_,_=>none
def ABG (P:Program) (t:TypeId):Bool:=match P.underlying t with|some (.func _ _ _)=>true|_=>false
def Yi (op:BinOp) (g b:Bool):Option AVal:=if g=true then(match op with|.eql=>some (.bool b)|.neq=>some (.bool (!b))|_=>none)else none
def En (E:Env) (op:BinOp) (t:TypeId) (x y:AVal):Option AVal:=match x,y with
 |.int k a,.int k' b=>match op with|.shl|.shr=>AAQ op k a b|_=>if k=k' then KV op k a b else none
 |.str a,.str b=>Z8 op a b
 |.bool a,.bool b=>if WZ E.P t then AJn op a b else none
 |.agg xs,.agg ys=>if E.P.eqGuardType E.P.depth t then none else match op,eqA E.P 10000 t (.agg xs) (.agg ys)with|.eql,some b=>some (.bool b)|.neq,some b=>some (.bool (!b))|_,_=>none
 |.fn _ _ _,.nilFn=>Yi op (ABG E.P t) false
 |.nilFn,.nilFn=>Yi op (ABG E.P t) true
 |.any,_=>none
 |x,y=>RG op (SF E.P t) (AD6 x y)
section
variable{E:Env}{Γ:Ghost}{w:World}
def O4{tp te:TypeId}{j:TypeInfo} (p q:Option Addr) (h:(p=none)\/(q=none)) (hp:E.P.underlying tp=some (.pointer te)) (hte:E.P.info? te=some j):(binOp .eql tp (.pointer p) (.pointer q)).run E.P w=.ok (.bool (decide (p=q))) w/\(binOp .neq tp (.pointer p) (.pointer q)).run E.P w=.ok (.bool (!decide (p=q))) w:=by
 have k: ∀d:Nat,(Op.equalIn (d+1) tp (.pointer p) (.pointer q)).run E.P w=.ok (decide (p=q)) w:=λd=>by
  rcases h with rfl|rfl;·cases q<;>simp[Op.equalIn,aE hp]
  ·cases p<;>simp[Op.equalIn,aE hp]
 constructor<;>(simp_all[binOp,Op.equal,Op.maxDepth])
def AOf{op:BinOp}{t:TypeId}{x y r:AVal}{vx vy:Value} (hx:Rep Γ x vx) (hy:Rep Γ y vy) (h:RG op (SF E.P t) (AD6 x y)=some r):(∃v,(binOp op t vx vy).run E.P w=.ok v w/\Rep Γ r v)/\∃p q,vx=.pointer p/\vy=.pointer q:=by
 unfold RG at h;have main: ∀b,SF E.P t=true->AD6 x y=some b->((binOp .eql t vx vy).run E.P w=.ok (.bool b) w/\(binOp .neq t vx vy).run E.P w=.ok (.bool (!b)) w)/\∃p q,vx=.pointer p/\vy=.pointer q:=by
  intro b hg hb;obtain⟨te,j,hp,hte⟩: ∃te j,E.P.underlying t=some (.pointer te)/\E.P.info? te=some j:=by grind[SF,Option.isSome_iff_exists]
  unfold AD6 at hb;split at hb;·cases hx;cases hy;cases hb;exact⟨by simpa using O4 (w:=w) none none (.inl rfl) hp hte,_,_,rfl,rfl⟩
  ·cases hx;cases hy;cases hb;exact⟨by simpa using O4 (w:=w) none none (.inl rfl) hp hte,_,_,rfl,rfl⟩
  ·cases hx;cases hy;cases hb;exact⟨by simpa using O4 (w:=w) none none (.inl rfl) hp hte,_,_,rfl,rfl⟩
  ·cases hx;cases hy;cases hb;exact⟨by simpa using O4 (w:=w) (some _) none (.inr rfl) hp hte,_,_,rfl,rfl⟩
  ·cases hx;cases hy;cases hb;exact⟨by simpa using O4 (w:=w) none (some _) (.inl rfl) hp hte,_,_,rfl,rfl⟩
  ·split at hb;·rename_i hij;obtain⟨rfl,rfl⟩:=hij;cases hb;cases hx with|ptr h1=>cases hy with|ptr h2=>rw[h1]at h2;cases h2;exact⟨⟨run_eql_ptr_same w _ hp hte,Go.Lib.run_neq_ptr_same w _ hp hte⟩,_,_,rfl,rfl⟩
   grind
  grind
 split at h;·rename_i b hg he;cases h;obtain⟨⟨k1,k2⟩,k3⟩:=main b hg he;exact⟨⟨_,k1,.bool _⟩,k3⟩
 ·rename_i b hg he;cases h;obtain⟨⟨k1,k2⟩,k3⟩:=main b hg he;exact⟨⟨_,k2,.bool _⟩,k3⟩
 grind
def AHD{t:TypeId}{op:BinOp}{k:IntKind}{a b:Int}{r:AVal} (h1:op≠ .shl) (h2:op≠ .shr) (h:KV op k a b=some r): ∃v,(binOp op t (.int k a) (.int k b)).run E.P w=.ok v w/\Rep Γ r v:=by
 cases op<;>simp only[KV,reduceCtorEq]at h h1 h2<;>first|(exact absurd rfl h1)|(exact absurd rfl h2)|(simp only[ae]at h;subst h;exact⟨_,by simp only[binOp,eN,cM,aA,Op.intArith,Op.intBits,Op.intCmp];exact bf ..,by constructor⟩)|
  (
   split at h;·cases h
   ·rename_i hb;simp only[ae]at h;subst h;exact⟨_,by simp only[binOp,eN,cM,aA,Op.intDiv,hb];exact bf ..,by constructor⟩)
def YW{t:TypeId}{op:BinOp}{k k':IntKind}{a b:Int}{r:AVal} (h0:op=.shl\/op=.shr) (h:AAQ op k a b=some r): ∃v,(binOp op t (.int k a) (.int k' b)).run E.P w=.ok v w/\Rep Γ r v:=by
 unfold AAQ at h;split at h;·cases h
 ·rename_i hb;rcases h0 with rfl|rfl<;>(simp only[ae]at h;subst h;exact⟨_,by simp only[binOp,Op.shift,hb,aA];exact bf ..,by constructor⟩)
def ALw{t:TypeId}{op:BinOp}{a b:ByteArray}{r:AVal} (h:Z8 op a.data.toList b.data.toList=some r): ∃v,(binOp op t (.string a) (.string b)).run E.P w=.ok v w/\Rep Γ r v:=by
 cases op<;>simp only[Z8,reduceCtorEq]at h;case add=>
  split at h
  ·rename_i hb;simp only[ae]at h;subst h;have hl: ¬((a.size+b.size:Nat):Int)>IntKind.i64.max:=by have e1:a.size=a.data.toList.length:=fy;have e2:b.size=b.data.toList.length:=fy;have e3:IntKind.i64.max=9223372036854775807:=fA;grind[Bg]
   refine⟨.string (a++b),by simp_all[binOp,Op.stringOp],?_⟩;have e:a.data.toList++b.data.toList=(a++b).data.toList:=fy;rw[e];exact .str _ (by grind)
  grind
 all_goals (simp only[ae]at h;subst h;exact⟨_,by simp only[binOp,Op.stringOp,ByteArray.toList_eq];exact bf ..,by constructor⟩)
def ABu{t:TypeId}{op:BinOp}{a b:Bool}{r:AVal} (ht:WZ E.P t=true) (h:AJn op a b=some r): ∃v,(binOp op t (.bool a) (.bool b)).run E.P w=.ok v w/\Rep Γ r v:=by
 have hu:E.P.underlying t=some .bool:=by unfold WZ at ht;split at ht<;>simp_all
 cases op<;>simp only[AJn,reduceCtorEq,ae]at h<;>subst h;·exact⟨_,run_eql_bool w t a b hu,.bool _⟩
 ·exact⟨_,run_neq_bool w t a b hu,.bool _⟩
def AVZ{d:Nat}{t:TypeId}{x y:AVal}{vx vy:Value}{b:Bool} (hs: ∀fs,E.P.underlying t≠some (.struct fs)) (hx:Rep Γ x vx) (hy:Rep Γ y vy) (h:eqA E.P d t x y=some b):(Op.equalIn d t vx vy).run E.P w=.ok b w:=by
 cases d with
 |zero=>simp[eqA]at h
 |succ d=>
  unfold eqA at h;split at h;·rename_i a b hu;cases hx;cases hy;grind[Option.some.injEq,run_equalIn_bool']
  ·rename_i k a k' b hu;cases hx;cases hy;grind[Option.some.injEq,run_equalIn_int]
  ·rename_i hu;cases hx;cases hy;grind[Option.some.injEq,run_equalIn_string,ByteArray.toList_eq]
  ·grind
  grind
def RepL.get?{Γ:Ghost}{xs:List AVal}{vs:List Value} (h:RepL Γ xs vs){i:Nat}{x:AVal} (hx:xs[i]?=some x): ∃v,vs[i]?=some v/\Rep Γ x v:=by induction xs generalizing vs i with|nil=>grind|cons y xs ih=>cases h with|cons h t=>cases i with|zero=>simp_all|succ i=>grind
def Uz{t:TypeId}{cs:Array Value}{off:Nat}{v:Value} (hs: ∀fs,E.P.underlying t≠some (.struct fs)) (ha: ∀n e,E.P.underlying t≠some (.array n e)) (hu:E.P.underlying t≠none) (hv:cs[off]?=some v):(part t cs off).run E.P w=.ok v w:=by
 cases hd:E.P.underlying t with
 |none=>grind
 |some d=>
  have:(isAgg t).run E.P w=.ok false w:=by cases d<;>first|exact absurd hd (hs _)|exact absurd hd (ha _ _)|simp[isAgg,aE hd]
  simp_all[part]
def RepL.dropP: ∀ {xs:List AVal}{vs:List Value} (n:Nat),RepL Γ xs vs->RepL Γ (xs.drop n) (vs.drop n)|_,_,0,h=>h|_,_,_+1,.nil=>.nil|_,_,n+1,.cons _ t=>RepL.dropP n t
def RepL.takeP: ∀ {xs:List AVal}{vs:List Value} (n:Nat),RepL Γ xs vs->RepL Γ (xs.take n) (vs.take n)|_,_,0,_=>.nil|_,_,_+1,.nil=>.nil|_,_,n+1,.cons h t=>.cons h (RepL.takeP n t)
def Sk{t:TypeId}{cs:Array Value}{off z:Nat}{fs:Array Field} (hs:E.P.underlying t=some (.struct fs)) (hz:(E.P.info? t).map (·.size)=some z):(part t cs off).run E.P w=.ok (.agg (cs.extract off (off+z))) w:=by
 have h1:(isAgg t).run E.P w=.ok true w:=by simp[isAgg,aE hs]
 have h2:(sizeOf t).run E.P w=.ok z w:=by obtain⟨i,hi,rfl⟩:=bQ.1 hz;simp[sizeOf,typeInfo,hi]
 simp_all[part]
theorem AAO{d:Nat} (IH: ∀ {t:TypeId}{xs ys:List AVal}{ax ay:Array Value}{b:Bool},RepL Γ xs ax.toList->RepL Γ ys ay.toList->eqA E.P d t (.agg xs) (.agg ys)=some b->(Op.equalIn d t (.agg ax) (.agg ay)).run E.P w=.ok b w){xs ys:List AVal}{ax ay:Array Value} (hx:RepL Γ xs ax.toList) (hy:RepL Γ ys ay.toList) (fs:List Field){b:Bool}
    (h:fs.foldr (λf acc=>
        if f.name ≠ "_" then
          match E.P.underlying f.type with
          |some (.array _ _)=>none
          | some (.struct _)=>
            match(E.P.info? f.type).map (·.size)with
            | some z=>
              match eqA E.P d f.type (.agg ((xs.drop f.offset).take z)) (.agg ((ys.drop f.offset).take z)),acc with
              |some a,some b=>some (a&&b)
              |_,_=>none
            |none=>none
          | _=>
            match xs[f.offset]?,ys[f.offset]? with
            | some x,some y=>
              match eqA E.P d f.type x y,acc with
              |some a,some b=>some (a&&b)
              |_,_=>none
            |_,_=>none
        else acc) (some true)=some b):(Op.eqFields d ax ay fs).run E.P w=.ok b w:=by
  induction fs generalizing b with
  |nil=>simp at h;simp_all[Op.eqFields]
  | cons f fs ih=>
    rw[List.foldr_cons]at h
    generalize hacc:List.foldr _ _ fs=acc at h
    rw[Op.eqFields]
    split at h
    . rename_i hn
      rw[aq hn]
      split at h
      . cases h
      . rename_i fs' hs
        split at h
        . rename_i z hz
          split at h
          . rename_i a b' ea
            simp only[ae]at h;subst h
            have p1:=Sk (E:=E) (w:=w) (cs:=ax) (off:=f.offset) hs hz
            have p2:=Sk (E:=E) (w:=w) (cs:=ay) (off:=f.offset) hs hz
            have e: ∀as:Array Value,(as.extract f.offset (f.offset+z)).toList=(as.toList.drop f.offset).take z:=λas=>by simp
            have p3:=IH (ax:=ax.extract f.offset (f.offset+z)) (ay:=ay.extract f.offset (f.offset+z)) (by rw[e];exact(hx.dropP _).takeP _) (by rw[e];exact(hy.dropP _).takeP _) ea
            have p4:=ih hacc
            simp only[aI,p1,p2,p3,aB]
            cases a
            . simp
            grind
          grind
        grind
      . rename_i h2 h1
        split at h
        . rename_i x y ex ey
          split at h
          . rename_i a b' ea
            simp only[ae]at h;subst h
            obtain⟨vx,e1,r1⟩:=hx.get? ex
            obtain⟨vy,e2,r2⟩:=hy.get? ey
            have hu:E.P.underlying f.type≠none:=by
              intro hu
              cases d with
              |zero=>simp[eqA]at ea
              |succ d=>simp[eqA,hu]at ea
            have p1:=Uz (E:=E) (w:=w) (λfs e=>h1 fs e) (λn e' e=>h2 n e' e) hu (by simpa using e1)
            have p2:=Uz (E:=E) (w:=w) (λfs e=>h1 fs e) (λn e' e=>h2 n e' e) hu (by simpa using e2)
            have p3:=AVZ (w:=w) (λfs e=>h1 fs e) r1 r2 ea
            have p4:=ih hacc
            simp only[aI,p1,p2,p3,aB]
            cases a
            . simp
            grind
          grind
        grind
    . rename_i hn
      rw[an hn]
      grind
def XZ: ∀ {d:Nat}{t:TypeId}{xs ys:List AVal}{ax ay:Array Value}{b:Bool} (hx:RepL Γ xs ax.toList) (hy:RepL Γ ys ay.toList) (h:eqA E.P d t (.agg xs) (.agg ys)=some b),(Op.equalIn d t (.agg ax) (.agg ay)).run E.P w=.ok b w:=by
 intro d;induction d with
 |zero=>simp_all[eqA]
 |succ d IH=>
  intro t xs ys ax ay b hx hy h;unfold eqA at h;split at h<;>try (rename_i e1 e2;cases e1;done)
  ·rename_i fs xs' ys' hu e1 e2;cases e1;cases e2;grind[Program.fieldsOf,run_equalIn_struct,AAO]
  grind
def Yg{op:BinOp}{t:TypeId}{ox oy:Operand}{b:Bool}{r:AVal}{vx:Value} (hv:((∃f p q,vx=.func f p q)/\b=false)\/(vx=.nilFunc/\b=true)) (h:Yi op (ABG E.P t) b=some r):∃v,(do eqGuard op t ox oy vx .nilFunc;binOp op t vx .nilFunc:Sem Value).run E.P w=.ok v w/\Rep Γ r v:=by
 unfold Yi at h;split at h
 ·rename_i hg;obtain⟨x1,x2,x3,hu⟩: ∃x1 x2 x3,E.P.underlying t=some (.func x1 x2 x3):=by grind[ABG]
  have hq:(eqGuard op t ox oy vx .nilFunc).run E.P w=.ok () w:=by rcases hv with⟨⟨f,p,q,rfl⟩,_⟩|⟨rfl,_⟩<;>cases op<;>simp[eqGuard]
  have hk: ∀d:Nat,(Op.equalIn (d+1) t vx .nilFunc).run E.P w=.ok b w:=λd=>by rcases hv with⟨⟨f,p,q,rfl⟩,rfl⟩|⟨rfl,rfl⟩<;>simp[Op.equalIn,aE hu]
  simp only[aI,hq,aB];split at h;·simp only[ae]at h;subst h;exact⟨.bool b,by simp_all[binOp,Op.equal,Op.maxDepth],.bool _⟩
  ·simp only[ae]at h;subst h;exact⟨.bool (!b),by simp_all[binOp,Op.equal,Op.maxDepth],.bool _⟩
  grind
 grind
def AVM{op:BinOp}{t:TypeId}{ox oy:Operand}{x y r:AVal}{vx vy:Value} (hx:Rep Γ x vx) (hy:Rep Γ y vy) (h:En E op t x y=some r):∃v,(do eqGuard op t ox oy vx vy;binOp op t vx vy:Sem Value).run E.P w=.ok v w/\Rep Γ r v:=by
 unfold En at h;split at h
 ·rename_i k a k' b;cases hx;cases hy;have hg:(eqGuard op t ox oy (.int k a) (.int k' b)).run E.P w=.ok () w:=by cases op<;>simp[eqGuard]
  simp only[aI,hg,aB];split at h;·exact YW (.inl rfl) h
  ·exact YW (.inr rfl) h
  ·rename_i h1 h2;split at h;·rename_i e;subst e;exact AHD h1 h2 h
   grind
 ·rename_i a b;cases hx;cases hy;rename_i a _ b _;have hg:(eqGuard op t ox oy (.string a) (.string b)).run E.P w=.ok () w:=by cases op<;>simp[eqGuard]
  simp only[aI,hg,aB];exact ALw h
 ·rename_i a b;cases hx;cases hy;have hg:(eqGuard op t ox oy (.bool a) (.bool b)).run E.P w=.ok () w:=by cases op<;>simp[eqGuard]
  simp only[aI,hg,aB];split at h;·rename_i ht;exact ABu ht h
  grind
 ·rename_i xs ys;cases hx with
  | agg hx _=>
   cases hy with
   | agg hy _=>
    rename_i ax _ ay _;split at h;·cases h
    ·rename_i hm;have hg:=run_eqGuard_agg w op t ox oy ax ay (by simpa using hm);simp only[aI,hg,aB];split at h;·rename_i b hb;simp only[ae]at h;subst h;refine⟨.bool b,?_,.bool _⟩;rw[run_eql_struct,XZ hx hy hb];rfl
     ·rename_i b hb;simp only[ae]at h;subst h;refine⟨.bool (!b),?_,.bool _⟩;rw[run_neq_struct,XZ hx hy hb];rfl
     grind
 ·cases hx;cases hy;exact Yg (.inl ⟨⟨_,_,_,rfl⟩,rfl⟩) h
 ·cases hx;cases hy;exact Yg (.inr ⟨rfl,rfl⟩) h
 ·cases h
 ·rename_i h1 h2 h3 h4 h5;obtain⟨⟨v,k1,k2⟩,p,q,rfl,rfl⟩:=AOf (w:=w) hx hy h;simp_all[eqGuard]
end
end Go.VM
set_option linter.unusedVariables false
namespace Go.VM
def BC (P:Program) (t:TypeId):Bool:=match P.underlying t with|some (.struct _)|some (.array _ _)=>true|_=>false
def Ae (P:Program) (t:TypeId):Bool:=(P.underlying t).isSome
def BK (P:Program) (t:TypeId):Option Nat:=(P.info? t).map (·.size)
def AR (P:Program) (s:TypeId) (f:Nat):Option (Nat×Nat×Bool):=
  match P.underlying s with
  | some (.struct fs)=>
    match fs[f]? with
    | some fl=>
      match BK P fl.type with
      |some z=>if Ae P fl.type&&z≠0 then some (fl.offset,z,BC P fl.type)else none
      |none=>none
    |none=>none
  |_=>none
def Bj (P:Program) (t:TypeId):Option Nat:=match P.underlying t with|some (.slice e)=>BK P e|_=>none
def Mh (P:Program) (t:TypeId):Option (Nat×Nat×Bool):=match P.underlying t with|some (.array n e)=>if Ae P e then(BK P e).map λz=>(n,z,BC P e)else none|_=>none
def C9 (P:Program) (t:TypeId):Bool:=match P.underlying t with|some .string=>true|_=>false
def BP (P:Program) (t:TypeId):Bool:=match P.underlying t with|some (.slice _)=>true|_=>false
def Hl (P:Program) (t:TypeId):Option IntKind:=match P.underlying t with|some (.int k)=>some k|_=>none
def unA (op:UnOp) (x:AVal):Option AVal:=match op,x with|.neg,.int k n=>some (.int k (k.wrap (0-n)))|.xor,.int k n=>some (.int k (k.wrap (BitVec.ofInt k.bits (if k.signed then-1 else k.max)^^^BitVec.ofInt k.bits n).toNat))|.not,.bool b=>some (.bool !b)|_,_=>none
def AYI (E:Env) (s d:TypeId) (x:AVal):Option AVal:=match x with
 |.int _ n=>if Ae E.P s then(match Hl E.P d with|some k=>some (.int k (k.wrap n))|none=>none)else none
 |.str l=>if Ae E.P s&&C9 E.P d then some (.str l)else none
 |_=>none
def FX (n:Int):UInt8:=UInt8.ofNat n.toNat
def AJ (b:UInt8):Int:=b.toNat
def bytesOf:List AVal->Option B8|[]=>some []|.int .u8 n::xs=>(bytesOf xs).map (FX n:: ·)|_=>none
def u8T (P:Program) (t:TypeId):Bool:=match P.underlying t with|some (.slice e)=>(match P.underlying e with|some (.int .u8)=>true|_=>false)|_=>false
def strOf (g:Bool) (x:Option B8):Option AVal:=match g,x with|true,some l=>some (.str l)|_,_=>none
def H6 (n:Int):B8:=(Utf8.encode n).data.toList
def Ro (E:Env) (s d:TypeId) (x:AVal):Option AVal:=match x with|.slice _ xs _=>strOf (u8T E.P s&&C9 E.P d) (bytesOf xs)|.int k n=>if(Ae E.P s&&C9 E.P d)=true then some (.str (H6 n))else AYI E s d (.int k n)|x=>AYI E s d x
def OE (E:Env) (s:TypeId) (x:AVal) (f:Nat):Option AVal:=match AR E.P s f with
 |some (off,_,_)=>match x with|.ptr i o=>some (.ptr i (o+off))|.cptr cs=>some (.cptr (cs.drop off))|.vptr i w n k=>some (.vptr i w n (k+off))|_=>none
 |none=>none
def Uv (cs:List AVal) (off z:Nat) (agg:Bool):Option AVal:=if agg then(if off+z<=cs.length then some (.agg ((cs.drop off).take z))else none)else cs[off]?
def VB (E:Env) (s:TypeId) (x:AVal) (f:Nat):Option AVal:=match AR E.P s f,x with|some (off,z,g),.agg cs=>Uv cs off z g|_,_=>none
def Cx (E:Env) (t:TypeId) (x i:AVal):Option AVal:=match x,i with
 |.slice w xs _,.int _ n=>if Bj E.P t=some w/\0<=n then match xs[n.toNat]? with|some y=>if(AX y).length=w then some (.cptr (AX y))else none|none=>none else none
 |.bsl w i off len,.int _ n=>if Bj E.P t=some w/\0<=n/\n<len then some (.ptr i (off+n.toNat * w))else none
 |.gsl w i len,.int _ n=>if Bj E.P t=some w/\0<=n/\n<len then some (.ptr i (n.toNat * w))else none
 |.ptr j o,.int _ n=>match Mh E.P t with|some (len,z,_)=>if 0<=n/\n<len then some (.ptr j (o+n.toNat * z))else none|none=>none
 |.cptr cs,.int _ n=>match Mh E.P t with|some (len,z,_)=>if 0<=n/\n<len then some (.cptr (cs.drop (n.toNat * z)))else none|none=>none
 |_,_=>none
def Ta (E:Env) (t:TypeId) (x i:AVal):Option AVal:=match x,i with
 |.str s,.int _ n=>if C9 E.P t/\0<=n then match s[n.toNat]? with|some b=>some (.int .u8 b.toNat)|none=>none else none
 |.agg cs,.int _ n=>match Mh E.P t with|some (len,z,g)=>if 0<=n/\n<len then Uv cs (n.toNat * z) z g else none|none=>none
 |_,_=>none
def rdo (E:Env) (af:List AVal):Option Operand->Option (Option Int)|none=>some none|some x=>match rd E af 0 x with|.int _ n=>some (some n)|_=>none
def FW (E:Env) (t:TypeId) (x:AVal) (lo hi mx:Option Int):Option AVal:=
  match x with
  | .str s=>
    let h:=hi.getD s.length
    let l:=lo.getD 0
    if C9 E.P t/\mx=none/\0<=l/\l<=h/\h<=s.length then some (.str ((s.drop l.toNat).take (h.toNat-l.toNat)))else none
  | .slice w xs _=>
    let h:=hi.getD xs.length
    let l:=lo.getD 0
    if Bj E.P t=some w/\(mx=none\/(mx=some h/\hi≠none))/\0<=l/\l<=h/\h<=xs.length then some (.slice w ((xs.drop l.toNat).take (h.toNat-l.toNat)) mx.isSome)else none
  | .bsl w i off len=>
    let h:=hi.getD len
    let l:=lo.getD 0
    if Bj E.P t=some w/\mx=none/\0<=l/\l<=h/\h<=len then some (.bsl w i (off+l.toNat * w) (h.toNat-l.toNat))else none
  | .gsl w i len=>
    let h:=hi.getD len
    if Bj E.P t=some w/\mx=none/\lo=none/\0<=h/\h<=len then some (.gsl w i h.toNat)else none
  | .trow T i len=>
    let h:=hi.getD len
    if Bj E.P t=some 1/\mx=none/\lo=none/\0<=h/\h<=len then some (.trow T i h.toNat)else none
  | .ptr i off=>
    match Mh E.P t with
    | some (len,z,_)=>
      let h:=hi.getD len
      let l:=lo.getD 0
      if mx=none/\0<=l/\l<=h/\h<=len/\len<=Bg then some (.bsl z i (off+l.toNat * z) (h.toNat-l.toNat))else none
    |none=>none
  |_=>none
def RZ (E:Env) (t:TypeId) (x:AVal):Option AVal:=match x with|.str s=>if C9 E.P t then some (.int .i64 s.length)else none|.slice _ xs _=>if BP E.P t then some (.int .i64 xs.length)else none|.bsl _ _ _ len=>if BP E.P t then some (.int .i64 len)else none|.gsl _ _ len=>if BP E.P t then some (.int .i64 len)else none|.nbuf _=>if BP E.P t then some (.int .i64 0)else none|.buf _ l _=>if BP E.P t then some (.int .i64 l.length)else none|_=>none
def AbI (x y:AVal):Option AVal:=match x,y with|.int k a,.int _ b=>some (.int k (if b<a then b else a))|_,_=>none
def Adp (x y:AVal):Option AVal:=match x,y with|.int k a,.int _ b=>some (.int k (if b>a then b else a))|_,_=>none
def AgZ (E:Env) (t:TypeId) (x:AVal):Option AVal:=match x with|.nbuf _=>if BP E.P t then some (.int .i64 0)else none|_=>none
def AX6 (E:Env) (t:TypeId) (x y:AVal):Option AVal:=match x,y with|.trow _ _ 0,.nbuf _=>if Bj E.P t=some 1 then some (.int .i64 0)else none|_,_=>none
def NC (x:AVal):Option AVal:=match x with|.ptr i o=>some (.ptr i o)|.cptr cs=>some (.cptr cs)|.fn (.func f) p q=>some (.fn (.func f) p q)|_=>none
def DX (E:Env) (o:Oper) (af:List AVal):Option AVal:=match o.op with
 |.pick c x y=>match rd E af 0 c with|.bool t=>some (if t then rd E af o.type x else rd E af o.type y)|_=>none
 |.nilCheck x=>NC (rd E af 0 x)
 |.binOp op t x y _=>En E op t (rd E af t x) (rd E af t y)
 |.unOp op _ x=>unA op (rd E af 0 x)
 |.convert s d x=>Ro E s d (rd E af s x)
 |.makeFunc f p q=>some (.fn f (p.toList.map (rd E af 0)) (q.toList.map (rd E af 0)))
 |.fieldAddr s x f=>OE E s (rd E af 0 x) f
 |.field s x f=>VB E s (rd E af s x) f
 |.indexAddr t x i=>Cx E t (rd E af t x) (rd E af 0 i)
 |.index t x i=>Ta E t (rd E af t x) (rd E af 0 i)
 |.call {callee:=.builtin .len,args:=⟨[x]⟩,argTypes:=⟨t::_⟩}=>RZ E t (rd E af t x)
 |.call {callee:=.builtin .min,args:=⟨[x,y]⟩,argTypes:=_}=>AbI (rd E af 0 x) (rd E af 0 y)
 |.call {callee:=.builtin .max,args:=⟨[x,y]⟩,argTypes:=_}=>Adp (rd E af 0 x) (rd E af 0 y)
 |.call {callee:=.builtin .cap,args:=⟨[x]⟩,argTypes:=⟨t::_⟩}=>AgZ E t (rd E af t x)
 |.call {callee:=.builtin .copy,args:=⟨[x,y]⟩,argTypes:=⟨[t,s]⟩}=>AX6 E t (rd E af t x) (rd E af s y)
 |_=>none
section
variable{E:Env}{Γ:Ghost}{w:World}
theorem CO{P:Program}{t:TypeId} (h:C9 P t=true):P.underlying t=some .string:=by unfold C9 at h;split at h<;>simp_all
def XF{P:Program}{t:TypeId}{k:IntKind} (h:Hl P t=some k):P.underlying t=some (.int k):=by unfold Hl at h;split at h<;>simp_all
def Ck{P:Program}{t:TypeId} (h:Ae P t=true): ∃d,P.underlying t=some d:=cr.1 h
def Bf{P:Program}{t:TypeId}{z:Nat} (h:Bj P t=some z): ∃e,P.underlying t=some (.slice e)/\BK P e=some z:=by grind[Bj]
def Cw{t:TypeId}{z:Nat} (h:BK E.P t=some z):(sizeOf t).run E.P w=.ok z w:=by unfold BK at h;cases hi:E.P.info? t with|none=>grind|some i=>simp_all[sizeOf,typeInfo]
theorem QF{t:TypeId} (h:Ae E.P t=true):(isAgg t).run E.P w=.ok (BC E.P t) w:=by obtain⟨d,hd⟩:=Ck h;unfold BC;rw[hd];cases d<;>simp[isAgg,aE hd]
def YQ{P:Program}{s:TypeId}{f off z:Nat}{g:Bool} (h:AR P s f=some (off,z,g)):∃fs fl,P.underlying s=some (.struct fs)/\fs[f]?=some fl/\fl.offset=off/\BK P fl.type=some z/\z≠0/\Ae P fl.type=true/\BC P fl.type=g:=by
 unfold AR at h;split at h
 ·rename_i fs hu;split at h
  ·rename_i fl hf;split at h
   ·rename_i z' hz;split at h;·rename_i hk;simp only[ae,az]at h;obtain⟨rfl,rfl,rfl⟩:=h;simp only[av,aw]at hk;exact⟨fs,fl,hu,hf,rfl,hz,hk.2,hk.1,rfl⟩
    ·cases h
   grind
  grind
 grind
def Qo{P:Program}{t:TypeId}{n z:Nat}{g:Bool} (h:Mh P t=some (n,z,g)): ∃e,P.underlying t=some (.array n e)/\BK P e=some z/\Ae P e=true/\BC P e=g:=by
 unfold Mh at h;split at h
 ·rename_i n' e hu;split at h;·rename_i hk;cases hz:BK P e with|none=>grind|some z'=>simp_all
  grind
 grind
theorem addr_add (b off n:Nat):(⟨b,off,none⟩:Addr).add n=⟨b,off+n,none⟩:=by grind[Addr.add]
def AZt{op:UnOp}{x r:AVal}{v:Value} (hx:Rep Γ x v) (h:unA op x=some r): ∃u,(Op.unary op v).run E.P w=.ok u w/\Rep Γ r u:=by unfold unA at h;split at h<;>first|cases h;done|(cases hx;simp only[ae]at h;subst h;exact⟨_,by simp only[Op.unary,Op.intArith,Op.intBits];exact bf ..,by constructor⟩)
def Yk{s d:TypeId}{x r:AVal}{v:Value} (hx:Rep Γ x v) (h:AYI E s d x=some r): ∃u,(convert s d v).run E.P w=.ok u w/\Rep Γ r u:=by
 unfold AYI at h;split at h
 ·rename_i k0 n0;cases hx;split at h
  ·rename_i hk;obtain⟨ds,hs⟩:=Ck hk;split at h;·rename_i k hd;simp only[ae]at h;subst h;exact⟨.int k (k.wrap n0),by simp[convert,aE hs,aE (XF hd),Conv.intToInt],.int _ _⟩
   grind
  grind
 ·cases hx;split at h;·rename_i hk;simp only[av]at hk;obtain⟨ds,hs⟩:=Ck hk.1;simp only[ae]at h;subst h;rename_i l _;exact⟨.string l,by simp[convert,aE hs,aE (CO hk.2)],.str _ fx⟩
  grind
 grind
def RepL.drop{Γ:Ghost}{xs:List AVal}{vs:List Value} (h:RepL Γ xs vs) (n:Nat):RepL Γ (xs.drop n) (vs.drop n):=by induction n generalizing xs vs with|zero=>grind|succ n ih=>cases h with|nil=>simpa using RepL.nil|cons h t=>grind
def RepL.take{Γ:Ghost}{xs:List AVal}{vs:List Value} (h:RepL Γ xs vs) (n:Nat):RepL Γ (xs.take n) (vs.take n):=by induction n generalizing xs vs with|zero=>simpa using RepL.nil|succ n ih=>cases h with|nil=>simpa using RepL.nil|cons h t=>simpa using .cons h (ih t)
def ADR{cs:List AVal}{b off n:Nat} (h:Rep Γ (.cptr cs) (.pointer (some ⟨b,off,none⟩))):Rep Γ (.cptr (cs.drop n)) (.pointer (some ⟨b,off+n,none⟩)):=by cases h with|cptr hb hd h ho=>rename_i cells vs rest;refine .cptr (vs:=vs.drop n) (rest:=rest.drop (n-vs.length)) hb ?_ (h.drop n) (λv hv=>ho v (cL hv));rw[<-aY,hd,co]
def Xw{s:TypeId}{x r:AVal}{v:Value}{f:Nat} (hx:Rep Γ x v) (h:OE E s x f=some r): ∃u,(Instr.fieldAt s v f).run E.P w=.ok u w/\Rep Γ r u:=by
 unfold OE at h;split at h
 ·rename_i off z g hf;obtain⟨fs,fl,h1,h2,h3,h4,h5,h6,h7⟩:=YQ hf;have key: ∀b o,(Instr.fieldAt s (.pointer (some ⟨b,o,none⟩)) f).run E.P w=.ok (.pointer (some ⟨b,o+off,none⟩)) w:=by intro b o;simp[Instr.fieldAt,aE h1,h2,Instr.sureAddr,fieldPlace,Cw h4,h5,addr_add,h3]
  split at h;·cases hx;simp only[ae]at h;subst h;exact⟨_,key _ _,.ptr fx⟩
  ·cases hx;simp only[ae]at h;subst h;exact⟨_,key _ _,ADR (.cptr fx fx fx fx)⟩
  ·simp only[ae]at h;subst h;cases hx with|vptr hsx=>refine⟨_,key _ _,?_⟩;rw[cE,cE];exact .vptr hsx
  grind
 grind
def Yy{t:TypeId}{cs:List AVal}{arr:Array Value}{off z:Nat}{g:Bool}{r:AVal} (hk:Ae E.P t=true) (hg:BC E.P t=g) (hz:BK E.P t=some z) (hx:RepL Γ cs arr.toList) (ho: ∀v,v∈arr.toList->v.oneCell'=true) (h:Uv cs off z g=some r): ∃u,(part t arr off).run E.P w=.ok u w/\Rep Γ r u:=by
 unfold Uv at h;have ha:(isAgg t).run E.P w=.ok g w:=by grind[QF]
 cases g with
 | true=>
  simp only[aD]at h;split at h
  ·simp only[ae]at h;subst h;have e:(arr.extract off (off+z)).toList=(arr.toList.drop off).take z:=by simp
   refine⟨.agg (arr.extract off (off+z)),by simp[part,ha,Cw hz],.agg ?_ ?_⟩;·rw[e];exact(hx.drop _).take _
   grind
  grind
 |false=>simp only[aj,aA]at h;obtain⟨v,hv,hr⟩:=hx.get? h;simp_all[part]
def AGE{s:TypeId}{x r:AVal}{v:Value}{f:Nat} (hx:Rep Γ x v) (h:VB E s x f=some r): ∃u,(Instr.field s v f).run E.P w=.ok u w/\Rep Γ r u:=by
 unfold VB at h;split at h;·rename_i off z g cs hf;obtain⟨fs,fl,h1,h2,h3,h4,h5,h6,h7⟩:=YQ hf;cases hx with|agg hx ho=>rename_i arr;obtain⟨u,hu,hr⟩:=Yy (w:=w) h6 h7 h4 hx ho h;exact⟨u,by simp[Instr.field,aE h1,h2,asAgg,h3,hu],hr⟩
 grind
def RepS.get{Γ:Ghost}{wd:Nat}{xs:List AVal}{cs:List Value} (h:RepS Γ wd xs cs){i:Nat}{y:AVal} (hy:xs[i]?=some y): ∃v rest,cs.drop (i * wd)=v.cells.toList++rest/\Rep Γ y v/\v.cells.size=wd/\∀c,c∈v.cells.toList->c.oneCell'=true:=by induction xs generalizing cs i with|nil=>grind|cons x xs ih=>cases h with|cons h hw t=>rename_i v cs;cases i with|zero=>simp at hy;subst hy;exact⟨v,cs,fy,h,hw⟩|succ i=>obtain⟨u,rest,e1,e2,e3⟩:=ih t (by simpa using hy);refine⟨u,rest,?_,e2,e3⟩;rw[<-e1,bB,eo,<-aY,fe (by grind)]
def RepS.drop{Γ:Ghost}{wd:Nat}{xs:List AVal}{cs:List Value} (h:RepS Γ wd xs cs) (n:Nat):RepS Γ wd (xs.drop n) (cs.drop (n * wd)):=by
 induction n generalizing xs cs with
 |zero=>grind
 | succ n ih=>
  cases h with
  |nil=>simpa using RepS.nil _ _
  |cons h hw t=>
   rename_i x u xs cs';have e:(u.cells.toList++cs').drop ((n+1) * wd)=cs'.drop (n * wd):=by rw[bB,eo,<-aY,fe (by grind)]
   grind
def RepS.take{Γ:Ghost}{wd:Nat}{xs:List AVal}{cs:List Value} (h:RepS Γ wd xs cs) (n:Nat):RepS Γ wd (xs.take n) cs:=by induction n generalizing xs cs with|zero=>simpa using RepS.nil _ _|succ n ih=>cases h with|nil=>simpa using RepS.nil _ _|cons h hw t=>exact .cons h hw (ih t)
def RepS.len{Γ:Ghost}{wd:Nat}{xs:List AVal}{cs:List Value} (h:RepS Γ wd xs cs):xs.length * wd<=cs.length:=by induction xs generalizing cs with|nil=>simp|cons x xs ih=>cases h with|cons h hw t=>grind[List.length_cons,List.length_append,Array.length_toList,Nat.succ_mul]
def U8{t e:TypeId}{len z b o:Nat}{k:IntKind}{n:Int} (hu:E.P.underlying t=some (.array len e)) (hz:BK E.P e=some z) (h1:0<=n) (h2:n<len):(Instr.indexAt t (.pointer (some ⟨b,o,none⟩)) (.int k n)).run E.P w=.ok (.pointer (some ⟨b,o+n.toNat * z,none⟩)) w:=by simp[Instr.indexAt,asIntOf,aE hu,Instr.sureAddr,h1,h2,Cw hz,addr_add]
def X0 {t:TypeId}{x i r:AVal}{v vi:Value} (hx:Rep Γ x v) (hi:Rep Γ i vi) (h:Cx E t x i=some r): ∃u,(Instr.indexAt t v vi).run E.P w=.ok u w/\Rep Γ r u:=by
 unfold Cx at h;split at h
 ·rename_i wd xs o k n;cases hi;split at h
  ·rename_i hc;obtain⟨hs,hn⟩:=hc;obtain⟨e,hu,hz⟩:=Bf hs;split at h
   ·rename_i y hy;split at h
    ·rename_i hl;simp only[ae]at h;subst h;cases hx with
     |snil=>grind
     |slice _ hb hlen hcap hS hnn=>
      rename_i b off len cap cells;have hlt:n.toNat<len:=by grind
      obtain⟨u,rest,e1,e2,e3⟩:=hS.get hy;refine⟨.pointer (some ⟨b,off+n.toNat * wd,none⟩),?_,?_⟩;·have h2:n<(len:Int):=fx;simp[Instr.indexAt,asIntOf,aE hu,hn,h2,Cw hz,addr_add]
      ·refine .cptr hb (by rw[<-aY];omega) (e2.cells fx) e3.2
    grind
   grind
  grind
 ·rename_i wd j off len k n;cases hi;cases hx with
  |bsl hbx ho hcap=>
   rename_i off' b cap;split at h;·rename_i hc;obtain⟨hs,h0,h1⟩:=hc;obtain⟨e,hu,hz⟩:=Bf hs;simp only[ae]at h;subst h;have ho':off'=off:=fx;subst ho';refine⟨.pointer (some ⟨b,off'+n.toNat * wd,none⟩),?_,.ptr hbx⟩;simp[Instr.indexAt,asIntOf,aE hu,h0,h1,Cw hz,addr_add]
   grind
 ·rename_i wd j len k n;cases hi;cases hx with
  |gsl hbx ht hcap hcz=>
   rename_i b cap sz T;split at h;·rename_i hc;obtain⟨hs,h0,h1⟩:=hc;obtain⟨e,hu,hz⟩:=Bf hs;simp only[ae]at h;subst h;refine⟨.pointer (some ⟨b,0+n.toNat * wd,none⟩),?_,by rw[bJ];exact .ptr hbx⟩;simp[Instr.indexAt,asIntOf,aE hu,h0,h1,Cw hz,addr_add]
   grind
 ·rename_i j o k n;cases hi;cases hx;split at h
  ·rename_i b hbx _ len z g ha;obtain⟨e,hu,hz,_,_⟩:=Qo ha;split at h;·rename_i hc;simp only[ae]at h;subst h;exact⟨_,U8 hu hz hc.1 hc.2,.ptr hbx⟩
   grind
  grind
 ·rename_i cs k n;cases hi;split at h
  ·rename_i len z g ha;obtain⟨e,hu,hz,_,_⟩:=Qo ha;split at h;·rename_i hc;simp only[ae]at h;subst h;have hx':=hx;cases hx with|cptr hb hd hR=>exact⟨_,U8 hu hz hc.1 hc.2,ADR hx'⟩
   grind
  grind
 grind
def Acj (s:ByteArray) (i:Nat):s[i]?=s.data.toList[i]?:=by
 by_cases h:i<s.size
 ·rw[ByteArray.getElem?_lt' s i h];have:i<s.data.toList.length:=by simp_all
  rw[aQ this];rfl
 simp_all
def AHk{t:TypeId}{x i r:AVal}{v vi:Value} (hx:Rep Γ x v) (hi:Rep Γ i vi) (h:Ta E t x i=some r): ∃u,(Instr.index t v vi).run E.P w=.ok u w/\Rep Γ r u:=by
 unfold Ta at h;split at h
 ·cases hi;cases hx with
  |str s hsn=>
   split at h
   ·rename_i k n hc;split at h
    ·rename_i b hb;simp only[ae]at h;subst h;have hb':s.data[n.toNat]?=some b:=by grind
     exact⟨.int .u8 b.toNat,by simp[Instr.index,asIntOf,aE (CO hc.1),hc.2,Acj,hb'],.int _ _⟩
    grind
   grind
 ·cases hi;cases hx with
  |agg hx ho=>
   split at h
   ·rename_i k n len z g ha;obtain⟨e,hu,hz,hk,hg⟩:=Qo ha;split at h;·rename_i hc;obtain⟨u,hr,hR⟩:=Yy (w:=w) hk hg hz hx ho h;exact⟨u,by simp[Instr.index,asIntOf,aE hu,hc.1,hc.2,Cw hz,hr],hR⟩
    grind
   grind
 grind
def Pq{F:Nat->Nat}{st:St}{af:List AVal}{a:Act} (hs:Sim E F Γ st w af a.tmps.toList){x:Option Operand}{y:Option Int} (h:rdo E af x=some y):∃k,x.map a.eval=y.map (λn=>Value.int k n):=by
 unfold rdo at h;split at h;·simp only[ae]at h;subst h;simp
 ·rename_i o;have hr:=hs.rd 0 o;split at h;·rename_i k n e;simp only[ae]at h;subst h;rw[e]at hr;cases hr':a.eval o<;>rw[hr']at hr<;>cases hr;grind
  grind
def H7{isSlice:Bool}{len cap:Nat}{kl kh km:IntKind}{lo hi mx:Option Int}{l h m:Int} (el:lo.getD 0=l) (eh:hi.getD len=h) (em:mx.getD cap=m) (h0:0<=l) (h1:l<=h) (h2:h<=m) (h3:m<=cap) (hm:mx.isSome=true->hi.isSome=true):(Instr.sliceBounds isSlice len cap (lo.map λn=>Value.int kl n) (hi.map λn=>Value.int kh n) (mx.map λn=>Value.int km n)).run E.P w=.ok (l.toNat,h.toNat,m.toNat) w:=by
 cases lo<;>cases hi<;>cases mx<;>simp only[cc,du,dF,cb,forall_const,aj]at el eh em hm;all_goals subst el;subst eh;subst em
 all_goals (try simp only[bF]at *)
 all_goals simp only[Instr.sliceBounds,bR,aK,aI,bf,aB,dF,cb,aD,aj,aA]
 all_goals (try simp only[run_sliceBound_if])
 all_goals (try rw[aq ⟨fx,fx⟩])
 all_goals grind[Result.andThen_ok]
 all_goals (try rw[aq ⟨fx,fx⟩])
 all_goals grind[Result.andThen_ok]
 all_goals (try rw[aq ⟨fx,fx⟩])
 all_goals simp
 all_goals rfl
theorem ALQ{t:TypeId}{x r:AVal}{v:Value}{lo hi mx:Option Int}{kl kh km:IntKind} (hx:Rep Γ x v) (h:FW E t x lo hi mx=some r):∃u,(Instr.sliceAt t v (lo.map λn=>Value.int kl n) (hi.map λn=>Value.int kh n) (mx.map λn=>Value.int km n)).run E.P w=.ok u w/\Rep Γ r u/\(∀b,cnt b r u=0)/\own Γ w r u:=by
 unfold FW at h;split at h
 ·cases hx with
  |str s hsn=>
   simp only at h;split at h
   ·rename_i hc;obtain⟨ht,hm,h0,h1,h2⟩:=hc;simp only[ae]at h;subst h;subst hm;have hu:=CO ht;have hl:s.data.toList.length=s.size:=fy;rw[hl]at *;have key:=H7 (E:=E) (w:=w) (isSlice:=false) (len:=s.size) (cap:=s.size) (kl:=kl) (kh:=kh) (km:=km) (lo:=lo) (hi:=hi) (mx:=none) rfl rfl rfl h0 h1 h2 fy fy;refine⟨.string (s.extract (lo.getD 0).toNat (hi.getD s.size).toNat),?_,?_,λb=>by simp[cnt],by simp[own]⟩;·simp only[bR]at key;simp[Instr.sliceAt,aE hu,Instr.slice,key]
    ·have e:((s.data.toList.drop (lo.getD 0).toNat).take ((hi.getD s.size).toNat-(lo.getD 0).toNat))=(s.extract (lo.getD 0).toNat (hi.getD s.size).toNat).data.toList:=by simp
     rw[e];exact .str _ (by grind)
   grind
 ·rename_i wd xs o;simp only at h;split at h
  ·rename_i hc;obtain⟨ht,hm,h0,h1,h2⟩:=hc;obtain⟨e,hu,hz⟩:=Bf ht;simp only[ae]at h;subst h;obtain⟨base,len,cap,rfl,hlen,hcap⟩: ∃base len cap,v=.slice base len cap/\xs.length=len/\len<=cap:=by cases hx with|snil=>exact⟨_,0,0,rfl,rfl,au _⟩|slice _ hb hl hc hS hnn=>exact⟨_,_,_,rfl,hl,hc.1⟩
   subst hlen;have hmm:mx.getD cap=mx.getD cap:=rfl;have key:=H7 (E:=E) (w:=w) (isSlice:=true) (len:=xs.length) (cap:=cap) (kl:=kl) (kh:=kh) (km:=km) (lo:=lo) (hi:=hi) (mx:=mx) rfl rfl rfl h0 h1 (by rcases hm with rfl|⟨rfl,_⟩<;>simp<;>omega) (by rcases hm with rfl|⟨rfl,_⟩<;>simp<;>omega) (by rcases hm with rfl|⟨rfl,h⟩<;>simp;cases hi<;>simp_all);generalize hl':lo.getD 0=l at *;generalize hh':hi.getD xs.length=hh at *;generalize hm':(mx.getD cap).toNat=m at *;refine⟨.slice (if m=l.toNat then base else base.map (·.add (l.toNat * wd))) (hh.toNat-l.toNat) (m-l.toNat),?_,?_,?_,?_⟩;·simp[Instr.sliceAt,aE hu,Instr.slice,key,Cw hz]
   ·have hle:hh.toNat<=m:=by rcases hm with rfl|⟨rfl,_⟩<;>simp at hm'<;>omega
    cases hx with
    |snil=>
     have hh0:hh.toNat=0:=fx;have hl0:l.toNat=0:=fx;have hm0:m=0:=by rcases hm with rfl|⟨rfl,_⟩<;>simp at hm'<;>omega
     rw[hh0,hl0,hm0];simp only[List.take_nil,List.drop_nil,aD,dq];exact .snil _ _ _
    | slice _ hb hl hc hS hnn=>
     rename_i b off cells;have hlen:((xs.drop l.toNat).take (hh.toNat-l.toNat)).length=hh.toNat-l.toNat:=by grind
     by_cases hml:m=l.toNat;·have h00:hh.toNat-l.toNat=0:=fx;rw[aq hml,h00,hml];simp only[dM,dq];exact .slice _ hb rfl ⟨au _,aJ _⟩ (.nil _ _) (λ_ _=>.inl rfl)
     ·rw[an hml];simp only[aK,addr_add];refine .slice _ hb hlen ⟨fx,fx⟩ ?_ ?_;rotate_left;·grind
      rw[<-aY];exact(hS.drop _).take _
   ·intro b;cases hmx:mx with
    |none=>simp[cnt]
    |some z=>
     have:m=hh.toNat:=by rcases hm with h|⟨h,_⟩<;>simp_all
     simp only[cb,cnt];unfold KT;split;·rename_i e;simp only[dN]at e;rw[an];omega
     ·rfl
   ·cases hmx:mx with
    |none=>simp[own]
    |some z=>
     have:m=hh.toNat:=by rcases hm with h|⟨h,_⟩<;>simp_all
     simp only[cb,own];unfold KR;grind
  grind
 ·rename_i wd i off len;simp only at h;split at h
  ·rename_i hc;obtain⟨ht,hm,h0,h1,h2⟩:=hc;obtain⟨e,hu,hz⟩:=Bf ht;simp only[ae]at h;subst h;subst hm;cases hx with
   | bsl hbx ho hcap=>
    rename_i off' b cap;have key:=H7 (E:=E) (w:=w) (isSlice:=true) (len:=len) (cap:=cap) (kl:=kl) (kh:=kh) (km:=km) (lo:=lo) (hi:=hi) (mx:=none) rfl rfl rfl h0 h1 (by grind) fy fy;simp only[cc,bR,bF]at key;generalize hl':lo.getD 0=l at *;generalize hh':hi.getD (len:Int)=hh at *;refine⟨.slice (some (if cap=l.toNat then⟨b,off',none⟩else⟨b,off'+l.toNat * wd,none⟩)) (hh.toNat-l.toNat) (cap-l.toNat),?_,?_,λb=>by simp[cnt],by simp[own]⟩;·simp only[bR,Instr.sliceAt,aE hu,Instr.slice,key,Cw hz,aI,aB,bf];split<;>simp[addr_add]
    ·split;·exact .bsl hbx (.inl fx) ⟨fx,fx⟩
     ·refine .bsl hbx ?_ ⟨fx,fx⟩;omega
  grind
 ·rename_i wd i len;simp only at h;split at h;·rename_i hc;obtain⟨ht,hm,hlo,h1,h2⟩:=hc;obtain⟨e,hu,hz⟩:=Bf ht;simp only[ae]at h;subst h;subst hm;subst hlo;cases hx with|gsl hbx hbt hcap hcz=>rename_i b cap sz T;have key:=H7 (E:=E) (w:=w) (isSlice:=true) (len:=len) (cap:=cap) (kl:=kl) (kh:=kh) (km:=km) (lo:=none) (hi:=hi) (mx:=none) rfl rfl rfl fy (by grind) (by grind) fy fy;simp only[cc,bR,bF,eB]at key;generalize hh':hi.getD (len:Int)=hh at *;refine⟨.slice (some ⟨b,0,none⟩) hh.toNat cap,?_,.gsl hbx hbt ⟨fx,fx⟩ hcz,λb=>by simp[cnt],by simp[own]⟩;simp only[bR,Instr.sliceAt,aE hu,Instr.slice,key,Cw hz,aI,aB,bf];split<;>simp[addr_add]
  grind
 ·rename_i T0 i len;simp only at h;split at h;·rename_i hc;obtain⟨ht,hm,hlo,h1,h2⟩:=hc;obtain⟨e,hu,hz⟩:=Bf ht;simp only[ae]at h;subst h;subst hm;subst hlo;cases hx with|trow hbx hbt hcap hcz=>rename_i b cap sz;have key:=H7 (E:=E) (w:=w) (isSlice:=true) (len:=len) (cap:=cap) (kl:=kl) (kh:=kh) (km:=km) (lo:=none) (hi:=hi) (mx:=none) rfl rfl rfl fy (by grind) (by grind) fy fy;simp only[cc,bR,bF,eB]at key;generalize hh':hi.getD (len:Int)=hh at *;refine⟨.slice (some ⟨b,0,none⟩) hh.toNat cap,?_,.trow hbx hbt ⟨fx,fx⟩ hcz,λb=>by simp[cnt],by simp[own]⟩;simp only[bR,Instr.sliceAt,aE hu,Instr.slice,key,Cw hz,aI,aB,bf];split<;>simp[addr_add]
  grind
 ·rename_i i off;split at h
  ·rename_i len z g ha;obtain⟨e,hu,hz,_,_⟩:=Qo ha;simp only at h;split at h
   ·rename_i hc;obtain⟨hm,h0,h1,h2,h3⟩:=hc;simp only[ae]at h;subst h;subst hm;cases hx with
    | ptr hbx=>
     rename_i b;have key:=H7 (E:=E) (w:=w) (isSlice:=false) (len:=len) (cap:=len) (kl:=kl) (kh:=kh) (km:=km) (lo:=lo) (hi:=hi) (mx:=none) rfl rfl rfl h0 h1 (by grind) fy fy;simp only[cc,bR,bF]at key;generalize hl':lo.getD 0=l at *;generalize hh':hi.getD (len:Int)=hh at *;refine⟨.slice (some (if len=l.toNat then⟨b,off,none⟩else⟨b,off+l.toNat * z,none⟩)) (hh.toNat-l.toNat) (len-l.toNat),?_,?_,λb=>by simp[cnt],by simp[own]⟩;·simp only[bR,Instr.sliceAt,Instr.sureAddr,aE hu,key,Cw hz,aI,aB,bf];split<;>simp[addr_add]
     ·split;·exact .bsl hbx (.inl fx) ⟨fx,fx⟩
      ·exact .bsl hbx (.inr rfl) ⟨fx,fx⟩
   grind
  grind
 grind
def AVf{t ty:TypeId}{ts:List TypeId}{x r:AVal}{v:Value} (hx:Rep Γ x v) (h:RZ E t x=some r): ∃u,(Builtin.len_ ⟨t::ts⟩ ty #[v]).run E.P w=.ok u w/\Rep Γ r u:=by
 unfold RZ at h;split at h
 ·cases hx with
  |str s hsn=>
   split at h;·rename_i ht;simp only[ae]at h;subst h;have e:(s.data.toList.length:Int)=s.size:=fy;rw[e];exact⟨.int .i64 s.size,by simp[Builtin.len_,aE (CO ht),goInt],.int _ _⟩
   grind
 ·rename_i wd xs o;split at h
  ·rename_i ht;obtain⟨e,hu⟩: ∃e,E.P.underlying t=some (.slice e):=by unfold BP at ht;split at ht<;>simp_all
   simp only[ae]at h;subst h;obtain⟨base,len,cap,rfl,hlen⟩: ∃base len cap,v=.slice base len cap/\xs.length=len:=by cases hx with|snil=>simp|slice _ hb hl hc hS hnn=>simp_all
   rw[hlen];exact⟨.int .i64 len,by simp[Builtin.len_,aE hu,goInt],.int _ _⟩
  grind
 ·rename_i wd i off len;split at h
  ·rename_i ht;obtain⟨e,hu⟩: ∃e,E.P.underlying t=some (.slice e):=by unfold BP at ht;split at ht<;>simp_all
   simp only[ae]at h;subst h;cases hx with|bsl hbx ho hcap=>exact⟨.int .i64 len,by simp[Builtin.len_,aE hu,goInt],.int _ _⟩
  grind
 ·rename_i wd i len;split at h
  ·rename_i ht;obtain⟨e,hu⟩: ∃e,E.P.underlying t=some (.slice e):=by unfold BP at ht;split at ht<;>simp_all
   simp only[ae]at h;subst h;cases hx with|gsl hbx hbt hcap hcz=>exact⟨.int .i64 len,by simp[Builtin.len_,aE hu,goInt],.int _ _⟩
  grind
 ·split at h
  ·rename_i ht;obtain⟨e,hu⟩: ∃e,E.P.underlying t=some (.slice e):=by unfold BP at ht;split at ht<;>simp_all
   simp only[ae]at h;subst h;cases hx;exact⟨.int .i64 0,by simp[Builtin.len_,aE hu,goInt],.int _ _⟩
  grind
 ·rename_i el l o;split at h
  ·rename_i ht;obtain⟨e,hu⟩: ∃e,E.P.underlying t=some (.slice e):=by unfold BP at ht;split at ht<;>simp_all
   simp only[ae]at h;subst h;obtain⟨base,len,cap,rfl,hlen⟩: ∃base len cap,v=.slice base len cap/\l.length=len:=by
    cases hx with
    |buf o' hx k=>
     have hl:(u8s l).length=l.length:=by simp[u8s]
     generalize u8s l=xs at hx hl;cases hx with|snil=>simp_all|slice _ hb hl' hc hS hnn=>simp_all
   rw[hlen];exact⟨.int .i64 len,by simp[Builtin.len_,aE hu,goInt],.int _ _⟩
  grind
 grind
theorem RepL.map_rd{F:Nat->Nat}{st:St}{af:List AVal}{a:Act} (hs:Sim E F Γ st w af a.tmps.toList) (t:TypeId) (l:List Operand):RepL Γ (l.map (rd E af t)) (l.map a.eval):=by induction l with|nil=>exact .nil|cons x l ih=>exact .cons (hs.rd t x) ih
theorem WF{Γ:Ghost}: ∀ {xs:List AVal}{l:B8}{cs:List Value},bytesOf xs=some l->RepS Γ 1 xs cs->∃ns:List Int,ns.length=xs.length/\(∀j,j<ns.length->cs[j]?=some (.int .u8 (ns.getD j 0)))/\l=ns.map FX
 |[],l,cs,h,_=>by simp[bytesOf]at h;subst h;exact⟨[],rfl,fy,rfl⟩
 | x::xs,l,cs,h,hr=>by
  cases hr with
  |cons hx hw t=>
   rename_i v cs;unfold bytesOf at h;split at h;·grind
   ·rename_i n xs' e;cases e;cases hx;cases hb:bytesOf xs with|none=>grind|some l'=>simp[hb]at h;subst h;obtain⟨ns,h1,h2,h3⟩:=WF hb t;refine⟨n::ns,by grind,?_,by grind⟩;intro j hj;have ec:(Value.int IntKind.u8 n).cells.toList=[.int .u8 n]:=rfl;grind
   grind
def XI{P:Program}{t:TypeId} (h:u8T P t=true): ∃e,P.underlying t=some (.slice e)/\P.underlying e=some (.int .u8):=by grind[u8T]
def AQN{F:Nat->Nat}{st:St}{af:List AVal}{a:Act}{s d:TypeId}{o:Operand}{r:AVal} (hs:Sim E F Γ st w af a.tmps.toList) (h:Ro E s d (rd E af s o)=some r): ∃u,(convert s d (a.eval o)).run E.P w=.ok u w/\Rep Γ r u:=by
 have hx:=hs.rd s o;generalize rd E af s o=x at *;generalize a.eval o=v at *;unfold Ro at h;split at h
 ·rename_i wd xs ow;unfold strOf at h;split at h
  ·rename_i l hg hb;simp only[av]at hg;simp only[ae]at h;subst h;obtain⟨e,h1,h2⟩:=XI hg.1;have h3:=CO hg.2;cases hx with
   |snil _ _ ad=>simp[bytesOf]at hb;subst hb;cases ad with|some ad=>have hl:(loadCells ad 0).run E.P w=.ok (([]:List Int).map (Value.int .u8)).toArray w:=dG (P:=E.P) w ad [] (λj v hj=>by grind);refine⟨.string ByteArray.empty,?_,Rep.str (Γ:=Γ) ByteArray.empty (aJ _)⟩;rw[run_convert_bytes_string w s d e (some ad) 0 0 h1 h2 h3,run_bytesToString w ad 0 0 [] hl];rfl|none=>exact⟨_,run_convert_bytes_nil w s e h1 h2 0 0 d h3,Rep.str (Γ:=Γ) ByteArray.empty (aJ _)⟩
   | slice _ hb' hl hc hr hnn=>
    rename_i b off len cap cells;have hr0:=hr;have hwd:wd=1\/xs=[]:=by
     generalize cells.drop off=cs0 at hr;cases xs with
     |nil=>simp
     | cons x xs=>
      cases hr with
      |cons hx hw t=>
       unfold bytesOf at hb;split at hb;·grind
       ·rename_i n xs' e';cases e';cases hx;exact .inl hw.1.symm
       grind
    have hr1:RepS Γ 1 xs (cells.drop off):=by
     rcases hwd with rfl|rfl;·omega
     ·exact .nil _ _
    obtain⟨ns,n1,n2,n3⟩:=WF hb hr1;obtain⟨arr,e',fz,hh,⟨ds,hds⟩,_⟩:=hs.com_ok _ _ hb';have hcell: ∀i,i<len->w.cell? ⟨b,off+i,none⟩=some (.int .u8 (ns.getD i 0)):=by
     intro i hi;have q:=n2 i fx;have q1:cells[off+i]?=some (.int .u8 (ns.getD i 0)):=by grind
     have q2:arr.toList[off+i]?=some (.int .u8 (ns.getD i 0)):=by grind
     grind[World.cell?]
    have key:=dO w s e h1 h2 b off len cap ns fx hcell d h3;refine⟨_,key,?_⟩;have hsz:(strOfNums ns).data.toList=l:=by rw[fo,n3];rfl
    rw[<-hsz];exact .str _ (by grind)
  grind
 ·rename_i k n;split at h;·rename_i hg;simp only[av]at hg;simp only[ae]at h;subst h;cases hx;refine⟨_,run_convert_int_string w s d k n (by grind[Ae]) (CO hg.2),?_⟩;exact .str _ (by grind[Utf8.encode,Bg])
  ·exact Yk hx h
 ·exact Yk hx h
def ABg{F:Nat->Nat}{st:St}{af:List AVal}{a:Act}{o:Oper}{r:AVal} (hs:Sim E F Γ st w af a.tmps.toList) (h:DX E o af=some r):∃v,(execOp a.eval o).run E.P w=.ok (.value v) w/\Rep Γ r v:=by
 unfold DX at h;split at h
 ·rename_i c x y hop;have hc:=hs.rd 0 c;split at h
  ·rename_i t e;rw[e]at hc;simp only[ae]at h;subst h;cases hc':a.eval c<;>rw[hc']at hc<;>cases hc;refine⟨if t then a.eval x else a.eval y,by simp_all[execOp,asBool],?_⟩;cases t;·exact hs.rd _ y
   ·exact hs.rd _ x
  grind
 ·rename_i x hop;have hx:=hs.rd 0 x;generalize hv:a.eval x=v at hx;unfold NC at h;split at h;·rename_i e;rw[e]at hx;simp only[ae]at h;subst h;refine⟨v,?_,hx⟩;cases hx;simp_all[execOp]
  ·rename_i e;rw[e]at hx;simp only[ae]at h;subst h;refine⟨v,?_,hx⟩;cases hx;simp_all[execOp]
  ·rename_i e;rw[e]at hx;simp only[ae]at h;subst h;refine⟨v,?_,hx⟩;cases hx;simp_all[execOp]
  grind
 ·rename_i op t x y u hop;obtain⟨v,hv,hr⟩:=AVM (w:=w) (ox:=x) (oy:=y) (hs.rd t x) (hs.rd t y) h;refine⟨v,?_,hr⟩;simp only[execOp,hop];rw[aI,hv];rfl
 ·rename_i op t x hop;obtain⟨v,hv,hr⟩:=AZt (w:=w) (E:=E) (hs.rd 0 x) h;simp_all[execOp]
 ·rename_i s d x hop;obtain⟨v,hv,hr⟩:=AQN (w:=w) hs h;simp_all[execOp]
 ·rename_i f p q hop;simp only[ae]at h;subst h;refine⟨.func f (p.map a.eval) (q.map a.eval),by simp[execOp,hop,Instr.makeFunc],.fn ?_ ?_⟩<;>grind[execOp,Instr.makeFunc,Array.toList_map,RepL.map_rd]
 ·rename_i s x f hop;obtain⟨v,hv,hr⟩:=Xw (w:=w) (hs.rd 0 x) h;simp_all[execOp]
 ·rename_i s x f hop;obtain⟨v,hv,hr⟩:=AGE (w:=w) (hs.rd s x) h;simp_all[execOp]
 ·rename_i t x i hop;obtain⟨v,hv,hr⟩:=X0 (w:=w) (hs.rd t x) (hs.rd 0 i) h;simp_all[execOp]
 ·rename_i t x i hop;obtain⟨v,hv,hr⟩:=AHk (w:=w) (hs.rd t x) (hs.rd 0 i) h;simp_all[execOp]
 ·rename_i x t ts hop;obtain⟨v,hv,hr⟩:=AVf (w:=w) (ty:=o.type) (ts:=ts) (hs.rd t x) h;simp_all[Array.map,execOp,resolve,invoke,builtin]
 ·rename_i x y ts hop;have hx:=hs.rd 0 x;have hy:=hs.rd 0 y;unfold AbI at h;split at h;·rename_i k p k' q e1 e2;rw[e1]at hx;rw[e2]at hy;simp only[ae]at h;subst h;cases hx':a.eval x<;>rw[hx']at hx<;>cases hx;cases hy':a.eval y<;>rw[hy']at hy<;>cases hy;refine⟨.int k (if q<p then q else p),?_,.int _ _⟩;have e:(Array.map a.eval #[x,y])= #[a.eval x,a.eval y]:=fy;simp[execOp,hop,resolve,invoke,builtin,e,hx',hy',run_min_int2]
  grind
 ·rename_i x y ts hop;have hx:=hs.rd 0 x;have hy:=hs.rd 0 y;unfold Adp at h;split at h;·rename_i k p k' q e1 e2;rw[e1]at hx;rw[e2]at hy;simp only[ae]at h;subst h;cases hx':a.eval x<;>rw[hx']at hx<;>cases hx;cases hy':a.eval y<;>rw[hy']at hy<;>cases hy;refine⟨.int k (if q>p then q else p),?_,.int _ _⟩;have e:(Array.map a.eval #[x,y])= #[a.eval x,a.eval y]:=fy;simp[execOp,hop,resolve,invoke,builtin,e,hx',hy',run_max_int2]
  grind
 ·rename_i x t ts hop;have hx:=hs.rd t x;unfold AgZ at h;split at h
  ·rename_i el e1;rw[e1]at hx;split at h
   ·rename_i ht;obtain⟨e,hu⟩: ∃e,E.P.underlying t=some (.slice e):=by unfold BP at ht;split at ht<;>simp_all
    simp only[ae]at h;subst h;cases hx':a.eval x<;>rw[hx']at hx<;>cases hx;refine⟨.int .i64 0,?_,.int _ _⟩;have e:(Array.map a.eval #[x])= #[a.eval x]:=fy;simp[execOp,hop,resolve,invoke,builtin,e,hx',Builtin.cap_,aE hu,goInt]
   grind
  grind
 ·rename_i x y t s hop;have hx:=hs.rd t x;have hy:=hs.rd s y;unfold AX6 at h;split at h
  ·rename_i w0 i0 el e1 e2;rw[e1]at hx;rw[e2]at hy;split at h
   ·rename_i ht;obtain⟨e,hu,hsz⟩:=Bf ht;simp only[ae]at h;subst h;cases hy':a.eval y<;>rw[hy']at hy<;>cases hy;generalize hx':a.eval x=vx at hx;cases hx with
    |trow hb hbt hc hz=>
     have hss:(E.P.info? e).map (·.size)=some 1:=by grind[BK]
     refine⟨.int .i64 0,?_,.int _ _⟩;have e:(Array.map a.eval #[x,y])= #[a.eval x,a.eval y]:=fy;simp only[execOp,hop,resolve,invoke,builtin,e,hx',hy',aI,bf,aB];rw[run_copy_none w t s o.type _ _ _ 0 _ 0 0 hu hss rfl];rfl
   grind
  grind
 grind
end
end Go.VM
set_option linter.unusedVariables false
namespace Go.VM
section
variable{E:Env}{F:Nat->Nat}{Γ:Ghost}{st:St}{w:World}{af:List AVal}{a:Act}
theorem XX{Γ':Ghost}{w':World}{b:Nat}{p:Nat×List AVal} (h1:Γ'.bx p.1=Γ.bx p.1) (h2: ∀k,Γ.bx p.1=some k->w'.heap[k]?=w.heap[k]?) (hsx:Γ'.sx p.1=Γ.sx p.1:=by rfl):Ct Γ' w' b p=Ct Γ w b p:=by grind[Ct,hcells]
theorem EZ{Γ':Ghost}{w':World}{b:Nat}{m:List (Nat×List AVal)} (h: ∀p,p∈m->Γ'.bx p.1=Γ.bx p.1/\∀k,Γ.bx p.1=some k->w'.heap[k]?=w.heap[k]?) (hsx: ∀p,p∈m->Γ'.sx p.1=Γ.sx p.1:=by intros;rfl):Ah Γ' w' b m=Ah Γ w b m:=by induction m with|nil=>rfl|cons p m ih=>rw[Ah,Ah,XX (h p fy).1 (h p fy).2 (hsx p fy),ih (λq hq=>h q (aR _ hq)) (λq hq=>hsx q (aR _ hq))]
def ShOK.keep{Γ':Ghost}{w':World}{p:Nat×List AVal}{v:Value} (h:ShOK Γ w p v) (le:Γ.le Γ') (hb:Γ'.bx p.1=none) (k: ∀b,1<=AO b p.2 [v]->w'.heap[b]?=w.heap[b]?/\Γ'.com b=Γ.com b):ShOK Γ' w' p v:=⟨le.2.2.2.2 _ _ h.sx,hb,h.rep.mono le,Be le _ _ h.own k⟩
theorem ShOK.cnt{p:Nat×List AVal}{v:Value} (h:ShOK Γ w p v) (b:Nat):Ct Γ w b p=AO b p.2 [v]:=by simp only[Ct,h.bx,h.sx]
def V5{b:Nat}{p:Nat×List AVal}{m:List (Nat×List AVal)} (h:p∈m):Ct Γ w b p<=Ah Γ w b m:=by
 induction m with
 |nil=>grind
 |cons q m ih=>
  rw[Ah];rcases aP.1 h with rfl|h;·omega
  grind
def AH5{b:Nat}{o:Obj} (h:w.heap[b]?=some o):b<w.heap.size:=by grind
def alloc_old (o:Obj){k:Nat} (h:k<w.heap.size):(w.alloc o).heap[k]?=w.heap[k]?:=by show(w.heap.push o)[k]?=_;grind
def M6 (o:Obj):(w.alloc o).heap[w.heap.size]?=some o:=by show(w.heap.push o)[w.heap.size]?=_;simp
def Ghost.box (Γ:Ghost) (i b:Nat) (x:TypeId×Nat):Ghost:= {Γ with bx:=λj=>if j=i then some b else Γ.bx j,bt:=λj=>if j=i then some x else Γ.bt j}
def Ghost.arr (Γ:Ghost) (b:Nat) (cs:List Value) (e:TypeId):Ghost:= {Γ with com:=λk=>if k=b then some cs else Γ.com k,ct:=λk=>if k=b then some e else Γ.ct k}
def Sim.bx_none (hs:Sim E F Γ st w af a.tmps.toList):Γ.bx st.next=none:=by cases h:Γ.bx st.next with|none=>rfl|some b=>exact absurd (hs.bx_next _ _ h) fx
def Sim.com_lt{tm:List Value} (hs:Sim E F Γ st w af tm){b:Nat}{cs:List Value} (h:Γ.com b=some cs):b<w.heap.size:=by obtain⟨arr,e,fz,h1,_⟩:=hs.com_ok b cs h;grind
def Sim.com_none{tm:List Value} (hs:Sim E F Γ st w af tm){b:Nat} (hb:w.heap.size<=b):Γ.com b=none:=by cases h:Γ.com b with|none=>rfl|some cs=>have:=hs.com_lt h;omega
def Sim.key_lt{tm:List Value} (hs:Sim E F Γ st w af tm){p:Nat×List AVal} (hp:p∈st.m):p.1<st.next:=by
 rcases hs.box_ok p hp with⟨b,arr,e,h⟩|⟨v,h⟩;·exact hs.bx_next _ _ h.bx
 ·exact(hs.sx_next _ _ h.sx).1
def Sim.F_of{tm:List Value} (hs:Sim E F Γ st w af tm){b:Nat} (h:1<=F b):b<w.heap.size:=by
 rcases aS b w.heap.size with h'|h';·omega
 ·have:=hs.F_lt b h';omega
def Sim.le_box{tm:List Value} (hs:Sim E F Γ st w af tm) (x:TypeId×Nat):Γ.le (Γ.box st.next w.heap.size x):=by
 have hn:Γ.bx st.next=none:=by cases h:Γ.bx st.next with|none=>rfl|some b=>exact absurd (hs.bx_next _ _ h) fx
 refine⟨λb cs h=>⟨[],by grind[Ghost.box]⟩,λi b h=>?_,λi x h=>?_,λ_ _ h=>h,λ_ _ h=>h⟩
 ·simp only[Ghost.box];rw[an];·exact h
  grind
 ·simp only[Ghost.box];rw[an];·exact h
  ·intro hi;subst hi;obtain⟨b,hb⟩:=hs.tyd.1 _ _ h;grind
def Sim.newBox (hs:Sim E F Γ st w af a.tmps.toList){cells:Array Value}{e:TypeId}{cs:List AVal}{fz:Nat×Nat} (hfz: ∀j,j<cells.size->¬(fz.1<=j/\j<fz.2)) (hr:RepL (Γ.box st.next w.heap.size (e,cells.size)) cs (cells.toList.take cs.length)) (ho:ownL Γ w cs cells.toList) (h1: ∀v,v∈cells.toList.take cs.length->v.oneCell'=true) (ht: ∀b,F b+AO b af a.tmps.toList+AO b cs cells.toList+Ah Γ w b st.m<=1):Sim E F (Γ.box st.next w.heap.size (e,cells.size)) {m:=(st.next,cs)::st.m,next:=st.next+1} (w.alloc (.cells cells e fz)) af a.tmps.toList/\Ext F Γ w (Γ.box st.next w.heap.size (e,cells.size)) (w.alloc (.cells cells e fz))/\Rep (Γ.box st.next w.heap.size (e,cells.size)) (.ptr st.next 0) (.pointer (some ⟨w.heap.size,0,none⟩)):=by
 have hn:=hs.bx_none;have hle:Γ.le (Γ.box st.next w.heap.size (e,cells.size)):=hs.le_box _;have keep: ∀b,b<w.heap.size->(w.alloc (.cells cells e fz)).heap[b]?=w.heap[b]?/\(Γ.box st.next w.heap.size (e,cells.size)).com b=Γ.com b:=λb hb=>⟨alloc_old _ hb,rfl⟩;have old: ∀p,p∈st.m->(Γ.box st.next w.heap.size (e,cells.size)).bx p.1=Γ.bx p.1/\∀k,Γ.bx p.1=some k->(w.alloc (.cells cells e fz)).heap[k]?=w.heap[k]?:=by intro p hp;have h3:=hs.key_lt hp;exact⟨by simp only[Ghost.box];grind,λk hk=>alloc_old _ (hs.bx_lt _ _ hk)⟩
 refine⟨?_,⟨hle,λb hb=>⟨alloc_old _ (hs.F_of hb),rfl⟩,fy,rfl,rfl,rfl⟩,.ptr (by simp[Ghost.box])⟩;refine {com_ok:=?_,box_ok:=?_,sx_next:=?_,keys:=?_,inj:=?_,bx_lt:=?_,bx_next:=?_,tyd:=?_,bx_F:=?_,F_lt:=?_,glob:=?_,rep:=hs.rep.mono hle,own:=?_,tok:=?_};·intro b cs h;obtain⟨arr,e',fz,h1,h2⟩:=hs.com_ok b cs h;exact⟨arr,e',fz,by grind,h2⟩
 ·intro p hp;rcases aP.1 hp with rfl|hp;·refine .inl ⟨w.heap.size,cells,e,by simp[Ghost.box],⟨fz.1,fz.2,M6 _,hfz⟩,hr,?_,hs.com_none (au _),h1,λT n h=>by grind[Ghost.box]⟩;exact Be hle _ _ ho λb hb=>keep b (Bl _ _ ho hb).1
  ·rcases hs.box_ok p hp with⟨b,arr,e',hb⟩|⟨v,hv⟩;rotate_left;·exact .inr ⟨v,hv.keep hle (by rw[(old p hp).1];exact hv.bx) λb hb=>keep b (Bl _ _ hv.own hb).1⟩
   obtain⟨lo,hi,h3,h4⟩:=hb.heap;have:=hs.bx_lt _ _ hb.bx;refine .inl ⟨b,arr,e',by rw[(old p hp).1];exact hb.bx,⟨lo,hi,by grind,h4⟩,hb.rep.mono hle,?_,hb.com,hb.one,λT n h=>hb.ty T n (by have h3:=hs.key_lt hp;simp only[Ghost.box]at h;rw[an fx]at h;exact h)⟩;exact Be hle _ _ hb.own λb hb'=>keep b (Bl _ _ hb.own hb').1
 ·intro i v h;obtain⟨h1,h2⟩:=hs.sx_next i v h;refine⟨by grind,?_⟩;simp only[Ghost.box];rw[an fx];omega
 ·simp only[aF,bW];refine⟨λhm=>?_,hs.keys⟩;obtain⟨p,hp,e⟩:=bD.1 hm;have h3:=hs.key_lt hp;omega
 ·intro i j b hi hj;simp only[Ghost.box]at hi hj;split at hi<;>split at hj;·omega
  ·simp only[ae]at hi;subst hi;have:=hs.bx_lt _ _ hj;omega
  ·simp only[ae]at hj;subst hj;have:=hs.bx_lt _ _ hi;omega
  ·exact hs.inj i j b hi hj
 ·intro i b hi;simp only[Ghost.box]at hi;simp only[dv];split at hi;·grind
  ·have:=hs.bx_lt _ _ hi;omega
 ·intro i b hi;simp only[Ghost.box]at hi;split at hi;·grind
  ·have:=hs.bx_next _ _ hi;grind
 ·refine⟨λi x h=>?_,hs.tyd.2⟩;simp only[Ghost.box]at h⊢;split;·simp
  ·rename_i hi;rw[an hi]at h;exact hs.tyd.1 i x h
 ·intro p b hp hb;simp only[Ghost.box]at hb;rcases aP.1 hp with rfl|hp;·simp only[aD,ae]at hb;subst hb;exact hs.F_lt _ (au _)
  ·have h3:=hs.key_lt hp;rw[an fx]at hb;exact hs.bx_F p b hp hb
 ·intro b hb;simp only[dv]at hb;exact hs.F_lt b fx
 ·intro g cs h;exact(hs.glob g cs h).mono hle
 ·exact Be hle _ _ hs.own λb hb=>keep b (Bl _ _ hs.own hb).1
 ·intro b;rw[Ah,EZ old];have hc:Ct (Γ.box st.next w.heap.size (e,cells.size)) (w.alloc (.cells cells e fz)) b (st.next,cs)=AO b cs cells.toList:=by simp only[Ct,Ghost.box,aD,hcells,M6]
  grind
def Sim.newArr (hs:Sim E F Γ st w af a.tmps.toList){cells:Array Value}{e:TypeId}{pre spare:List Value}{fz:Nat×Nat} (hc:cells.toList=pre++spare) (h1: ∀v,v∈pre->v.oneCell'=true):Sim E F (Γ.arr w.heap.size pre e) st (w.alloc (.cells cells e fz)) af a.tmps.toList/\Ext F Γ w (Γ.arr w.heap.size pre e) (w.alloc (.cells cells e fz))/\(∀b,AO b af a.tmps.toList+Ah (Γ.arr w.heap.size pre e) (w.alloc (.cells cells e fz)) b st.m+F b+(if b=w.heap.size then 1 else 0)<=1):=by
 have hn:=hs.com_none (au _);have hle:Γ.le (Γ.arr w.heap.size pre e):=by
  refine⟨λb cs h=>⟨[],?_⟩,λi b h=>h,λi x h=>h,λb x h=>?_,λ_ _ h=>h⟩;·have:=hs.com_lt h;simp only[Ghost.arr];rw[an fx];grind
  ·obtain⟨cs,hc⟩:=hs.tyd.2 _ _ h;have:=hs.com_lt hc;simp only[Ghost.arr];rw[an fx];exact h
 have keep: ∀b,b<w.heap.size->(w.alloc (.cells cells e fz)).heap[b]?=w.heap[b]?/\(Γ.arr w.heap.size pre e).com b=Γ.com b:=λb hb=>⟨alloc_old _ hb,by simp only[Ghost.arr];grind⟩;have old: ∀p,p∈st.m->(Γ.arr w.heap.size pre e).bx p.1=Γ.bx p.1/\∀k,Γ.bx p.1=some k->(w.alloc (.cells cells e fz)).heap[k]?=w.heap[k]?:=by intro p hp;exact⟨rfl,λk hk=>alloc_old _ (hs.bx_lt _ _ hk)⟩
 have tok: ∀b,F b+AO b af a.tmps.toList+Ah (Γ.arr w.heap.size pre e) (w.alloc (.cells cells e fz)) b st.m<=1:=by intro b;rw[EZ old];exact hs.tok b
 refine⟨?_,⟨hle,λb hb=>keep b (hs.F_of hb),fy,rfl,rfl,rfl⟩,?_⟩
 ·refine {com_ok:=?_,box_ok:=?_,sx_next:=hs.sx_next,keys:=hs.keys,inj:=hs.inj,bx_lt:=?_,bx_next:=hs.bx_next,tyd:=?_,bx_F:=hs.bx_F,F_lt:=?_,glob:=?_,rep:=hs.rep.mono hle,own:=?_,tok:=tok}
  ·intro b cs h;simp only[Ghost.arr]at h;split at h;·rename_i hb;subst hb;simp only[ae]at h;subst h;exact⟨cells,e,fz,M6 _,⟨spare,hc⟩,λT h=>by grind[Ghost.arr]⟩
   ·rename_i hbn;obtain⟨arr,e',fz',h1,h2,h3⟩:=hs.com_ok b cs h;exact⟨arr,e',fz',by grind,h2,λT h=>h3 T (by simp_all[Ghost.arr])⟩
  ·intro p hp;rcases hs.box_ok p hp with⟨b,arr,e',hb⟩|⟨v,hv⟩;rotate_left;·exact .inr ⟨v,hv.keep hle hv.bx λb hb=>keep b (Bl _ _ hv.own hb).1⟩
   obtain⟨lo,hi,h3,h4⟩:=hb.heap;have:=hs.bx_lt _ _ hb.bx;refine .inl ⟨b,arr,e',hb.bx,⟨lo,hi,by grind,h4⟩,hb.rep.mono hle,?_,by rw[(keep b this).2];exact hb.com,hb.one,hb.ty⟩;exact Be hle _ _ hb.own λb hb'=>keep b (Bl _ _ hb.own hb').1
  ·intro i b hi;have:=hs.bx_lt _ _ hi;grind
  ·refine⟨hs.tyd.1,λb x h=>?_⟩;simp only[Ghost.arr]at h⊢;split;·simp
   ·rename_i hi;rw[an hi]at h;exact hs.tyd.2 b x h
  ·intro b hb;simp only[dv]at hb;exact hs.F_lt b fx
  ·intro g cs h;exact(hs.glob g cs h).mono hle
  ·exact Be hle _ _ hs.own λb hb=>keep b (Bl _ _ hs.own hb).1
 ·intro b;split
  ·rename_i hb;subst hb;have e1:F w.heap.size=0:=hs.F_lt _ (au _);have e2:AO w.heap.size af a.tmps.toList=0:=by
    rcases aS 0 (AO w.heap.size af a.tmps.toList)with h|h;·have:=(Bl _ _ hs.own h).1;omega
    omega
   have e3:Ah (Γ.arr w.heap.size pre e) (w.alloc (.cells cells e fz)) w.heap.size st.m=0:=by
    rw[EZ old];have: ∀m,(∀p,p∈m->p∈st.m)->Ah Γ w w.heap.size m=0:=by
     intro m;induction m with
     |nil=>intro _;rfl
     | cons p m ih=>
      intro hm;rw[Ah,ih (λq hq=>hm q (aR _ hq))];rcases hs.box_ok p (hm p fy)with⟨b,arr,e',hb⟩|⟨v,hv⟩;rotate_left
      ·rw[hv.cnt];rcases aS 0 (AO w.heap.size p.2 [v])with h|h;·have:=(Bl _ _ hv.own h).1;omega
       omega
      obtain⟨lo,hi,h3,h4⟩:=hb.heap;have hc':Ct Γ w w.heap.size p=AO w.heap.size p.2 arr.toList:=by simp[Ct,hb.bx,hcells,h3]
      rcases aS 0 (AO w.heap.size p.2 arr.toList)with h|h;·have:=(Bl _ _ hb.own h).1;omega
      omega
    grind
   omega
  grind
def CW:AVal->Bool|.iter _ _=>false|.any=>false|.tuple _=>false|.map _ _=>false|.slop _ _=>false|.vec _ _=>false|.hset _=>false|_=>true
def Rep.slice_one{w:Nat}{xs:List AVal}{o:Bool}{v:Value} (h:Rep Γ (.slice w xs o) v):v.oneCell'=true:=by cases h<;>rfl
def Rep.one{x:AVal}{v:Value} (h:Rep Γ x v) (hx:CW x=true): ∀c,c∈v.cells.toList->c.oneCell'=true:=by cases h<;>first|(simp[CW]at hx;done)|assumption|(rename_i h1 h2;rw[h1.slice_cells];intro c hc;simp only[aP,dQ,eT]at hc;subst hc;exact h1.slice_one)|(rename_i h1 h2;rw[h2.1];intro c hc;simp only[aP,dQ,eT]at hc;subst hc;exact h2.2)|(intro c hc;simp only[Value.cells,aP,dQ,eT]at hc;subst hc;rfl)
def Rep.cellsOK{x:AVal}{v:Value} (h:Rep Γ x v) (hx:CW x=true):RepL Γ (AX x) v.cells.toList:=by cases h<;>first|(simp[CW]at hx;done)|assumption|(rename_i h1 h2;rw[h1.slice_cells];exact .cons (.buf _ h1 h2) .nil)|(rename_i h1 h2;rw[h2.1];exact .cons (.sh h1 h2) .nil)|exact .cons (by constructor<;>assumption) .nil
def UR{x:AVal}{v:Value} (h:Rep Γ x v) (hx:CW x=true) (ho:own Γ w x v):ownL Γ w (AX x) v.cells.toList:=by cases h<;>first|(simp[CW]at hx;done)|exact ho|(rename_i h1 h2;rw[h1.slice_cells];exact⟨ho,by simp[ownL]⟩)|(rename_i h1 h2;rw[h2.1];simp[AX,ownL,VM.own])|exact⟨ho,by simp[ownL]⟩
theorem UN{x:AVal}{v:Value} (h:Rep Γ x v) (hx:CW x=true) (b:Nat):AO b (AX x) v.cells.toList=cnt b x v:=by
 have key: ∀(y:AVal) (u:Value),AO b [y] [u]=cnt b y u:=λy u=>by simp[AO]
 cases h<;>first|(simp[CW]at hx;done)|exact key _ _|(rename_i h1 h2;rw[h1.slice_cells];exact key _ _)|(rename_i h1 h2;rw[h2.1];exact key _ _)|simp[cnt,AX,Value.cells]
mutual def Ed:AVal->Value->Bool|.bool a,.bool b=>a==b|.int k n,.int k' m=>decide (k=k')&&n==m|.str s,.string b=>s==b.data.toList&&decide (s.length<=Bg)|.nilp,.pointer none=>true|.slice _ [] true,.slice none 0 0=>true|.nilFn,.nilFunc=>true|.nilIface,.nilIface=>true|.nmap,.map none=>true|.agg cs,.agg arr=>Fw cs arr.toList|_,_=>false def Fw:List AVal->List Value->Bool|[],[]=>true|x::xs,v::vs=>Ed x v&&v.oneCell'&&Fw xs vs|_,_=>false end
structure RepC (Γ:Ghost) (w:World) (x:AVal) (v:Value):Prop where
  rep:Rep Γ x v
  own:own Γ w x v
  cnt: ∀b,cnt b x v=0
  ok:CW x=true
mutual theorem JJ (Γ:Ghost) (w:World):(x:AVal)->(v:Value)->Ed x v=true->RepC Γ w x v
 |x,v,h=>by
  unfold Ed at h;split at h;·simp at h;subst h;exact⟨.bool _,by simp[own],λb=>by simp[cnt],rfl⟩
  ·simp at h;obtain⟨rfl,rfl⟩:=h;exact⟨.int _ _,by simp[own],λb=>by simp[cnt],rfl⟩
  ·rename_i s b;simp at h;obtain⟨rfl,hn⟩:=h;exact⟨.str _ fx,by simp[own],λb=>by simp[cnt],rfl⟩
  ·exact⟨.nilp,by simp[own],λb=>by simp[cnt],rfl⟩
  ·exact⟨.snil _ _ none,by simp[own,KR],λb=>by simp[cnt,KT],rfl⟩
  ·exact⟨.nilFn,by simp[own],λb=>by simp[cnt],rfl⟩
  ·exact⟨.nilIface,by simp[own],λb=>by simp[cnt],rfl⟩
  ·exact⟨.nmap,by simp[own],λb=>by simp[cnt],rfl⟩
  ·rename_i cs arr;obtain⟨h1,h2,h3,h4⟩:=Sn Γ w cs arr.toList h;exact⟨.agg h1 h2,by grind[own],λb=>by grind[cnt],rfl⟩
  grind theorem Sn (Γ:Ghost) (w:World):(xs:List AVal)->(vs:List Value)->Fw xs vs=true->RepL Γ xs vs/\(∀v,v∈vs->v.oneCell'=true)/\ownL Γ w xs vs/\∀b,AO b xs vs=0|[],[],_=>⟨.nil,fy,by simp[ownL],λb=>by simp[AO]⟩|[],_::_,h=>by grind[Fw]|_::_,[],h=>by grind[Fw]|x::xs,v::vs,h=>by simp only[Fw,av]at h;obtain⟨h1,h2,h3,h4⟩:=Sn Γ w xs vs h.2;have h0:=JJ Γ w x v h.1.1;refine⟨.cons h0.rep h1,?_,by rw[ownL];exact⟨h0.own,h3⟩,λb=>by rw[AO,h0.cnt b,h4 b]⟩;simp_all end
def Ail (P:Program):Nat->TypeId->AVal|0,_=>.any|d+1,t=>match P.underlying t with|some .bool=>.bool false|some (.int k)=>.int k 0|some .string=>.str []|some (.pointer _)=>.nilp|some (.map _ _)=>.nmap|some (.slice e)=>.slice ((BK P e).getD 0) [] true|some (.struct fs)=>.agg (fs.toList.flatMap λf=>AX (Ail P d f.type))|some (.array n e)=>.agg (List.replicate n (AX (Ail P d e))).flatten|some (.func _ _ _)=>.nilFn|some (.interface _)=>.nilIface|_=>.any
def Cf (P:Program) (t:TypeId):Option AVal:=match P.info? t with
 |some i=>match i.zero with|some v=>let z:=Ail P 20 t;if Ed z v then some z else none|none=>none
 |none=>none
theorem K8{P:Program}{t:TypeId}{z:AVal} (h:Cf P t=some z): ∃i v,P.info? t=some i/\i.zero=some v/\Ed z v=true:=by grind[Cf]
theorem Q7{t:TypeId}{z:AVal} (h:Cf E.P t=some z): ∃v,(zeroValue t).run E.P w=.ok v w/\RepC Γ w z v:=by
 unfold Cf at h;split at h
 ·rename_i i hi;split at h
  ·rename_i v hv;simp only at h;split at h;·rename_i hc;simp only[ae]at h;subst h;exact⟨v,by simp_all[zeroValue,typeInfo],JJ Γ w _ v hc⟩
   grind
  grind
 grind
structure Stepped (E:Env) (F:Nat->Nat) (Γ:Ghost) (st:St) (w:World) (a:Act) (o:Oper) (af':List AVal) (st':St) (nx:Next) (w':World) (a':Act) (Γ':Ghost):Prop where
  run:(execOp a.eval o).run E.P w=.ok nx w'
  upon: ∀K Q,K a' w'->o.upon E.P a K Q (.ok nx w')
  defers:a'.defers=a.defers
  ext:Ext F Γ w Γ' w'
  next:st.next<=st'.next
  sim:Sim E F Γ' st' w' af' a'.tmps.toList
theorem put_defers (a:Act) (dst:Option Tmp) (v:Value):(a.put dst v).defers=a.defers:=by cases dst<;>rfl
def Aux (P:Program):Nat->TypeId->Option TypeId
  |0,_=>none
  | d+1,t=>
    match P.underlying t with
    | some (.struct fs)=>
      match fs.toList with
      |[f]=>Aux P d f.type
      | [f,g]=>
        match P.underlying f.type,P.underlying g.type with
        |some (.pointer _),some (.slice e)=>some e
        |_,_=>none
      |_=>none
    |_=>none
def CX (P:Program) (t:TypeId) (n:Nat):Option (List AVal):=match Cf P t with
 |some z=>match Aux P 3 t,z with|some e,.agg [.nilp,.slice 1 [] true]=>some [.nself n t 2,.buf e [] true]|_,z=>some (AX z)
 |none=>none
def VF (P:Program) (t:TypeId) (n:Nat):Option (List AVal):=match CX P t n with|some [.nself i T k,.buf e [] true]=>some [.nself i T k,.nbuf e]|_=>none
theorem AQw (hs:Sim E F Γ st w af a.tmps.toList){o:Oper}{x:AVal}{v:Value}{t:TypeId}{af1:List AVal} (hs1:Sim E F Γ st w af1 a.tmps.toList) (hr:Rep Γ x v) (ho:own Γ w x v) (hx:CW x=true) (hc: ∀b,F b+AO b af1 a.tmps.toList+cnt b x v+Ah Γ w b st.m<=1) (hrun:(execOp a.eval o).run E.P w=.ok (.value (.pointer (some ⟨w.heap.size,0,none⟩))) (w.alloc (.cells v.cells t))):∃nx w' a' Γ',Stepped E F Γ st w a o (Ab af1 o.dst (.ptr st.next 0)) {m:=(st.next,AX x)::st.m,next:=st.next+1} nx w' a' Γ':=by have hR:=hr.cellsOK hx;have hT:v.cells.toList.take (AX x).length=v.cells.toList:=aZ (by rw[hR.length];omega);obtain⟨h1,h2,h3⟩:=hs1.newBox (e:=t) (cells:=v.cells) (cs:=AX x) (fz:=(0,0)) fy (by rw[hT];exact hR.mono (hs1.le_box _)) (UR hr hx ho) (by rw[hT];exact hr.one hx) (λb=>by grind[UN]);refine⟨_,_,_,_,hrun,λK Q hk=>hk,put_defers _ _ _,h2,fy,?_⟩;refine h1.put o.dst h3 (by simp[own]) λb=>?_;have:=h1.tok b;grind[cnt]
theorem AWO (hs:Sim E F Γ st w af a.tmps.toList){o:Oper}{t:TypeId}{cs:List AVal} (hop:o.op=.alloc t) (hz:CX E.P t st.next=some cs):∃nx w' a' Γ',Stepped E F Γ st w a o (Ab af o.dst (.ptr st.next 0)) {m:=(st.next,cs)::st.m,next:=st.next+1} nx w' a' Γ':=by
 unfold CX at hz;split at hz
 ·rename_i z hz0;obtain⟨v,hv,hc⟩:=Q7 (Γ:=Γ) (w:=w) hz0;have hrun:(execOp a.eval o).run E.P w=.ok (.value (.pointer (some ⟨w.heap.size,0,none⟩))) (w.alloc (.cells v.cells t)):=by simp_all[execOp,Instr.alloc,newVar,newRow]
  split at hz
  ·rename_i e hb;cases hz;obtain⟨v',hv',h2⟩: ∃v',v=v'/\Ed (.agg [.nilp,.slice 1 [] true]) v'=true:=by obtain⟨i,v1,q1,q2,q3⟩:=K8 hz0;have:=hv;simp[zeroValue,typeInfo,q1,q2]at this;exact⟨v,rfl,by rw[<-this];exact q3⟩
   subst hv';have hcell:v.cells.toList=[.pointer none,.slice none 0 0]:=by
    cases v<;>simp[Ed]at h2;rename_i arr;obtain⟨l⟩:=arr;simp only[Value.cells];match l,h2 with
    |[],h2=>grind[Fw]
    |[_],h2=>grind[Fw]
    |[p,q],h2=>
     simp[Fw]at h2;obtain⟨⟨h3,_⟩,⟨h4,_⟩⟩:=h2;have e3:p=.pointer none:=by unfold Ed at h3;split at h3<;>simp_all
     have e4:q=.slice none 0 0:=by unfold Ed at h4;split at h4<;>simp_all
     grind
    |_::_::_::_,h2=>grind[Fw]
   have hsz:v.cells.size=2:=by grind[Array.length_toList]
   obtain⟨h1,h2,h3⟩:=hs.newBox (e:=t) (cells:=v.cells) (cs:=[.nself st.next t 2,.buf e [] true]) (fz:=(0,0)) fy (by rw[hcell,hsz];refine .cons (.nself (by simp[Ghost.box])) (.cons (.buf _ (.snil _ _ _) ⟨rfl,rfl⟩) .nil)) (by rw[hcell];simp only[ownL,VM.own,KR,dL,cC];intro b hb;grind[CG]) (by rw[hcell];intro u hu;simp at hu;rcases hu with rfl|rfl<;>rfl) (λb=>by rw[hcell];have:=hs.tok b;grind[AO,cnt,CG]);refine⟨_,_,_,_,hrun,λK Q hk=>hk,put_defers _ _ _,h2,fy,?_⟩;refine h1.put o.dst h3 (by simp[own]) λb=>?_;have:=h1.tok b;grind[cnt]
  ·cases hz;exact AQw hs hs hc.rep hc.own hc.ok (λb=>by rw[hc.cnt b];have:=hs.tok b;omega) (t:=t) hrun
 grind
theorem APB{i k:Nat}{T e:TypeId}{z:AVal}{v:Value} (h:Ed z v=true) (hz:AX z=[.nself i T k,.buf e [] true]):False:=by cases z<;>simp[AX]at hz;subst hz;cases v<;>simp[Ed]at h;rename_i arr;obtain⟨l⟩:=arr;cases l<;>simp[Fw,Ed]at h
theorem AOU (hs:Sim E F Γ st w af a.tmps.toList){o:Oper}{t:TypeId}{cs:List AVal} (hop:o.op=.alloc t) (hz:VF E.P t st.next=some cs):∃nx w' a' Γ',Stepped E F Γ st w a o (Ab af o.dst (.ptr st.next 0)) {m:=(st.next,cs)::st.m,next:=st.next+1} nx w' a' Γ':=by
 unfold VF at hz;split at hz;rotate_left;·grind
 rename_i ii TT kk ee hA;simp only[ae]at hz;subst hz;unfold CX at hA;split at hA
 ·rename_i z hz0;obtain⟨v,hv,hc⟩:=Q7 (Γ:=Γ) (w:=w) hz0;have hrun:(execOp a.eval o).run E.P w=.ok (.value (.pointer (some ⟨w.heap.size,0,none⟩))) (w.alloc (.cells v.cells t)):=by simp_all[execOp,Instr.alloc,newVar,newRow]
  split at hA
  ·rename_i e hb;cases hA;obtain⟨v',hv',h2⟩: ∃v',v=v'/\Ed (.agg [.nilp,.slice 1 [] true]) v'=true:=by obtain⟨i,v1,q1,q2,q3⟩:=K8 hz0;have:=hv;simp[zeroValue,typeInfo,q1,q2]at this;exact⟨v,rfl,by rw[<-this];exact q3⟩
   subst hv';have hcell:v.cells.toList=[.pointer none,.slice none 0 0]:=by
    cases v<;>simp[Ed]at h2;rename_i arr;obtain⟨l⟩:=arr;simp only[Value.cells];match l,h2 with
    |[],h2=>grind[Fw]
    |[_],h2=>grind[Fw]
    |[p,q],h2=>
     simp[Fw]at h2;obtain⟨⟨h3,_⟩,⟨h4,_⟩⟩:=h2;have e3:p=.pointer none:=by unfold Ed at h3;split at h3<;>simp_all
     have e4:q=.slice none 0 0:=by unfold Ed at h4;split at h4<;>simp_all
     grind
    |_::_::_::_,h2=>grind[Fw]
   have hsz:v.cells.size=2:=by grind[Array.length_toList]
   obtain⟨h1,h2,h3⟩:=hs.newBox (e:=t) (cells:=v.cells) (cs:=[.nself st.next t 2,.nbuf ee]) (fz:=(0,0)) fy (by rw[hcell,hsz];refine .cons (.nself (by simp[Ghost.box])) (.cons (.nbuf _) .nil)) (by grind[ownL,VM.own]) (by rw[hcell];intro u hu;simp at hu;rcases hu with rfl|rfl<;>rfl) (λb=>by rw[hcell];have:=hs.tok b;grind[AO,cnt]);refine⟨_,_,_,_,hrun,λK Q hk=>hk,put_defers _ _ _,h2,fy,?_⟩;refine h1.put o.dst h3 (by simp[own]) λb=>?_;have:=h1.tok b;grind[cnt]
  grind[Option.some.injEq,K8,APB]
 grind
theorem AUK (hs:Sim E F Γ st w af a.tmps.toList){o:Oper}{t:TypeId}{x:Operand} (hop:o.op=.box t x) (hx:CW (rd E af t x)=true):∃nx w' a' Γ',Stepped E F Γ st w a o (Ab (stripAt af x) o.dst (.ptr st.next 0)) {m:=(st.next,AX (rd E af t x))::st.m,next:=st.next+1} nx w' a' Γ':=by
 refine AQw hs (hs.stripAt x) (hs.rd t x) (hs.rd_own t x) hx (λb=>?_) (t:=t) ?_;·have:=hs.rd_cnt t x b;have:=hs.tok b;omega
 simp_all[execOp,Instr.box,newVar,newRow]
theorem Ub (hs:Sim E F Γ st w af a.tmps.toList){o:Oper}{r:AVal} (h:DX E o af=some r):∃nx w' a' Γ',Stepped E F Γ st w a o (Ab af o.dst r.strip) st nx w' a' Γ':=by obtain⟨v,hv,hr⟩:=ABg hs h;exact⟨_,_,_,Γ,hv,λK Q hk=>hk,put_defers _ _ _,Ext.refl _ _ _,au _,hs.putStrip o.dst hr⟩
theorem Xi (hs:Sim E F Γ st w af a.tmps.toList){o:Oper}{x:Operand} (hop:o.op=.move x\/o.op=.assign x):∃nx w' a' Γ',Stepped E F Γ st w a o (Ab (stripAt af x) o.dst (rd E af o.type x)) st nx w' a' Γ':=by
 refine⟨.value (a.eval x),w,a.put o.dst (a.eval x),Γ,?_,λK Q hk=>hk,put_defers _ _ _,Ext.refl _ _ _,au _,?_⟩;·rcases hop with h|h<;>simp[execOp,h]
 ·refine(hs.stripAt x).put o.dst (hs.rd o.type x) (hs.rd_own o.type x) λb=>?_;have:=hs.rd_cnt o.type x b;have:=hs.tok b;omega
theorem AWP (hs:Sim E F Γ st w af a.tmps.toList){o:Oper}{t:TypeId}{x:Operand}{lo hi mx:Option Operand}{l h m:Option Int}{r:AVal} (hop:o.op=.slice t x lo hi mx) (hl:rdo E af lo=some l) (hh:rdo E af hi=some h) (hm:rdo E af mx=some m) (hr:FW E t (rd E af t x) l h m=some r):∃nx w' a' Γ',Stepped E F Γ st w a o (Ab af o.dst r) st nx w' a' Γ':=by
 obtain⟨kl,el⟩:=Pq hs hl;obtain⟨kh,eh⟩:=Pq hs hh;obtain⟨km,em⟩:=Pq hs hm;obtain⟨u,h1,h2,h3,h4⟩:=ALQ (w:=w) (kl:=kl) (kh:=kh) (km:=km) (hs.rd t x) hr;refine⟨.value u,w,a.put o.dst u,Γ,?_,λK Q hk=>hk,put_defers _ _ _,Ext.refl _ _ _,au _,?_⟩;·simp_all[execOp]
 ·refine hs.put o.dst h2 h4 λb=>?_;rw[h3 b];have:=hs.tok b;omega
end
end Go.VM
set_option linter.unusedVariables false
namespace Go.VM
def WO{m:List (Nat×List AVal)}{i:Nat}{x:List AVal} (hk:(m.map (·.1)).Nodup){p:Nat×List AVal} (h:p∈Ar m i x):(p=(i,x)/\∃c,(i,c)∈m)\/(p∈m/\p.1≠i):=by
 induction m with
 |nil=>grind[Ar]
 | cons q m ih=>
  obtain⟨j,c⟩:=q;simp only[aF,bW]at hk;simp only[Ar]at h;split at h
  ·rename_i e;subst e;rcases aP.1 h with rfl|h;·simp
   grind
  ·rename_i e;rcases aP.1 h with rfl|h;·grind
   grind
def IL {Γ Γ':Ghost}{w w':World}{b:Nat}{m:List (Nat×List AVal)}{i:Nat}{cs x:List AVal} (hk:(m.map (·.1)).Nodup) (hg:Af m i=some cs) (ho: ∀p,p∈m->p.1≠i->Ct Γ' w' b p=Ct Γ w b p):Ah Γ' w' b (Ar m i x)+Ct Γ w b (i,cs)=Ah Γ w b m+Ct Γ' w' b (i,x):=by
 induction m with
 |nil=>grind[Af]
 | cons q m ih=>
  obtain⟨j,c⟩:=q;simp only[aF,bW]at hk;simp only[Af]at hg;simp only[Ar];split at hg
  ·rename_i e;subst e;simp only[ae]at hg;subst hg;rw[aq rfl];simp only[Ah];have:Ah Γ' w' b m=Ah Γ w b m:=by
    have hm: ∀p,p∈m->p.1≠i:=λp hp e=>hk.1 (bD.2 ⟨p,hp,e⟩);clear ih;induction m with
    |nil=>rfl
    | cons p m ih2=>
     rw[Ah,Ah,ho p fy (hm p fy),ih2 ?_ ?_ ?_]
     ·intro q hq;rcases aP.1 hq with rfl|hq;·exact ho _ fy
      ·exact ho q (aR _ (aR _ hq))
     ·simp only[aF,aP,not_or,bW]at hk;exact⟨hk.1.2,hk.2.2⟩
     ·exact λq hq=>hm q (aR _ hq)
   omega
  ·rename_i e;rw[an e];grind[Ah]
def Py (m:List (Nat×List AVal)) (i:Nat) (x y:List AVal):Ar (Ar m i x) i y=Ar m i y:=by induction m<;>grind[Ar]
def H8{m:List (Nat×List AVal)}{i:Nat}{c x:List AVal} (h:Af m i=some c):Af (Ar m i x) i=some x:=by induction m with|nil=>grind[Af]|cons p m ih=>obtain⟨j,d⟩:=p;simp only[Af]at h;simp only[Ar];split<;>simp_all[Af]
def ACx{m:List (Nat×List AVal)}{i:Nat}{c:List AVal} (h:Af m i=some c):Ar m i c=m:=by induction m with|nil=>rfl|cons p m ih=>obtain⟨j,d⟩:=p;simp only[Af]at h;simp only[Ar];split<;>simp_all
def putCells (cs:List AVal) (off:Nat):List AVal->List AVal|[]=>cs|c::r=>putCells (cs.set off c) (off+1) r
section
variable{E:Env}{F:Nat->Nat}{Γ:Ghost}{st:St}{w:World}{af:List AVal}{a:Act}
theorem _root_.List.getElem?_take_some{α:Type}{l:List α}{n i:Nat}{x:α} (h:(l.take n)[i]?=some x):l[i]?=some x:=by grind
def BoxOK.le{i:Nat}{cs:List AVal}{b:Nat}{arr:Array Value}{e:TypeId} (h:BoxOK Γ w (i,cs) b arr e):cs.length<=arr.size:=by have:=h.rep.length;grind
theorem Sim.box{tm:List Value} (hs:Sim E F Γ st w af tm){i:Nat}{cs:List AVal}{b0:Nat} (h:Af st.m i=some cs) (hbx:Γ.bx i=some b0): ∃b arr e,BoxOK Γ w (i,cs) b arr e:=by
 rcases hs.box_ok _ (Kv h)with h|⟨v,hv⟩;·exact h
 ·have:=hv.bx;grind
def R5 (w:World) (b off:Nat) (v:Value){arr:Array Value}{e:TypeId}{fz:Nat×Nat} (h:w.heap[b]?=some (.cells arr e fz)):(w.setCell ⟨b,off,none⟩ v).heap[b]?=some (.cells (arr.setIfInBounds off v) e fz):=by grind[World.setCell]
theorem I4 (w:World) (b off k:Nat) (v:Value) (h:k≠b):(w.setCell ⟨b,off,none⟩ v).heap[k]?=w.heap[k]?:=by simp only[World.setCell,dP];rw[an (λe=>h e.symm)]
def Sim.setBox (hs:Sim E F Γ st w af a.tmps.toList){i b:Nat}{cs cs':List AVal}{arr arr':Array Value}{e:TypeId}{lo hi:Nat}{w':World} (hg:Af st.m i=some cs) (hb:BoxOK Γ w (i,cs) b arr e) (hw:w'.heap[b]?=some (.cells arr' e (lo,hi))) (hf: ∀j,j<arr'.size->¬(lo<=j/\j<hi)) (hk: ∀k,k≠b->w'.heap[k]?=w.heap[k]?) (hz:w'.heap.size=w.heap.size) (ho:w'.os=w.os) (hou:w'.output=w.output) (hta:w'.tape=w.tape) (hr:RepL Γ cs' (arr'.toList.take cs'.length)) (hown:ownL Γ w cs' arr'.toList) (h1: ∀v,v∈arr'.toList.take cs'.length->v.oneCell'=true) (ht: ∀n,F n+AO n af a.tmps.toList+AO n cs' arr'.toList+Ah Γ w n st.m<=1+AO n cs arr.toList) (hsz:arr'.size=arr.size:=by simp):Sim E F Γ {st with m:=Ar st.m i cs'} w' af a.tmps.toList/\Ext F Γ w Γ w':=by
 have comb: ∀n cs0,Γ.com n=some cs0->n≠b:=λn cs0 h e=>by subst e;rw[hb.com]at h;cases h
 have keep: ∀n,Held Γ w n->w'.heap[n]?=w.heap[n]?/\Γ.com n=Γ.com n:=λn h=>⟨hk n (by obtain⟨lo0,hi0,hh0,_⟩:=hb.heap;rcases h with⟨c,h⟩|⟨s,p,h⟩|⟨s,p,h⟩<;>grind),rfl⟩;have hFb:F b=0:=hs.bx_F (i,cs) b (Kv hg) hb.bx;obtain⟨lo0,hi0,hh0,_⟩:=hb.heap;have oth: ∀p,p∈st.m->p.1≠i->∀k,Γ.bx p.1=some k->k≠b:=λp hp hne k hk' e=>by rw[e]at hk';exact hne (hs.inj _ _ _ hk' hb.bx)
 refine⟨?_,⟨Γ.le_refl,λn hn=>⟨hk n (λe=>by grind),rfl⟩,fx,ho,hou,hta⟩⟩;refine {com_ok:=?_,box_ok:=?_,sx_next:=hs.sx_next,keys:=?_,inj:=hs.inj,bx_lt:=?_,bx_next:=hs.bx_next,tyd:=hs.tyd,bx_F:=?_,F_lt:=?_,glob:=hs.glob,rep:=hs.rep,own:=?_,tok:=?_};·intro n c h;obtain⟨ar,e',fz,h2,h3⟩:=hs.com_ok n c h;grind
 ·intro p hp;rcases WO hs.keys hp with⟨rfl,_⟩|⟨hp,hne⟩;·exact .inl ⟨b,arr',e,hb.bx,⟨lo,hi,hw,hf⟩,hr,Be Γ.le_refl _ _ hown λn hn=>keep n (Bl _ _ hown hn).2,hb.com,h1,λT n h=>by rw[hsz];exact hb.ty T n h⟩
  ·rcases hs.box_ok p hp with⟨k,ar,e',hp'⟩|⟨v,hv⟩;rotate_left;·exact .inr ⟨v,hv.keep Γ.le_refl hv.bx λn hn=>keep n (Bl _ _ hv.own hn).2⟩
   obtain⟨l2,h2,h3,h4⟩:=hp'.heap;exact .inl ⟨k,ar,e',hp'.bx,⟨l2,h2,by rw[hk k (oth p hp hne k hp'.bx)];omega,h4⟩,hp'.rep,Be Γ.le_refl _ _ hp'.own λn hn=>keep n (Bl _ _ hp'.own hn).2,hp'.com,hp'.one,hp'.ty⟩
 ·rw[ADd];exact hs.keys
 ·intro j n h;rw[hz];exact hs.bx_lt j n h
 ·intro p n hp hn;rcases WO hs.keys hp with⟨rfl,c,hc⟩|⟨hp,hne⟩;·exact hs.bx_F (i,c) n hc hn
  ·exact hs.bx_F p n hp hn
 ·intro n hn;rw[hz]at hn;exact hs.F_lt n hn
 ·exact Be Γ.le_refl _ _ hs.own λn hn=>keep n (Bl _ _ hs.own hn).2
 ·intro n;have e1:=IL (Γ:=Γ) (Γ':=Γ) (w:=w) (w':=w') (b:=n) (x:=cs') hs.keys hg (λp hp hne=>XX rfl λk hkk=>hk k (oth p hp hne k hkk));have e2:Ct Γ w n (i,cs)=AO n cs arr.toList:=by simp only[Ct,hb.bx,hcells,hh0]
  have e3:Ct Γ w' n (i,cs')=AO n cs' arr'.toList:=by simp only[Ct,hb.bx,hcells,hw]
  grind
def Sim.setSh{tm:List Value} (hs:Sim E F Γ st w af tm){i:Nat}{cs cs':List AVal}{v:Value} (hg:Af st.m i=some cs) (hv:ShOK Γ w (i,cs) v) (hr:RepL Γ cs' [v]) (hown:ownL Γ w cs' [v]) (ht: ∀n,F n+AO n af tm+AO n cs' [v]+Ah Γ w n st.m<=1+AO n cs [v]):Sim E F Γ {st with m:=Ar st.m i cs'} w af tm:=by
 refine {hs with box_ok:=?_,keys:=?_,bx_F:=?_,tok:=?_}
 ·intro p hp;rcases WO hs.keys hp with⟨rfl,_⟩|⟨hp,hne⟩;·exact .inr ⟨v,hv.sx,hv.bx,hr,hown⟩
  ·exact hs.box_ok p hp
 ·rw[ADd];exact hs.keys
 ·intro p n hp hn;rcases WO hs.keys hp with⟨rfl,c,hc⟩|⟨hp,hne⟩;·exact hs.bx_F (i,c) n hc hn
  ·exact hs.bx_F p n hp hn
 ·intro n;have e1:=IL (Γ:=Γ) (Γ':=Γ) (w:=w) (w':=w) (b:=n) (x:=cs') hs.keys hg (λp hp hne=>rfl);have e2:Ct Γ w n (i,cs)=AO n cs [v]:=hv.cnt n;have e3:Ct Γ w n (i,cs')=AO n cs' [v]:=by simp only[Ct,hv.bx,hv.sx]
  grind
def AOy{cells:List AVal}: ∀ {vs:List Value}{k off:Nat}{st:St}{w:World}{cs:List AVal}{i b base:Nat},Sim E F Γ st w af a.tmps.toList->RepL Γ cells vs->ownL Γ w cells vs->(∀v,v∈vs->v.oneCell'=true)->Af st.m i=some cs->Γ.bx i=some b->base+k=off->off+cells.length<=cs.length->(∀n,F n+AO n af a.tmps.toList+AO n cells vs+Ah Γ w n st.m<=1)->∃w',(storeCells ⟨b,base,none⟩ vs k).run E.P w=.ok () w'/\Sim E F Γ {st with m:=Ar st.m i (putCells cs off cells)} w' af a.tmps.toList/\Ext F Γ w Γ w':=by
 induction cells with
 |nil=>intro vs k off st w cs i b base hs hr ho h1 hg hbx he hl ht;cases hr;refine⟨w,by simp[storeCells],?_,Ext.refl _ _ _⟩;rw[putCells,ACx hg];omega
 | cons c cells ih=>
  intro vs k off st w cs i b base hs hr ho h1 hg hbx he hl ht;cases hr with
  | cons hc hr=>
   rename_i v vs;rw[ownL]at ho;obtain⟨b',arr,e,hb⟩:=hs.box hg hbx;have:b'=b:=by have:=hb.bx;grind
   subst this;obtain⟨lo,hi,hh,hf⟩:=hb.heap;have hlen:cs.length<=arr.size:=hb.le;simp only[ag]at hl;have hoff:off<arr.size:=fx;have hcell:w.cell? ⟨b',off,none⟩=some arr[off]:=by grind[World.cell?]
   have hfz:w.frozen? ⟨b',off,none⟩=false:=by simp_all[World.frozen?]
   have hst:(store ⟨b',off,none⟩ v).run E.P w=.ok () (w.setCell ⟨b',off,none⟩ v):=by grind[run_store]
   have hset:(arr.setIfInBounds off v).toList=arr.toList.set off v:=fy;obtain⟨s1,x1⟩:=hs.setBox (w':=w.setCell ⟨b',off,none⟩ v) (cs':=cs.set off c) (arr':=arr.setIfInBounds off v) (lo:=lo) (hi:=hi) hg hb (R5 w b' off v hh) (by grind) (λk hk=>I4 w b' off k v hk) fy rfl rfl rfl (by rw[hset,bX,List.take_set];exact hb.rep.set off hc) (by rw[hset];exact hb.own.set off ho.1) (by
    rw[hset,bX,List.take_set];intro u hu;rcases eL hu with h|h;·exact hb.one u h
    grind) (λn=>by grind[HY,AO]);have hown':ownL Γ (w.setCell ⟨b',off,none⟩ v) cells vs:=Be Γ.le_refl _ _ ho.2 λn hn=>by
    rcases (Bl _ _ ho.2 hn).2 with⟨c0,hc0⟩|⟨s0,p0,hc0⟩|⟨s0,p0,hc0⟩;·exact⟨I4 w b' off n v (λe=>by subst e;rw[hb.com]at hc0;grind),rfl⟩
    ·exact⟨I4 w b' off n v (λe=>by grind),rfl⟩
    ·exact⟨I4 w b' off n v (λe=>by grind),rfl⟩
   have ht': ∀n,F n+AO n af a.tmps.toList+AO n cells vs+Ah Γ (w.setCell ⟨b',off,none⟩ v) n (Ar st.m i (cs.set off c))<=1:=by
    intro n;have oth: ∀p,p∈st.m->p.1≠i->∀k,Γ.bx p.1=some k->k≠b':=λp hp hne k hk e=>by rw[e]at hk;exact hne (hs.inj _ _ _ hk hb.bx)
    have e1:=IL (Γ:=Γ) (Γ':=Γ) (w:=w) (w':=w.setCell ⟨b',off,none⟩ v) (b:=n) (x:=cs.set off c) hs.keys hg (λp hp hne=>XX rfl λk hkk=>I4 w b' off k v (oth p hp hne k hkk));have e2:Ct Γ w n (i,cs)=AO n cs arr.toList:=by grind[Ct,hcells]
    have e3:Ct Γ (w.setCell ⟨b',off,none⟩ v) n (i,cs.set off c)=AO n (cs.set off c) (arr.toList.set off v):=by simp only[Ct,hb.bx,hcells,R5 w b' off v hh,hset]
    grind[HY,AO]
   obtain⟨w',r2,s2,x2⟩:=ih (k:=k+1) (off:=off+1) (base:=base) s1 hr hown' (λu hu=>h1 u (aR _ hu)) (H8 hg) hbx fx (by grind) ht';refine⟨w',?_,?_,x1.trans x2⟩;·grind[storeCells,addr_add,Sem.run_bind,Result.andThen_ok]
   ·simp only[Py]at s2;exact s2
def VJ (st:St) (x:AVal):Option (Nat×Nat×List AVal):=match x with
 |.sh i=>match Af st.m i with|some [.slop w xs]=>some (i,w,xs)|_=>none
 |.sptr i w n=>match Af st.m i with|some [.slop w' xs]=>if w'=w/\xs.length=n then some (i,w,xs)else none|_=>none
 |_=>none
def LZ:AVal->Bool|.sh _=>true|_=>false
def AAf (E:Env) (t:TypeId) (addr v:AVal) (st:St):Option St:=match addr,VJ st addr with|.sptr _ _ _,some (i,w,xs)=>if CW v=true/\BK E.P t=some w/\(AX v).length=w then some {st with m:=Ar st.m i [.slice w (xs++[v.strip]) true]}else none|_,_=>none
def X5 (E:Env) (t:TypeId) (addr v:AVal) (st:St):Option St:=match addr with
 |.ptr i off=>match Af st.m i with|some cs=>if CW v=true/\BK E.P t=some (AX v).length/\off+(AX v).length<=cs.length then some {st with m:=Ar st.m i (putCells cs off (AX v))}else none|none=>none
 |_=>none
def AA8 (E:Env) (t:TypeId) (addr v:AVal) (st:St):Option St:=match addr with
 |.vptr i w n k=>match Af st.m i with|some [.vec w' xs]=>if w'=w/\k=0/\n<xs.length/\CW v=true/\BK E.P t=some w/\(AX v).length=w then some {st with m:=Ar st.m i [.vec w (xs.set n v.strip)]}else none|_=>none
 |_=>none
def AAm (E:Env) (t:TypeId) (addr v:AVal) (st:St):Option St:=match addr with
 |.vptr i w n k=>match Af st.m i with|some [.vec w' xs]=>if w'=w/\n<xs.length/\CW v=true/\CW (xs.getD n .any)=true/\(AX (xs.getD n .any)).length=w/\BK E.P t=some (AX v).length/\k+(AX v).length<=w then some {st with m:=Ar st.m i [.vec w (xs.set n (.agg (putCells (AX (xs.getD n .any)) k (stripL (AX v)))))]}else none|_=>none
 |_=>none
def Xz (E:Env) (t:TypeId) (addr v:AVal) (st:St):Option St:=match AA8 E t addr v st with|some s=>some s|none=>AAm E t addr v st
def Q9 (E:Env) (t:TypeId) (addr v:AVal) (st:St):Option St:=match addr with|.ptr i off=>X5 E t (.ptr i off) v st|.vptr i w n k=>Xz E t (.vptr i w n k) v st|addr=>AAf E t addr v st
def OP (E:Env) (t:TypeId) (addr v:AVal) (st:St):Option St:=match v with
 |.sh i=>match Af st.m i with|some [.slice w xs o]=>if LZ addr=false then Q9 E t addr (.slice w xs o) {st with m:=Ar st.m i [.slice w xs false]}else none|_=>Q9 E t addr (.sh i) st
 |v=>Q9 E t addr v st
theorem APc (hs:Sim E F Γ st w af a.tmps.toList){o:Oper}{t:TypeId}{x y:Operand}{st':St} (hop:o.op=.store t x y) (hd:o.dst=none) (h:X5 E t (rd E af 0 x) (rd E af t y) st=some st'):∃nx w' a' Γ',Stepped E F Γ st w a o (stripAt af y) st' nx w' a' Γ'/\a'.tmps=a.tmps:=by
 have hx:=hs.rd 0 x;generalize rd E af 0 x=ax at *;generalize hv:a.eval x=vx at hx;unfold X5 at h;split at h
 ·rename_i i off;cases hx with
  |ptr hbx=>
   rename_i b;split at h
   ·rename_i cs hg;split at h
    ·rename_i hc;obtain⟨hok,hz,hl⟩:=hc;simp only[ae]at h;subst h;have hr:=hs.rd t y;have ho:=hs.rd_own t y;have hsz:(a.eval y).cells.size=(AX (rd E af t y)).length:=by rw[(hr.cellsOK hok).length,aC]
     obtain⟨w',r1,s1,x1⟩:=AOy (cells:=AX (rd E af t y)) (k:=0) (base:=off) (hs.stripAt y) (hr.cellsOK hok) (UR hr hok ho) (hr.one hok) hg hbx fy hl (λn=>by rw[UN hr hok];have:=hs.rd_cnt t y n;have:=hs.tok n;omega);refine⟨.skip,w',a.put o.dst undef,Γ,⟨?_,λK Q hk=>hk,put_defers _ _ _,x1,au _,?_⟩,by rw[hd];rfl⟩;·simp only[execOp,hop,hv,Instr.storeAt,Instr.sureAddr];simp[storeVar,Cw hz,hsz,r1]
     ·rw[hd];exact s1
    grind
   grind
 grind
def RepS.elem{w:Nat}: ∀ {xs:List AVal}{cs:List Value}{n:Nat},RepS Γ w xs cs->n<xs.length->∃v,Rep Γ (xs.getD n .any) v/\v.cells.size=w/\(∀c,c∈v.cells.toList->c.oneCell'=true)/\∀j u,v.cells.toList[j]?=some u->cs[n * w+j]?=some u
 |[],_,_,_,hn=>absurd hn (cm _)
 | x::xs,_,n,.cons (v:=v) (cs:=cs) h hw t,hn=>by
  cases n with
  |zero=>refine⟨v,h,hw.1,hw.2,λj u hj=>?_⟩;rw[eu,bJ,eM (dx.1 hj).1];exact hj
  |succ n=>
   obtain⟨u,h1,h2,h3,h4⟩:=RepS.elem (n:=n) t (by simpa using hn);refine⟨u,h1,h2,h3,λj y hj=>?_⟩;have h5:v.cells.toList.length=w:=by rw[aC];exact hw.1
   rw[eC (by rw[h5,bB];omega),h5,show(n+1) * w+j-w=n * w+j by rw[bB];omega];exact h4 j y hj
def ABF{tm:List Value} (hs:Sim E F Γ st w af tm){i:Nat}{cs:List AVal}{v:Value} (hsx:Γ.sx i=some v) (hg:Af st.m i=some cs):ShOK Γ w (i,cs) v:=by
 rcases hs.box_ok _ (Kv hg)with⟨b,arr,e,hb⟩|⟨u,hv⟩;·have:=(hs.sx_next _ _ hsx).2;have h2:=hb.bx;rw[this]at h2;cases h2
 ·have:u=v:=by have:=hv.sx;rw[hsx]at this;exact(cA this).symm
  subst this;exact hv
def ALt{tm:List Value} (hs:Sim E F Γ st w af tm){i wd b off len cap:Nat}{xs:List AVal} (hsx:Γ.sx i=some (.slice (some ⟨b,off,none⟩) len cap)) (hg:Af st.m i=some [.vec wd xs]):len=xs.length/\∃arr e lo hi,w.heap[b]?=some (.cells arr e (lo,hi))/\(∀j,j<arr.size->¬(lo<=j/\j<hi))/\Γ.com b=some []/\xs.length<=cap/\xs.length<=Bg/\off+cap * wd<=arr.size/\RepS Γ wd xs (arr.toList.drop off):=by
 have hv:=(ABF hs hsx hg).own;simp only[ownL,VM.own,cC]at hv;rcases hv with⟨_,h⟩|⟨b',off',cap',arr,e,lo,hi,h,h1⟩;·cases h
 ·cases h;exact⟨rfl,arr,e,lo,hi,h1⟩
def SL (st:St):AVal->Option (List AVal)
 |.ptr i off=>(Af st.m i).map (·.drop off)
 |.cptr cs=>some cs
 |.vptr i w n k=>match Af st.m i with|some [.vec w' xs]=>if w'=w/\n<xs.length/\CW (xs.getD n .any)=true then some ((AX (xs.getD n .any)).drop k)else none|_=>none
 |_=>none
def Rb (E:Env) (t:TypeId) (addr:AVal) (st:St):Option AVal:=match SL st addr,BK E.P t with|some cs,some z=>if Ae E.P t then Uv cs 0 z (BC E.P t)else none|_,_=>none
def AgF{t:TypeId}{cs:List AVal}{vs:List Value}{b off z:Nat}{r:AVal} (hr:RepL Γ cs vs) (h1: ∀v,v∈vs->v.oneCell'=true) (hc: ∀j v,vs[j]?=some v->w.cell? ⟨b,off+j,none⟩=some v) (hk:Ae E.P t=true) (hz:BK E.P t=some z) (h:Uv cs 0 z (BC E.P t)=some r): ∃u,(Instr.loadAt t (.pointer (some ⟨b,off,none⟩))).run E.P w=.ok u w/\Rep Γ r u:=by
 have ha:=QF (w:=w) hk;unfold Uv at h;split at h
 ·rename_i hg;rw[hg]at ha;split at h
  ·rename_i hl;simp only[ae]at h;subst h;have hlen:(vs.take z).length=z:=by rw[ba,<-hr.length];omega
   have key:=dG (P:=E.P) w ⟨b,off,none⟩ (vs.take z) (λj v hj=>by
    rw[addr_add];apply hc;rw[c8]at hj;split at hj;·exact hj
    ·cases hj);rw[hlen]at key;refine⟨.agg (vs.take z).toArray,?_,.agg ?_ ?_⟩;·simp[Instr.loadAt,Instr.sureAddr,loadVar,ha,Cw hz,key]
   ·simp only[aL];exact hr.take z
   grind
  grind
 ·rename_i hg;rw[eU]at hg;rw[hg]at ha;obtain⟨v,hv,hrep⟩:=hr.get? h;have hc0:=hc 0 v hv;simp_all[Instr.loadAt,Instr.sureAddr,loadVar]
def ABv (hs:Sim E F Γ st w af a.tmps.toList){x:AVal}{v:Value}{cs:List AVal} (hx:Rep Γ x v) (h:SL st x=some cs):∃b off vs,v=.pointer (some ⟨b,off,none⟩)/\RepL Γ cs vs/\(∀v,v∈vs->v.oneCell'=true)/\∀j u,vs[j]?=some u->w.cell? ⟨b,off+j,none⟩=some u:=by
 unfold SL at h;split at h
 ·rename_i i off;cases hx with
  |ptr hbx=>
   rename_i b;cases hg:Af st.m i with
   |none=>grind
   |some c=>
    simp only[hg,aK,ae]at h;subst h;obtain⟨b',arr,e,hb⟩:=hs.box hg hbx;have:b'=b:=by have:=hb.bx;grind
    subst this;obtain⟨lo,hi,hh,hf⟩:=hb.heap;refine⟨b',off,(arr.toList.take c.length).drop off,rfl,hb.rep.drop off,λv hv=>hb.one v (cL hv),λj u hj=>?_⟩;grind[World.cell?]
 ·simp only[ae]at h;subst h;cases hx with
  |cptr hb hd hr ho=>
   rename_i b off cells vs rest;obtain⟨arr,e,fz,hh,⟨ds,hds⟩,_⟩:=hs.com_ok _ _ hb;refine⟨b,off,vs,rfl,hr,ho,λj u hj=>?_⟩;have h1:cells[off+j]?=some u:=by rw[<-bU,hd,eM (dx.1 hj).1];omega
   have h2:arr.toList[off+j]?=some u:=by grind
   grind[World.cell?]
 ·rename_i i w' n k;split at h
  ·rename_i w2 xs hg;split at h;·rename_i hc;obtain⟨rfl,hn,hok⟩:=hc;simp only[ae]at h;subst h;cases hx with|vptr hsx=>rename_i b off len cap;obtain⟨_,arr,e,lo,hi,h1,_,_,_,_,_,hS⟩:=ALt hs hsx hg;obtain⟨u,hu,hz,ho,hj⟩:=hS.elem hn;refine⟨b,off+(n * w2+k),u.cells.toList.drop k,rfl,(hu.cellsOK hok).drop k,λv hv=>ho v (cL hv),λj y hy=>?_⟩;rw[bU]at hy;have h2:=hj _ _ hy;rw[bU]at h2;simp only[World.cell?,h1];rw[show off+(n * w2+k)+j=off+(n * w2+(k+j)) by omega];simpa using h2
   ·cases h
  ·cases h
 ·cases h
theorem Ab5 (hs:Sim E F Γ st w af a.tmps.toList){o:Oper}{t:TypeId}{x:Operand}{r:AVal} (hop:o.op=.load t x) (h:Rb E t (rd E af 0 x) st=some r):∃nx w' a' Γ',Stepped E F Γ st w a o (Ab af o.dst r.strip) st nx w' a' Γ':=by
 unfold Rb at h;split at h
 ·rename_i cs z hc hz;split at h;·rename_i hk;obtain⟨b,off,vs,hv,hr,h1,hcell⟩:=ABv hs (hs.rd 0 x) hc;obtain⟨u,hu,hrep⟩:=AgF hr h1 hcell hk hz h;exact⟨.value u,w,_,Γ,by simp_all[execOp],λK Q hk=>hk,put_defers _ _ _,Ext.refl _ _ _,au _,hs.putStrip o.dst hrep⟩
  grind
 grind
def RO (E:Env) (t:TypeId) (addr:AVal) (st:St):Option (AVal×St):=
  match addr with
  | .ptr i off=>
    match Af st.m i with
    | some cs=>
      if Ae E.P t=true/\BC E.P t=false then
        match cs[off]? with
        |some r=>some (r,{st with m:=Ar st.m i (cs.set off r.strip)})
        |none=>none
      else if Ae E.P t=true/\BC E.P t=true/\off=0/\BK E.P t=some cs.length then some (.agg cs,{st with m:=Ar st.m i (stripL cs)})
      else none
    |none=>none
  |_=>none
theorem ATB (hs:Sim E F Γ st w af a.tmps.toList){o:Oper}{t:TypeId}{x:Operand}{r:AVal}{st':St} (hop:o.op=.load t x) (h:RO E t (rd E af 0 x) st=some (r,st')):∃nx w' a' Γ',Stepped E F Γ st w a o (Ab af o.dst r) st' nx w' a' Γ':=by
 have hx:=hs.rd 0 x;generalize rd E af 0 x=ax at *;generalize hv:a.eval x=vx at hx;unfold RO at h;split at h
 ·rename_i i off;cases hx with
  |ptr hbx=>
   rename_i b;split at h
   ·rename_i cs hg;split at h
    ·rename_i hc;split at h
     ·rename_i r' hr';simp only[ae,az]at h;obtain⟨rfl,rfl⟩:=h;obtain⟨b',arr,e,hb⟩:=hs.box hg hbx;have:b'=b:=by have:=hb.bx;grind
      subst this;obtain⟨lo,hi,hh,hf⟩:=hb.heap;obtain⟨u,hu0,hrep⟩:=hb.rep.get? hr';have hu:=List.getElem?_take_some hu0;have hgd:cs.getD off .any=r':=by grind
      have hgu:(arr.toList.take cs.length).getD off undef=u:=by grind
      have hown:VM.own Γ w r' u:=by have:=((M8 Γ w cs arr.toList).2 hb.own).get hb.rep.length off undef;grind
      have hcs:=λn=>MP n cs (arr.toList.take cs.length) off undef hb.rep.length;simp only[hgd,hgu]at hcs;have ct: ∀n (xs:List AVal),xs.length=cs.length->AO n xs (arr.toList.take cs.length)=AO n xs arr.toList:=λn xs e=>by grind[NB]
      have hcs: ∀n,AO n (cs.set off r'.strip) arr.toList+cnt n r' u=AO n cs arr.toList:=λn=>by simp_all
      have hrl:=hb.rep.setStrip off;have hol:=hb.own.setStrip off;rw[hgd]at hrl hol;obtain⟨s1,x1⟩:=hs.setBox (w':=w) (cs':=cs.set off r'.strip) (arr':=arr) (lo:=lo) (hi:=hi) hg hb hh hf (λ_ _=>rfl) rfl rfl rfl rfl (by grind) hol (by rw[bX];exact hb.one) (λn=>by have:=hcs n;have:=hs.tok n;omega);have hcell:w.cell? ⟨b',off,none⟩=some u:=by grind[World.cell?]
      have ha:=QF (w:=w) hc.1;rw[hc.2]at ha;refine⟨.value u,w,a.put o.dst u,Γ,?_,λK Q hk=>hk,put_defers _ _ _,x1,au _,?_⟩;·simp_all[execOp,Instr.loadAt,Instr.sureAddr,loadVar]
      ·refine s1.put o.dst hrep hown λn=>?_;have e1:=IL (Γ:=Γ) (Γ':=Γ) (w:=w) (w':=w) (b:=n) (x:=cs.set off r'.strip) hs.keys hg (λp hp hne=>rfl);have e2:Ct Γ w n (i,cs)=AO n cs arr.toList:=by grind[Ct,hcells]
       have e3:Ct Γ w n (i,cs.set off r'.strip)=AO n (cs.set off r'.strip) arr.toList:=by grind[Ct,hcells]
       have:=hcs n;have:=hs.tok n;grind
     grind
    ·split at h
     ·rename_i hc;obtain⟨hk,hg1,rfl,hz⟩:=hc;simp only[ae,az]at h;obtain⟨rfl,rfl⟩:=h;obtain⟨b',arr,e,hb⟩:=hs.box hg hbx;have:b'=b:=by have:=hb.bx;grind
      subst this;obtain⟨lo,hi,hh,hf⟩:=hb.heap;have hlen:(arr.toList.take cs.length).length=cs.length:=hb.rep.length.symm;have key:=dG (P:=E.P) w ⟨b',0,none⟩ (arr.toList.take cs.length) (λj v hj=>by grind[addr_add,World.cell?,List.getElem?_take_some]);rw[hlen]at key;have ha:=QF (w:=w) hk;rw[hg1]at ha;obtain⟨s1,x1⟩:=hs.setBox (w':=w) (cs':=stripL cs) (arr':=arr) (lo:=lo) (hi:=hi) hg hb hh hf (λ_ _=>rfl) rfl rfl rfl rfl (by rw[MO];exact hb.rep.strip) (Jf _ _ _ _) (by rw[MO];exact hb.one) (λn=>by rw[Hz];have:=hs.tok n;omega);refine⟨.value (.agg (arr.toList.take cs.length).toArray),w,a.put o.dst (.agg (arr.toList.take cs.length).toArray),Γ,?_,λK Q hk=>hk,put_defers _ _ _,x1,au _,?_⟩;·simp[execOp,hop,hv,Instr.loadAt,Instr.sureAddr,loadVar,ha,Cw hz,key]
      ·have ho:=(M8 Γ w cs arr.toList).2 hb.own;refine s1.put o.dst (.agg hb.rep hb.one) (by grind[own]) λn=>?_;have e1:=IL (Γ:=Γ) (Γ':=Γ) (w:=w) (w':=w) (b:=n) (x:=stripL cs) hs.keys hg (λp hp hne=>rfl);have e2:Ct Γ w n (i,cs)=AO n cs arr.toList:=by grind[Ct,hcells]
       have e3:Ct Γ w n (i,stripL cs)=AO n (stripL cs) arr.toList:=by grind[Ct,hcells]
       have e4:cnt n (.agg cs) (.agg (arr.toList.take cs.length).toArray)=AO n cs arr.toList:=by grind[cnt,NB]
       have:=hs.tok n;grind[Hz]
     grind
   grind
 grind
def AFR (hs:Sim E F Γ st w af a.tmps.toList){o:Oper}{t n:Nat}{vs:List AVal}{r:AVal} (hop:o.op=.extract (.tmp t) n) (ht:rd E af 0 (.tmp t)=.tuple vs) (hn:vs[n]?=some r):∃nx w' a' Γ',Stepped E F Γ st w a o (Ab (af.set t (.tuple (vs.set n r.strip))) o.dst r) st nx w' a' Γ':=by
 have hr:=hs.rd 0 (.tmp t);have ho:=hs.rd_own 0 (.tmp t);have hcn:=λb=>hs.rd_cnt 0 (.tmp t) b;rw[ht]at hr ho hcn;generalize hv:a.eval (.tmp t)=v at *;cases hr with
 | tuple hr=>
  rename_i arr;simp only[VM.own]at ho;simp only[cnt]at hcn;obtain⟨u,hu,hrep⟩:=hr.get? hn;have hgd:vs.getD n .any=r:=by grind
  have hgu:arr.toList.getD n undef=u:=by grind
  have hown:VM.own Γ w r u:=by have:=ho.get hr.length n undef;grind
  have hcs:=λb=>MP b vs arr.toList n undef hr.length;simp only[hgd,hgu]at hcs;have hrl:=hr.setStrip n;have hol:=ho.setStrip n;rw[hgd]at hrl hol;have hts:=(hs.stripAt (.tmp t)).put (some t) (r:=.tuple (vs.set n r.strip)) (v:=.tuple arr) (.tuple hrl) (by grind[VM.own]) (λb=>by simp only[cnt];have:=hcs b;have:=hcn b;have:=hs.tok b;omega);have hsame:(a.put (some t) (.tuple arr)).tmps.toList=a.tmps.toList:=by rw[Ve];simp only[Act.eval,Array.getD_toList']at hv;apply b9;grind
  have hset:Ab (stripAt af (.tmp t)) (some t) (.tuple (vs.set n r.strip))=af.set t (.tuple (vs.set n r.strip)):=by simp[Ab,VM.stripAt]
  rw[hsame,hset]at hts;refine⟨.value u,w,a.put o.dst u,Γ,?_,λK Q hk=>hk,put_defers _ _ _,Ext.refl _ _ _,au _,?_⟩;·simp_all[execOp,Instr.extract]
  ·refine hts.put o.dst hrep hown λb=>?_;have h3:AO b (af.set t (.tuple (vs.set n r.strip))) a.tmps.toList<=AO b (VM.stripAt af (.tmp t)) a.tmps.toList+AO b (vs.set n r.strip) arr.toList:=by have:=HY b (VM.stripAt af (.tmp t)) a.tmps.toList t (.tuple (vs.set n r.strip)) (.tuple arr);rw[<-Ve,hsame]at this;simp_all[VM.stripAt,set,cnt]
   have:=hcs b;have:=hcn b;have:=hs.tok b;omega
end
end Go.VM
set_option linter.unusedVariables false
namespace Go.VM
def J4 (P:Program) (t:TypeId):Option (Nat×Nat):=
  match P.underlying t with
  | some (.slice e)=>
    match P.info? e with
    | some i=>
      match i.zero with
      |some z=>if z.cells.size=i.size then some (i.size,i.bytes)else none
      |none=>none
    |none=>none
  |_=>none
def Lp{P:Program}{t:TypeId}{n b:Nat} (h:J4 P t=some (n,b)): ∃e i z,P.underlying t=some (.slice e)/\P.info? e=some i/\i.zero=some z/\z.cells.size=n/\i.size=n/\i.bytes=b:=by grind[J4]
def PW (wd:Nat):AVal->Option (List AVal)|.slice w' ys _=>if w'=wd then some ys else none|.str l=>if wd=1 then some (l.map λb=>.int .u8 b.toNat)else none|_=>none
def NW (E:Env) (t0 t1:TypeId) (s y:AVal):Option AVal:=match s with
 |.slice wd xs true=>match J4 E.P t0,PW wd y with|some (z,by_),some ys=>if z=wd/\Hl E.P t1=none/\Ae E.P t1=true/\(xs.length+ys.length) * by_<=140737488355328/\xs.length+ys.length<=Bg then some (.slice wd (xs++ys) true)else none|_,_=>none
 |_=>none
def AAV (P:Program) (t e:TypeId):Bool:=match P.underlying t with|some (.slice e')=>e'==e|_=>false
def Il (E:Env) (t0 t1:TypeId) (s y:AVal):Option AVal:=match s,y with|.buf e l true,.str m=>if AAV E.P t0 e=true/\(NW E t0 t1 (.slice 1 (u8s l) true) (.str m)).isSome=true then some (.buf e (l++m) true)else none|s,y=>NW E t0 t1 s y
def RepS.takeCells{Γ:Ghost}{w:Nat}{xs:List AVal}{cs:List Value} (h:RepS Γ w xs cs):RepS Γ w xs (cs.take (xs.length * w)):=by
 induction xs generalizing cs with
 |nil=>exact .nil _ _
 | cons x xs ih=>
  cases h with
  |cons h hw t=>
   rename_i v cs;have e:(v.cells.toList++cs).take ((x::xs).length * w)=v.cells.toList++cs.take (xs.length * w):=by grind[Array.length_toList,List.length_cons,Nat.succ_mul,Nat.add_comm,List.take_append,List.take_of_length_le,Nat.add_sub_cancel_left]
   rw[e];exact .cons h hw (ih t)
def RepS.takeOne{Γ:Ghost}{w:Nat}{xs:List AVal}{cs:List Value} (h:RepS Γ w xs cs): ∀c,c∈cs.take (xs.length * w)->c.oneCell'=true:=by
 induction xs generalizing cs with
 |nil=>simp
 | cons x xs ih=>
  cases h with
  |cons h hw t=>
   rename_i v cs;intro c hc;have hl:v.cells.toList.length=w:=by rw[aC,hw.1]
   rw[ag,bB,eo,List.take_append,aZ fx,hl,eV]at hc;rcases aX.1 hc with hc|hc;·exact hw.2 c hc
   ·exact ih t c hc
def RepS.append{Γ:Ghost}{w:Nat}{xs ys:List AVal}{cs ds:List Value} (h:RepS Γ w xs cs) (hl:cs.length=xs.length * w) (k:RepS Γ w ys ds):RepS Γ w (xs++ys) (cs++ds):=by induction xs generalizing cs with|nil=>simp_all|cons x xs ih=>cases h with|cons h hw t=>rename_i v cs;rw[aM];refine .cons h hw (ih t ?_);grind
section
variable{E:Env}{F:Nat->Nat}{Γ:Ghost}{st:St}{w:World}{af:List AVal}{a:Act}
structure Src (E:Env) (Γ:Ghost) (w:World) (wd:Nat) (ys:List AVal) (v:Value) (news:List Value):Prop where
  len: ∀w',(Builtin.lenOf v).run E.P w'=.ok ys.length w'
  first: ∀w',(∀b o,w'.cell? ⟨b,o,none⟩=w.cell? ⟨b,o,none⟩)->(Builtin.firstCells wd ys.length v).run E.P w'=.ok news.toArray w'
  rep:RepS Γ wd ys news
  size:news.length=ys.length * wd
  one: ∀c,c∈news->c.oneCell'=true
def AlL (hs:Sim E F Γ st w af a.tmps.toList){b i:Nat}{cs:List Value}{v:Value} (h:Γ.com b=some cs) (hv:cs[i]?=some v):w.cell? ⟨b,i,none⟩=some v:=by
 obtain⟨arr,e,fz,hh,⟨ds,hds⟩,_⟩:=hs.com_ok _ _ h;have h2:arr.toList[i]?=some v:=by grind
 grind[World.cell?]
def UJ (hs:Sim E F Γ st w af a.tmps.toList){wd:Nat}{ys:List AVal}{o:Bool}{v:Value} (h:Rep Γ (.slice wd ys o) v): ∃news,Src E Γ w wd ys v news:=by
 cases h with
 |snil _ _ ad=>refine⟨[],λw'=>by simp[Builtin.lenOf],λw' _=>?_,.nil _ _,fy,fy⟩;cases ad with|none=>simp[Builtin.firstCells]|some ad=>grind[run_firstCells_some]
 |slice _ hb hl hc hS hnn=>
  rename_i b off len cap cells;have hlen:((cells.drop off).take (ys.length * wd)).length=ys.length * wd:=by rw[ba];have:=hS.len;omega
  refine⟨(cells.drop off).take (ys.length * wd),λw'=>by simp[Builtin.lenOf,hl],λw' hw=>?_,hS.takeCells,hlen,hS.takeOne⟩;refine dB (P:=E.P) w' wd ys.length ⟨b,off,none⟩ len cap _ hlen λj u hj=>?_;rw[addr_add,hw];refine AlL hs hb ?_;rw[c8]at hj;split at hj;·rw[bU]at hj;exact hj
  ·cases hj
def AYK{wd:Nat}{s:ByteArray} (h1:wd=1):Src E Γ w wd (s.data.toList.map λb=>.int .u8 b.toNat) (.string s) (s.data.toList.map λb=>.int .u8 b.toNat):=by
 subst h1;have hl:s.data.toList.length=s.size:=fy;refine⟨λw'=>by simp_all[Builtin.lenOf],λw' _=>?_,?_,fy,by simp[Value.oneCell']⟩;·simp only[Builtin.firstCells,ck,hl,bf];congr 1;apply Array.ext';simp
 ·generalize s.data.toList=l;induction l with|nil=>exact .nil _ _|cons b l ih=>exact .cons (v:=.int .u8 b.toNat) (.int _ _) ⟨rfl,by simp[Value.cells,Value.oneCell']⟩ ih
def Sb (hs:Sim E F Γ st w af a.tmps.toList){wd:Nat}{y:AVal}{ys:List AVal}{v:Value} (hy:Rep Γ y v) (h:PW wd y=some ys): ∃news,Src E Γ w wd ys v news:=by
 unfold PW at h;split at h
 ·split at h;·rename_i e;subst e;simp only[ae]at h;subst h;exact UJ hs hy
  grind
 ·split at h;·rename_i e;simp only[ae]at h;subst h;cases hy;exact⟨_,AYK e⟩
  grind
 grind
def putV (l:List Value) (off:Nat):List Value->List Value|[]=>l|v::r=>putV (l.set off v) (off+1) r
theorem Ja (cells ds news:List Value) (h:news.length<=ds.length):putV (cells++ds) cells.length news=cells++news++ds.drop news.length:=by
 induction news generalizing cells ds with
 |nil=>simp[putV]
 | cons v news ih=>
  cases ds with
  |nil=>grind
  |cons d ds=>
   simp only[putV];have e:(cells++d::ds).set cells.length v=(cells++[v])++ds:=by simp
   rw[e];have:=ih (cells++[v]) ds (by grind);simp_all
def Dh{P:Program}{b base:Nat}{e:TypeId}{lo hi:Nat}: ∀(vs:List Value) (k:Nat) (arr:Array Value) (w:World),w.heap[b]?=some (.cells arr e (lo,hi))->(∀j,j<arr.size->¬(lo<=j/\j<hi))->base+k+vs.length<=arr.size->(∀v,v∈vs->v.oneCell'=true)->∃w' arr',(storeCells ⟨b,base,none⟩ vs k).run P w=.ok () w'/\w'.heap[b]?=some (.cells arr' e (lo,hi))/\arr'.toList=putV arr.toList (base+k) vs/\arr'.size=arr.size/\(∀n,n≠b->w'.heap[n]?=w.heap[n]?)/\w'.heap.size=w.heap.size/\w'.os=w.os/\w'.output=w.output/\w'.tape=w.tape:=by
 intro vs;induction vs with
 |nil=>intro k arr w hh hf hl h1;exact⟨w,arr,by simp[storeCells],hh,rfl,rfl,λ_ _=>rfl,rfl,rfl,rfl,rfl⟩
 |cons v vs ih=>
  intro k arr w hh hf hl h1;simp only[ag]at hl;have hoff:base+k<arr.size:=fx;have hcell:w.cell? ⟨b,base+k,none⟩=some arr[base+k]:=by grind[World.cell?]
  have hfz:w.frozen? ⟨b,base+k,none⟩=false:=by simp_all[World.frozen?]
  have hst:(store ⟨b,base+k,none⟩ v).run P w=.ok () (w.setCell ⟨b,base+k,none⟩ v):=by grind[run_store]
  obtain⟨w',arr',r,q1,q2,q3,q4,q5,q6,q7,q8⟩:=ih (k+1) (arr.setIfInBounds (base+k) v) (w.setCell ⟨b,base+k,none⟩ v) (R5 w b _ v hh) (by grind) (by grind) (λu hu=>h1 u (aR _ hu));refine⟨w',arr',?_,q1,?_,by simpa using q3,λn hn=>(q4 n hn).trans (I4 w b _ n v hn),by simpa using q5,q6,q7,q8⟩<;>grind[trans,I4,storeCells,addr_add,Sem.run_bind,Result.andThen_ok,putV,Nat.add_assoc]
def YY{Γ:Ghost}{w:World}{wd b off len cap:Nat} (h:KR Γ w wd (.slice (some ⟨b,off,none⟩) len cap)) (hlt:len<cap):∃arr e lo hi cells,w.heap[b]?=some (.cells arr e (lo,hi))/\(∀j,j<arr.size->¬(lo<=j/\j<hi))/\Γ.com b=some cells/\cells.length=off+len * wd/\off+cap * wd<=arr.size:=by obtain⟨arr,e,lo,hi,cells,h1,h2,_,h3,h4,h5⟩:=h hlt;exact⟨arr,e,lo,hi,cells,h1,h2,h3,h4,h5⟩
def Ghost.ext (Γ:Ghost) (b:Nat) (cs:List Value):Ghost:= {Γ with com:=λk=>if k=b then some cs else Γ.com k}
def AOc{Γ:Ghost}{w:World}{b:Nat}{m:List (Nat×List AVal)}{p:Nat×List AVal} (hp:p∈m):Ct Γ w b p<=Ah Γ w b m:=by
 induction m with
 |nil=>grind
 |cons q m ih=>
  rw[Ah];rcases aP.1 hp with rfl|hp;·omega
  grind
def Sim.grow (hs:Sim E F Γ st w af a.tmps.toList){b:Nat}{arr':Array Value}{e:TypeId}{lo hi:Nat}{cells news rest:List Value}{w':World} (hcom:Γ.com b=some cells) (hw:w'.heap[b]?=some (.cells arr' e (lo,hi))) (harr:arr'.toList=cells++news++rest) (hk: ∀k,k≠b->w'.heap[k]?=w.heap[k]?) (hz:w'.heap.size=w.heap.size) (ho:w'.os=w.os) (hou:w'.output=w.output) (hta:w'.tape=w.tape) (ht:F b+AO b af a.tmps.toList+Ah Γ w b st.m=0) (hce: ∀T,Γ.ct b=some T->e=T):Sim E F (Γ.ext b (cells++news)) st w' af a.tmps.toList/\Ext F Γ w (Γ.ext b (cells++news)) w'/\∀n,Ah (Γ.ext b (cells++news)) w' n st.m=Ah Γ w n st.m:=by
 have hle:Γ.le (Γ.ext b (cells++news)):=by refine⟨λk cs h=>?_,λi k h=>h,λi k h=>h,λi k h=>h,λi k h=>h⟩;by_cases hkb:k=b<;>simp_all[Ghost.ext]
 have keep: ∀n,n≠b->w'.heap[n]?=w.heap[n]?/\(Γ.ext b (cells++news)).com n=Γ.com n:=λn hn=>⟨hk n hn,by grind[Ghost.ext]⟩;have hbox: ∀p,p∈st.m->∀k,Γ.bx p.1=some k->k≠b:=by
  intro p hp k hk' e';rcases hs.box_ok p hp with⟨k',ar,e2,hb⟩|⟨v,hv⟩;rotate_left;·have:=hv.bx;grind
  have h1:=hb.bx;rw[hk']at h1;cases h1;have:=hb.com;grind
 have hcm: ∀n,Ah (Γ.ext b (cells++news)) w' n st.m=Ah Γ w n st.m:=λn=>EZ λp hp=>⟨rfl,λk hkk=>hk k (hbox p hp k hkk)⟩;refine⟨?_,⟨hle,λn hn=>keep n (λe=>by grind),fx,ho,hou,hta⟩,hcm⟩;refine {com_ok:=?_,box_ok:=?_,sx_next:=hs.sx_next,keys:=hs.keys,inj:=hs.inj,bx_lt:=?_,bx_next:=hs.bx_next,tyd:=?_,bx_F:=hs.bx_F,F_lt:=?_,glob:=λg cs h=>(hs.glob g cs h).mono hle,rep:=hs.rep.mono hle,own:=?_,tok:=?_}
 ·intro n cs h;by_cases hnb:n=b;·subst hnb;simp only[Ghost.ext,aD,ae]at h;subst h;exact⟨arr',e,(lo,hi),hw,⟨rest,harr⟩,hce⟩
  ·rw[(keep n hnb).2]at h;obtain⟨ar,e',fz,h2,h3⟩:=hs.com_ok n cs h;exact⟨ar,e',fz,by grind,h3⟩
 ·intro p hp;rcases hs.box_ok p hp with⟨k,ar,e',hb⟩|⟨v,hv⟩;rotate_left;·refine .inr ⟨v,hv.keep hle hv.bx λn hn=>keep n λe=>?_⟩;subst e;have:=hv.cnt n;have:=V5 (Γ:=Γ) (w:=w) (b:=n) hp;omega
  obtain⟨l2,h2,h3,h4⟩:=hb.heap;have hkb:=hbox p hp k hb.bx;refine .inl ⟨k,ar,e',hb.bx,⟨l2,h2,by grind,h4⟩,hb.rep.mono hle,Be hle _ _ hb.own λn hn=>keep n λe=>?_,by rw[(keep k hkb).2];exact hb.com,hb.one,hb.ty⟩;subst e;have hcb:Ct Γ w n p=AO n p.2 ar.toList:=by simp only[Ct,hb.bx,hcells,h3]
  have:=AOc (Γ:=Γ) (w:=w) (b:=n) hp;omega
 ·intro i n h;rw[hz];exact hs.bx_lt i n h
 ·refine⟨hs.tyd.1,λn e h=>?_⟩;obtain⟨cs,hc⟩:=hs.tyd.2 n e h;grind[Ghost.ext]
 ·intro n hn;rw[hz]at hn;exact hs.F_lt n hn
 ·exact Be hle _ _ hs.own λn hn=>keep n λe=>by grind
 ·intro n;rw[hcm n];exact hs.tok n
theorem Kz{P:Program}{w:World}{t0 t1 e ty:TypeId}{ts:List TypeId}{i:TypeInfo}{d:TypeDesc}{base:Option Addr}{len cap n:Nat}{vy:Value} (hu:P.underlying t0=some (.slice e)) (hi:P.info? e=some i) (hd:P.underlying t1=some d) (hn:Hl P t1=none) (hl:(Builtin.lenOf vy).run P w=.ok n w) (hle:len+n<=cap){news:List Value} (hf:(Builtin.firstCells i.size n vy).run P w=.ok news.toArray w):(Builtin.append_ ⟨t0::t1::ts⟩ ty #[.slice base len cap,vy]).run P w=(match base with|some a=>(storeCells (a.add (len * i.size)) news>>=λ_=>pure (Value.slice base (len+n) cap):Sem Value)|none=>pure (Value.slice base (len+n) cap)).run P w:=by
 have e1:(⟨t0::t1::ts⟩:Array TypeId)[0]?=some t0:=rfl;have e2:(⟨t0::t1::ts⟩:Array TypeId)[1]?=some t1:=rfl;have e3:(#[Value.slice base len cap,vy]:Array Value)[0]?=some (Value.slice base len cap):=rfl;have e4:(#[Value.slice base len cap,vy]:Array Value)[1]?=some vy:=rfl;have hs:(sizeOf e).run P w=.ok i.size w:=by simp[sizeOf,typeInfo,hi]
 unfold Builtin.append_;simp only[e1,e2,e3,e4];rw[aI,aE hu];simp only[aB];rw[aI,hs];simp only[aB];rw[aI,aE hd];simp only[aB];have key: ∀(b:Bool),b=false->∀(f:Bool->Sem Value),((pure b:Sem Bool)>>=f).run P w=(f false).run P w:=by simp
 rw[key _ (by cases d<;>first|rfl|(simp[Hl,hd]at hn;done))];simp only[aj,aA];rw[aI,hl];simp only[aB,bE,aD];rw[aq hle,aI,hf];simp only[aB];cases base<;>rfl
theorem Md{P:Program}{w:World}{t0 t1 e ty:TypeId}{ts:List TypeId}{i:TypeInfo}{zv:Value}{d:TypeDesc}{base:Option Addr}{len cap n:Nat}{vy:Value} (hu:P.underlying t0=some (.slice e)) (hi:P.info? e=some i) (hzv:i.zero=some zv) (hd:P.underlying t1=some d) (hn:Hl P t1=none) (hl:(Builtin.lenOf vy).run P w=.ok n w) (hle: ¬(len+n<=cap)) (h48: ¬(Builtin.nextslicecap (len+n) cap * i.bytes>2^48)) (h63: ¬(((len+n:Nat):Int)>IntKind.i64.max)) {olds news:List Value} (hf0:(Builtin.firstCells i.size len (.slice base len cap)).run P w.drew=.ok olds.toArray w.drew) (hf:(Builtin.firstCells i.size n vy).run P w.drew=.ok news.toArray w.drew):(Builtin.append_ ⟨t0::t1::ts⟩ ty #[.slice base len cap,vy]).run P w=.ok (.slice (some ⟨w.heap.size,0,none⟩) (len+n) (grownCap w (len+n) cap e)) (w.drew.alloc (.cells (olds.toArray++news.toArray++Builtin.zeroCells zv.cells (grownCap w (len+n) cap e-(len+n))) e)):=by
 have e1:(⟨t0::t1::ts⟩:Array TypeId)[0]?=some t0:=rfl;have e2:(⟨t0::t1::ts⟩:Array TypeId)[1]?=some t1:=rfl;have e3:(#[Value.slice base len cap,vy]:Array Value)[0]?=some (Value.slice base len cap):=rfl;have e4:(#[Value.slice base len cap,vy]:Array Value)[1]?=some vy:=rfl;have hs: ∀w,(sizeOf e).run P w=.ok i.size w:=λw=>by simp[sizeOf,typeInfo,hi]
 have ht: ∀w,(typeInfo e).run P w=.ok i w:=λw=>by simp[typeInfo,hi]
 have hzz: ∀w,(zeroValue e).run P w=.ok zv w:=λw=>by simp_all[zeroValue,typeInfo]
 unfold Builtin.append_;simp only[e1,e2,e3,e4];rw[aI,aE hu];simp only[aB];rw[aI,hs];simp only[aB];rw[aI,aE hd];simp only[aB];have key: ∀(b:Bool),b=false->∀(f:Bool->Sem Value),((pure b:Sem Bool)>>=f).run P w=(f false).run P w:=by simp
 rw[key _ (by cases d<;>first|rfl|(simp[Hl,hd]at hn;done))];simp only[aj,aA];rw[aI,hl];simp only[aB,bE,aD];rw[an hle];simp only[aI,ht,aB,Sem.run_ite,bf,h48,h63,false_and,aA,run_choose,Question.forced,aj,World.drew_eq,run_askRoom,hf0,hf,hzz,newRow,run_newObj,World.alloc_eq,grownCap];rfl
def Sim.drew{tm:List Value} (hs:Sim E F Γ st w af tm):Sim E F Γ st w.drew af tm:=by
 have hcm: ∀n,Ah Γ w.drew n st.m=Ah Γ w n st.m:=λn=>EZ λp hp=>⟨rfl,λ_ _=>rfl⟩;refine {hs with box_ok:=?_,own:=Be Γ.le_refl _ _ hs.own λ_ _=>⟨rfl,rfl⟩,tok:=λn=>by rw[hcm n];exact hs.tok n};intro p hp;rcases hs.box_ok p hp with⟨b,arr,e,hb⟩|⟨v,hv⟩;rotate_left;·exact .inr ⟨v,hv.keep Γ.le_refl hv.bx λ_ _=>⟨rfl,rfl⟩⟩
 exact .inl ⟨b,arr,e,hb.bx,hb.heap,hb.rep,Be Γ.le_refl _ _ hb.own λ_ _=>⟨rfl,rfl⟩,hb.com,hb.one,hb.ty⟩
def Avv (w:World) (Γ':Ghost) (e:TypeId) (n:Nat) (vx v:Value) (A B:Prop):Prop:=((∃base len cap,vx=.slice base len cap/\v=.slice base (len+n) cap)/\A)\/(∃len cap,v=.slice (some ⟨w.heap.size,0,none⟩) len cap/\n<=cap/\n≠0/\Γ'.ct w.heap.size=some e)/\B
set_option maxHeartbeats 1000000 in theorem Yw (hs:Sim E F Γ st w af a.tmps.toList){o:Oper}{x y:Operand}{t0 t1:TypeId}{ts:List TypeId}{ax r:AVal} (hop:o.op=.call {callee:=.builtin .append,args:=#[x,y],argTypes:=⟨t0::t1::ts⟩}) (hx:Rep Γ ax (a.eval x)) (hox:VM.own Γ w ax (a.eval x)) (hcx: ∀b,AO b (stripAt af x) a.tmps.toList+cnt b ax (a.eval x)<=AO b af a.tmps.toList) (h:NW E t0 t1 ax (rd E af t1 y)=some r):∃e v w' Γ' ys,E.P.underlying t0=some (.slice e)/\(execOp a.eval o).run E.P w=.ok (.value v) w'/\Ext F Γ w Γ' w'/\Sim E F Γ' st w' (stripAt af x) a.tmps.toList/\Rep Γ' r v/\VM.own Γ' w' r v/\(∃wd xs,ax=.slice wd xs true/\PW wd (rd E af t1 y)=some ys/\r=.slice wd (xs++ys) true)/\Avv w Γ' e ys.length (a.eval x) v (∀n,Ah Γ' w' n st.m=Ah Γ w n st.m) (∀n,AO n (stripAt af x) a.tmps.toList+Ah Γ' w' n st.m+F n+(if n=w.heap.size then 1 else 0)<=1)/\(∀n,F n+AO n (stripAt af x) a.tmps.toList+cnt n r v+Ah Γ' w' n st.m<=1):=by
 have hy:=hs.rd t1 y;have hs1:=hs.stripAt x;have htk:=hs.tok;generalize rd E af t1 y=ay at *;generalize hvx:a.eval x=vx at *;generalize hvy:a.eval y=vy at *;unfold NW at h;split at h
 ·rename_i wd xs;split at h
  ·rename_i z byt ys hap hsrc;split at h
   ·rename_i hc;obtain⟨rfl,hint,hkn,hroom,h62'⟩:=hc;have h62:xs.length+ys.length<=4611686018427387904:=h62';simp only[ae]at h;subst h;obtain⟨e,i,zv,hu,hi,hz,hzs,his,hib⟩:=Lp hap;obtain⟨news,src⟩:=Sb hs hy hsrc;obtain⟨d1,hd1⟩:=Ck hkn;have hargs:Array.map a.eval #[x,y]= #[vx,vy]:=by grind
    have hexec: ∀r,(Builtin.append_ ⟨t0::t1::ts⟩ o.type #[vx,vy]).run E.P w=r->(execOp a.eval o).run E.P w=r.andThen λv w'=>.ok (.value v) w':=by simp_all[execOp,resolve,invoke,builtin]
    by_cases hn:ys.length=0
    ·have hys:ys=[]:=bh hn;subst hys;have hnews:news=[]:=bh (by simpa using src.size);subst hnews;obtain⟨base,len,cap,rfl,hle⟩: ∃base len cap,vx=.slice base len cap/\len<=cap:=by cases hx with|snil=>exact⟨_,_,_,rfl,au _⟩|slice _ _ _ hc _ hnn=>exact⟨_,_,_,rfl,hc.1⟩
     have hlen:=src.len w;have hfirst:=src.first w (λ_ _=>rfl);simp only[ap]at hlen hfirst;rw[<-his]at hfirst;have hrun:(Builtin.append_ ⟨t0::t1::ts⟩ o.type #[.slice base len cap,vy]).run E.P w=.ok (.slice base len cap) w:=by rw[Kz hu hi hd1 hint hlen fx hfirst];cases base<;>simp[storeCells]
     refine⟨e,_,w,Γ,[],hu,hexec _ hrun,Ext.refl _ _ _,hs1,by grind,by grind,⟨_,_,rfl,hsrc,rfl⟩,.inl ⟨⟨_,_,_,rfl,rfl⟩,λ_=>rfl⟩,?_⟩;grind
    ·have hnz0:0<ys.length:=fx;by_cases hfit: ∃b off len cap,vx=.slice (some ⟨b,off,none⟩) len cap/\len+ys.length<=cap
     ·obtain⟨b,off,len,cap,rfl,hfits⟩:=hfit;simp only[VM.own]at hox;obtain⟨arr,e',lo,hi',cells,hh,hf,hcom,hcl,hsz⟩:=YY hox fx;obtain⟨arr0,e0,fz0,hh0,⟨ds,hds⟩,hct0⟩:=hs.com_ok b cells hcom;rw[hh]at hh0;cases hh0;cases hx with
      |snil=>omega
      | slice _ hb hl hcap hS hnn=>
       rw[hcom]at hb;cases hb;have hlenarr:cells.length+ds.length=arr.size:=by grind[List.length_append,Array.length_toList]
       have hnl:news.length<=ds.length:=by rw[src.size];have:(len+ys.length) * z<=cap * z:=bK _ hfits;grind
       obtain⟨w',arr',r1,q1,q2,q3,q4,q5,q6,q7,q8⟩:=Dh (P:=E.P) (b:=b) (base:=off+len * z) news 0 arr w hh hf fx src.one;rw[bV,<-hcl,hds,Ja _ _ _ hnl]at q2;have hbt:1<=cnt b (.slice z xs true) (.slice (some ⟨b,off,none⟩) len cap):=by simp only[cnt,KT];rw[aq ⟨fx,trivial⟩];omega
       have hzero:F b+AO b (stripAt af x) a.tmps.toList+Ah Γ w b st.m=0:=by grind
       obtain⟨s2,x2,hcm⟩:=hs1.grow hcom q1 q2 q4 q5 q6 q7 q8 hzero hct0;have hlen:=src.len w;have hfirst:=src.first w (λ_ _=>rfl);rw[<-his]at hfirst r1;have hrun:(Builtin.append_ ⟨t0::t1::ts⟩ o.type #[.slice (some ⟨b,off,none⟩) len cap,vy]).run E.P w=.ok (.slice (some ⟨b,off,none⟩) (len+ys.length) cap) w':=by rw[Kz hu hi hd1 hint hlen hfits hfirst];simp only[addr_add];simp_all
       refine⟨e,_,w',_,ys,hu,hexec _ hrun,x2,s2,.slice _ (cells:=cells++news) (by simp[Ghost.ext]) (by grind) ⟨hfits,fx⟩ ?_ (λ_ h=>by simp_all),?_,⟨_,_,rfl,hsrc,rfl⟩,.inl ⟨⟨_,_,_,rfl,rfl⟩,hcm⟩,?_⟩;·rw[cZ fx];exact RepS.append (hS.mono x2.le) (by grind) (src.rep.mono x2.le)
       ·simp only[VM.own,KR];intro hlt;exact⟨arr',e',lo,hi',cells++news,q1,by grind,trivial,by simp[Ghost.ext],by rw[ah,src.size,cu];omega,fx⟩
       ·intro n;rw[hcm n];have h1:cnt n (.slice z (xs++ys) true) (.slice (some ⟨b,off,none⟩) (len+ys.length) cap)<=cnt n (.slice z xs true) (.slice (some ⟨b,off,none⟩) len cap):=by
         simp only[cnt,KT];split;·rename_i hh';rw[aq ⟨fx,hh'.2⟩];omega
         omega
        grind
     ·obtain⟨base,len,cap,rfl,hlen,hcap⟩: ∃base len cap,vx=.slice base len cap/\xs.length=len/\len<=cap:=by cases hx with|snil=>exact⟨_,0,0,rfl,rfl,au _⟩|slice _ hb hl hc hS hnn=>exact⟨_,_,_,rfl,hl,hc.1⟩
      obtain⟨olds,so⟩:=UJ hs hx;subst hlen;have hneed: ¬(xs.length+ys.length<=cap):=by intro hle;apply hfit;cases hx with|snil=>omega|slice _ hb hl hc hS hnn=>exact⟨_,_,_,_,rfl,hle⟩
      have h63: ¬(9223372036854775807<((xs.length:Int)+(ys.length:Int))):=fx;have h48: ¬(281474976710656<Builtin.nextslicecap (xs.length+ys.length) cap * i.bytes):=by have:=eD (need:=xs.length+ys.length) (old:=cap) (bytes:=i.bytes) fx (by grind);omega
      have hl1:=src.len w;have hf1:=src.first w.drew (λ_ _=>rfl);have hf0:=so.first w.drew (λ_ _=>rfl);rw[<-his]at hf1 hf0;generalize hnc:grownCap w (xs.length+ys.length) cap e=nc;have hge:xs.length+ys.length<=nc:=by grind[grownCap_ge]
      have hrun:(Builtin.append_ ⟨t0::t1::ts⟩ o.type #[.slice base xs.length cap,vy]).run E.P w=.ok (.slice (some ⟨w.heap.size,0,none⟩) (xs.length+ys.length) nc) (w.drew.alloc (.cells (olds.toArray++news.toArray++Builtin.zeroCells zv.cells (nc-(xs.length+ys.length))) e)):=by subst hnc;have e3:IntKind.i64.max=9223372036854775807:=fA;grind[Md]
      have hsd:Sim E F Γ st w.drew (stripAt af x) a.tmps.toList:=hs1.drew;obtain⟨s2,x2,hcm⟩:=hsd.newArr (cells:=olds.toArray++news.toArray++Builtin.zeroCells zv.cells (nc-(xs.length+ys.length))) (e:=e) (pre:=olds++news) (spare:=(Builtin.zeroCells zv.cells (nc-(xs.length+ys.length))).toList) (fz:=(0,0)) fy (λv hv=>by rcases aX.1 hv with hv|hv;exact so.one v hv;exact src.one v hv);have x0:Ext F Γ w Γ w.drew:=⟨Γ.le_refl,λ_ _=>⟨rfl,rfl⟩,au _,rfl,rfl,rfl⟩;refine⟨e,_,_,_,ys,hu,hexec _ hrun,x0.trans x2,s2,.slice _ (cells:=olds++news) (by simp[Ghost.arr]) fy ⟨hge,h62'⟩ ?_ (λ_ h=>by simp_all),?_,⟨_,_,rfl,hsrc,rfl⟩,.inr ⟨⟨_,_,rfl,fx,fx,by simp[Ghost.arr]⟩,hcm⟩,?_⟩;·rw[aL];exact RepS.append (so.rep.mono x2.le) so.size (src.rep.mono x2.le)
      ·simp only[VM.own,KR];intro hlt;refine⟨_,e,0,0,olds++news,M6 _,fx,trivial,by simp[Ghost.arr],?_,?_⟩;·rw[ah,so.size,src.size,cu];omega
       ·simp only[eP,ci,so.size,src.size,Builtin.zeroCells,eF,dS,hzs,<-cu];simp_all
      ·intro n;have hcn:AO n (stripAt af x) a.tmps.toList+Ah (Γ.arr w.drew.heap.size (olds++news) e) (w.drew.alloc (.cells (olds.toArray++news.toArray++Builtin.zeroCells zv.cells (nc-(xs.length+ys.length))) e)) n st.m+F n+(if n=w.heap.size then 1 else 0)<=1:=hcm n;have h1:cnt n (.slice z (xs++ys) true) (.slice (some ⟨w.heap.size,0,none⟩) (xs.length+ys.length) nc)<=if n=w.heap.size then 1 else 0:=by
        simp only[cnt,KT];split;·simp_all
        omega
       omega
   grind
  grind
 grind
def AVv (l m:B8):u8s (l++m)=u8s l++u8s m:=by simp[u8s]
theorem AQL (hs:Sim E F Γ st w af a.tmps.toList){o:Oper}{x y:Operand}{t0 t1:TypeId}{ts:List TypeId}{r:AVal} (hop:o.op=.call {callee:=.builtin .append,args:=#[x,y],argTypes:=⟨t0::t1::ts⟩}) (h:Il E t0 t1 (rd E af t0 x) (rd E af t1 y)=some r):∃nx w' a' Γ',Stepped E F Γ st w a o (Ab (stripAt af x) o.dst r) st nx w' a' Γ':=by
 have hx:=hs.rd t0 x;have hox:=hs.rd_own t0 x;have hcx:=λb=>hs.rd_cnt t0 x b;unfold Il at h;split at h
 ·rename_i e l m hax hay;split at h
  ·rename_i hc;obtain⟨hel,hso⟩:=hc;simp only[ae]at h;subst h;obtain⟨r',hr'⟩:=cr.1 hso;rw[hax]at hx hox hcx;rw[<-hay]at hr';generalize hvx:a.eval x=vx at hx hox hcx;cases hx with
   | buf _ hx hk=>
    simp only[VM.own]at hox;obtain⟨e',v,w',Γ',ys,k1,k2,k3,k4,k5,k6,⟨wd,xs,k7,k8,k9⟩,k10,k11⟩:=Yw hs hop (by grind) (by grind[VM.own]) (λb=>by grind[cnt,VI]) hr';have he:e'=e:=by grind[AAV]
    subst he;cases k7;have hys:ys=u8s m:=by rw[hay]at k8;simp[PW]at k8;exact k8.symm
    subst hys;subst k9;rw[<-AVv]at k5 k6 k11;rw[hvx]at k10;have hbk:bufOK Γ' e' v:=by
     rcases k10 with⟨⟨base,len,cap,rfl,rfl⟩,hA⟩|⟨⟨len,cap,rfl,hn,h0,hct⟩,hB⟩
     ·cases base with
      |none=>
       obtain⟨h1,h2⟩:=hk;subst h1;subst h2;have:(u8s m).length=0:=by generalize u8s (l++m)=q at k5;generalize hn:0+(u8s m).length=nn at k5;cases k5;omega
       rw[this];exact⟨rfl,rfl⟩
      |some a0=>exact(hk.mono k3.le)
     ·exact⟨rfl,rfl,fx,hct⟩
    have hcnt: ∀b,F b+AO b (VM.stripAt af x) a.tmps.toList+CG b v+Ah Γ' w' b st.m<=1:=by
     intro b;rcases k10 with⟨⟨base,len,cap,rfl,rfl⟩,hA⟩|⟨⟨len,cap,rfl,hn,h0,hct⟩,hB⟩
     ·rw[hA b];have h1:=hcx b;have h2:=hs.tok b;have h3:CG b (.slice base (len+(u8s m).length) cap)=cnt b (.buf e' l true) (.slice base len cap):=by simp only[cnt];cases base<;>rfl
      omega
     ·have h1:=hB b;have h3:CG b (.slice (some ⟨w.heap.size,0,none⟩) len cap)=if b=w.heap.size then 1 else 0:=by
       simp only[CG];by_cases hb:b=w.heap.size;·simp_all
       ·rw[an (λe=>hb e.symm),an hb]
      omega
    refine⟨_,w',a.put o.dst v,Γ',k2,λK Q hk=>hk,put_defers _ _ _,k3,au _,?_⟩;refine k4.put o.dst (.buf _ k5 hbk) ?_ ?_
    ·simp only[VM.own]at k6⊢;refine⟨k6,λb hb=>?_⟩;have hcom: ∃cells,Γ'.com b=some cells:=by
      generalize u8s (l++m)=q at k5;cases k5 with
      |snil _ _ a0=>cases a0 with|none=>grind[CG]|some a0=>exact absurd rfl hbk.2.2.1
      |slice _ h1 _ _ _ hnn=>grind[CG]
     obtain⟨cells,hc⟩:=hcom;obtain⟨arr,e2,fz,hh,_⟩:=k4.com_ok _ _ hc;grind
    grind[cnt]
  grind
 ·obtain⟨e,v,w',Γ',ys,k1,k2,k3,k4,k5,k6,k7,k8,k9⟩:=Yw hs hop hx hox (λb=>Nat.le_of_eq (hcx b)) h;exact⟨_,w',a.put o.dst v,Γ',k2,λK Q hk=>hk,put_defers _ _ _,k3,au _,k4.put o.dst k5 k6 k9⟩
end
end Go.VM
set_option linter.unusedVariables false
namespace Go.VM
def BO (E:Env) (ty:Nat->TypeId):List AVal->List (Nat×Operand)->List AVal×List (Nat×AVal)|af,[]=>(af,[])|af,(i,x)::r=>((BO E ty (stripAt af x) r).1,(i,rd E af (ty i) x)::(BO E ty (stripAt af x) r).2)
def Ik (Γ:Ghost) (w:World):List (Nat×AVal)->List (Nat×Value)->Prop|[],[]=>True|(i,x)::ps,(j,v)::us=>i=j/\Rep Γ x v/\own Γ w x v/\Ik Γ w ps us|_,_=>False
def ARR (b:Nat):List (Nat×AVal)->List (Nat×Value)->Nat|(_,x)::ps,(_,v)::us=>cnt b x v+ARR b ps us|_,_=>0
def Yn (place:Nat->Option (Nat×Nat)) (cs:List AVal):List (Nat×AVal)->Option (List AVal)|[]=>some cs|(i,x)::rest=>match place i with|some (off,size)=>if CW x=true/\(AX x).length=size/\off+size<=cs.length then Yn place (putCells cs off (AX x)) rest else none|none=>none
def AP (P:Program) (t:TypeId) (i:Nat):TypeId:=match P.underlying t with|some (.struct fs)=>(fs[i]?.map (·.type)).getD 0|some (.array _ e)=>e|some (.slice e)=>e|_=>0
def Cj (P:Program) (t:TypeId):Option (Nat->Option (Nat×Nat)):=match P.underlying t with|some (.struct fs)=>(fs.toList.mapM λf=>(P.info? f.type).map λi=>(f.offset,i.size)).map λl i=>l[i]?|some (.array _ e)=>(P.info? e).map λie i=>some (i * ie.size,ie.size)|_=>none
def AV (P:Program) (t:TypeId) (i:Nat):Option (Nat×Nat):=(Cj P t).bind (· i)
def TG (E:Env) (t:TypeId) (ps:List (Nat×AVal)):Option AVal:=match Cf E.P t,(Cj E.P t).isSome with|some (.agg cs),true=>(Yn (AV E.P t) cs ps).map .agg|_,_=>none
section
variable{E:Env}{F:Nat->Nat}{Γ:Ghost}{st:St}{w:World}{af:List AVal}{a:Act}
def AA2 (off:Nat): ∀(l:List Value) (k:Nat) (cs:Array Value),((l.zipIdx k).foldl (λcs x=>cs.setIfInBounds (off+x.2) x.1) cs).toList=putV cs.toList (off+k) l:=by intro l;induction l with|nil=>intro k cs;rfl|cons v l ih=>intro k cs;simp only[List.zipIdx_cons,List.foldl_cons,putV];rw[ih (k+1)];simp[cE]
theorem RepL.putV{xs cs:List AVal}{us vs:List Value} (h:RepL Γ cs vs) (k:RepL Γ xs us) (off:Nat):RepL Γ (putCells cs off xs) (VM.putV vs off us):=by induction xs generalizing cs us vs off with|nil=>cases k;exact h|cons x xs ih=>cases k with|cons hx t=>exact ih (h.set off hx) t (off+1)
theorem ownL.putV{xs cs:List AVal}{us vs:List Value} (h:ownL Γ w cs vs) (hl:xs.length=us.length) (k:ownL Γ w xs us) (off:Nat):ownL Γ w (putCells cs off xs) (VM.putV vs off us):=by
 induction xs generalizing cs us vs off with
 |nil=>cases us with|nil=>exact h|cons _ _=>grind
 |cons x xs ih=>cases us with|nil=>grind|cons u us=>rw[ownL]at k;exact ih (h.set off k.1) (by grind) k.2 (off+1)
theorem AM3 (b:Nat){xs cs:List AVal}{us vs:List Value} (hl:xs.length=us.length) (off:Nat):AO b (putCells cs off xs) (VM.putV vs off us)<=AO b cs vs+AO b xs us:=by induction xs generalizing cs us vs off with|nil=>grind[putCells,VM.putV]|cons x xs ih=>cases us with|nil=>grind|cons u us=>grind[HY,AO,putCells,VM.putV]
def AA3{l us:List Value}{off:Nat}{v:Value} (h:v∈VM.putV l off us):v∈l\/v∈us:=by induction us generalizing l off with|nil=>exact .inl h|cons u us ih=>rcases ih h with h|h<;>grind[List.mem_or_eq_of_mem_set,List.mem_cons_of_mem]
def AQx{place:Nat->Option (Nat×Nat)}{ps:List (Nat×AVal)}: ∀ {us:List (Nat×Value)}{cs cs':List AVal}{arr:Array Value},RepL Γ cs arr.toList->ownL Γ w cs arr.toList->(∀v,v∈arr.toList->v.oneCell'=true)->Ik Γ w ps us->Yn place cs ps=some cs'->∃arr',Instr.fill place arr us=some arr'/\RepL Γ cs' arr'.toList/\ownL Γ w cs' arr'.toList/\(∀v,v∈arr'.toList->v.oneCell'=true)/\∀b,AO b cs' arr'.toList<=AO b cs arr.toList+ARR b ps us:=by
 induction ps with
 |nil=>intro us cs cs' arr hr ho h1 hp h;cases us with|nil=>simp only[Yn,ae]at h;subst h;exact⟨arr,rfl,hr,ho,h1,λb=>by simp⟩|cons u us=>grind[Ik]
 | cons p ps ih=>
  intro us cs cs' arr hr ho h1 hp h;obtain⟨i,x⟩:=p;cases us with
  |nil=>grind[Ik]
  | cons u us=>
   obtain⟨j,v⟩:=u;simp only[Ik]at hp;obtain⟨rfl,hx,hox,hp⟩:=hp;simp only[Yn]at h;split at h
   ·rename_i off size hpl;split at h
    ·rename_i hc;obtain⟨hok,hsz,hfit⟩:=hc;have hxc:=hx.cellsOK hok;have hvs:v.cells.size=size:=by rw[<-hsz,hxc.length,aC]
     have hlen:cs.length=arr.size:=by rw[hr.length,aC]
     have hfold:(v.cells.zipIdx.foldl (λcs x=>cs.setIfInBounds (off+x.2) x.1) arr).toList=VM.putV arr.toList off v.cells.toList:=by rw[<-eG,d9];exact AA2 off v.cells.toList 0 arr
     generalize hga:v.cells.zipIdx.foldl (λcs x=>cs.setIfInBounds (off+x.2) x.1) arr=arr1 at hfold;have hr1:RepL Γ (putCells cs off (AX x)) arr1.toList:=by rw[hfold];exact hr.putV hxc off
     have ho1:ownL Γ w (putCells cs off (AX x)) arr1.toList:=by rw[hfold];exact ho.putV hxc.length (UR hx hok hox) off
     obtain⟨arr',q1,q2,q3,q4,q5⟩:=ih hr1 ho1 (by
      rw[hfold];intro u hu;rcases AA3 hu with hu|hu;·grind
      ·exact hx.one hok u hu) hp h;refine⟨arr',?_,q2,q3,q4,λb=>?_⟩;·simp_all[Instr.fill]
     grind[AM3,UN,ARR]
    grind
   grind
def RP (ty:Nat->TypeId): ∀(ps:List (Nat×Operand)){af:List AVal},Sim E F Γ st w af a.tmps.toList->Sim E F Γ st w (BO E ty af ps).1 a.tmps.toList/\Ik Γ w (BO E ty af ps).2 (ps.map λp=>(p.1,a.eval p.2))/\∀b,AO b (BO E ty af ps).1 a.tmps.toList+ARR b (BO E ty af ps).2 (ps.map λp=>(p.1,a.eval p.2))=AO b af a.tmps.toList:=by intro ps;induction ps with|nil=>intro af hs;exact⟨hs,trivial,λb=>by simp[BO,ARR]⟩|cons p ps ih=>intro af hs;obtain⟨i,x⟩:=p;obtain⟨h1,h2,h3⟩:=ih (hs.stripAt x);refine⟨h1,⟨rfl,hs.rd _ x,hs.rd_own _ x,h2⟩,λb=>?_⟩;have:=h3 b;have:=hs.rd_cnt (ty i) x b;grind[BO,ARR]
theorem AVu (hs:Sim E F Γ st w af a.tmps.toList){o:Oper}{t:TypeId}{ps:List (Nat×Operand)}{r:AVal} (hop:o.op=.build t ⟨ps⟩) (h:TG E t (BO E (AP E.P t) af ps).2=some r):∃nx w' a' Γ',Stepped E F Γ st w a o (Ab (BO E (AP E.P t) af ps).1 o.dst r) st nx w' a' Γ':=by
 obtain⟨h1,h2,h3⟩:=RP (AP E.P t) ps hs;unfold TG at h;split at h
 ·rename_i cs hz hpl;obtain⟨i,zv,hi,hzv,hcr⟩:=K8 hz;have hzc:=JJ Γ w _ _ hcr;obtain⟨arr,rfl⟩: ∃arr,zv=.agg arr:=by have:=hzc.rep;cases this;simp
  cases hf:Yn (AV E.P t) cs (BO E (AP E.P t) af ps).2 with
  |none=>grind
  | some cs'=>
   simp only[hf,aK,ae]at h;subst h;have hrep:=hzc.rep;cases hrep with
   | agg hr h1c=>
    obtain⟨arr',q1,q2,q3,q4,q5⟩:=AQx hr (by have:=hzc.own;grind[VM.own]) h1c h2 hf;have hb:E.P.built t (ps.map λp=>(p.1,a.eval p.2))=some arr':=by
     unfold Program.built;unfold Cj at hpl;rw[hi];split at hpl
     ·rename_i fs hu;cases hm:fs.toList.mapM (λf=>(E.P.info? f.type).map λi=>(f.offset,i.size))with
      |none=>grind
      |some l=>
       have e:AV E.P t=λi=>l[i]?:=by grind[AV,Cj]
       simp_all[Value.cells]
     ·rename_i n e hu;cases hie:E.P.info? e with
      |none=>grind
      |some ie=>
       have e':AV E.P t=λi=>some (i * ie.size,ie.size):=by grind[AV,Cj]
       grind[Value.cells]
     grind
    have hparts:(Array.map (λx=>(x.fst,a.eval x.snd)) ⟨ps⟩).toList=ps.map λp=>(p.1,a.eval p.2):=fy;have hrun:=run_build w t (Array.map (λx=>(x.fst,a.eval x.snd)) ⟨ps⟩) arr' (by rw[hparts];omega);refine⟨.value (.agg arr'),w,a.put o.dst (.agg arr'),Γ,?_,λK Q hk=>hk,put_defers _ _ _,Ext.refl _ _ _,au _,?_⟩;·simp_all[execOp]
    ·refine h1.put o.dst (.agg q2 q4) (by grind[VM.own]) λb=>?_;have e1:=q5 b;have e2:=h3 b;have e3:=hzc.cnt b;simp only[cnt]at e3⊢;have:=hs.tok b;omega
 grind
def Gz (E:Env) (t:TypeId) (len:Nat) (ps:List (Nat×AVal)):Option AVal:=match J4 E.P t with|some (z,_)=>if len * z<=16777216/\len<=Bg/\ps.map (·.1)=List.range len/\(ps.all λp=>CW p.2&&(AX p.2).length==z)=true then some (.slice z (ps.map λp=>p.2.strip) true)else none|none=>none
def AlQ{z:Nat}: ∀ {ps:List (Nat×AVal)}{us:List (Nat×Value)}{k n:Nat}{pre rest:List Value}{arr:Array Value},arr.toList=pre++rest->pre.length=k * z->rest.length=n * z->ps.map (·.1)=List.range' k n->Ik Γ w ps us->(∀p,p∈ps->CW p.2=true/\(AX p.2).length=z)->∃arr' new,Instr.fill (λi=>some (i * z,z)) arr us=some arr'/\arr'.toList=pre++new/\RepS Γ z (ps.map λp=>p.2.strip) new/\new.length=n * z/\∀v,v∈new->v.oneCell'=true:=by
 intro ps;induction ps with
 |nil=>
  intro us k n pre rest arr harr hpre hrest hidx hp hok;have hn:n=0:=by simp_all
  subst hn;cases us with|nil=>have:rest=[]:=bh fx;subst this;exact⟨arr,[],rfl,harr,.nil _ _,fy,fy⟩|cons u us=>grind[Ik]
 | cons p ps ih=>
  intro us k n pre rest arr harr hpre hrest hidx hp hok;obtain⟨i,x⟩:=p;cases us with
  |nil=>grind[Ik]
  | cons u us=>
   obtain⟨j,v⟩:=u;simp only[Ik]at hp;obtain⟨rfl,hx,hox,hp⟩:=hp;cases n with
   |zero=>grind
   | succ n=>
    simp only[aF,cU,db]at hidx;obtain⟨rfl,hidx⟩:=hidx;obtain⟨hokx,hzx⟩:=hok (i,x) fy;have hxc:=hx.cellsOK hokx;have hvs:v.cells.size=z:=by rw[<-hzx,hxc.length,aC]
    have hsize:arr.size=(i+(n+1)) * z:=by grind[Array.length_toList,List.length_append,Nat.add_mul]
    have hzr:z<=rest.length:=by grind
    have hfold:(v.cells.zipIdx.foldl (λcs x=>cs.setIfInBounds (i * z+x.2) x.1) arr).toList=pre++v.cells.toList++rest.drop z:=by rw[<-eG,d9,AA2 (i * z) v.cells.toList 0 arr,harr,bV,<-hpre];grind[Ja,Array.length_toList]
    generalize hga:v.cells.zipIdx.foldl (λcs x=>cs.setIfInBounds (i * z+x.2) x.1) arr=arr1 at hfold;obtain⟨arr',new,q1,q2,q3,q4,q5⟩:=ih (k:=i+1) (n:=n) (pre:=pre++v.cells.toList) (rest:=rest.drop z) hfold (by grind) (by grind[List.length_drop,Nat.succ_mul]) hidx hp (λq hq=>hok q (aR _ hq));refine⟨arr',v.cells.toList++new,?_,by grind,?_,by grind[List.length_append,Array.length_toList,Nat.succ_mul],?_⟩
    ·rw[Instr.fill];simp only;rw[an];·grind
     ·simp only[hvs,eN,cM,ek,bg,aw,Nat.not_lt,hsize,cu,bB];omega
    ·exact .cons hx.strip ⟨hvs,hx.one hokx⟩ q3
    ·intro u hu;rcases aX.1 hu with hu|hu;·exact hx.one hokx u hu
     grind
theorem ZI (hs:Sim E F Γ st w af a.tmps.toList){o:Oper}{t:TypeId}{len:Nat}{ps:List (Nat×Operand)}{r:AVal} (hop:o.op=.buildSlice t len ⟨ps⟩) (h:Gz E t len (BO E (λ_=>AP E.P t 0) af ps).2=some r):∃nx w' a' Γ',Stepped E F Γ st w a o (Ab af o.dst r) st nx w' a' Γ':=by
 obtain⟨h1,h2,h3⟩:=RP (λ_=>AP E.P t 0) ps hs;generalize hps:(BO E (λ_=>AP E.P t 0) af ps).2=qs at *;unfold Gz at h;split at h
 ·rename_i z by_ hap;split at h
  ·rename_i hc;obtain⟨hsz,hln,hidx,hall⟩:=hc;simp only[ae]at h;subst h;obtain⟨e,i,zv,hu,hi,hz,hzs,his,hib⟩:=Lp hap;have hok: ∀p,p∈qs->CW p.2=true/\(AX p.2).length=z:=by intro p hp;have:=aU.1 hall p hp;simp_all
   have hqlen:qs.length=len:=by have:=bu List.length hidx;grind
   generalize hzero:(if len * z=0 then(#[]:Array Value)else zv.cells)=zero;have hfill:=AlQ (Γ:=Γ) (w:=w) (z:=z) (ps:=qs) (us:=ps.map λp=>(p.1,a.eval p.2)) (k:=0) (n:=len) (pre:=[]) (rest:=((Array.range (len * z)).map (λj=>zero[j % zero.size]!)).toList) (arr:=(Array.range (len * z)).map (λj=>zero[j % zero.size]!)) fy fy fy (by grind[List.range_eq_range']) h2 hok;obtain⟨arr',new,q1,q2,q3,q4,q5⟩:=hfill;rw[bk]at q2;have hrun:(execOp a.eval o).run E.P w=.ok (.value (.slice (some ⟨w.heap.size,0,none⟩) len len)) (w.alloc (.cells arr' e)):=by
    have hs0:(sizeOf e).run E.P w=.ok z w:=by simp_all[sizeOf,typeInfo]
    have hparts:(Array.map (λx=>(x.fst,a.eval x.snd)) ⟨ps⟩).toList=ps.map λp=>(p.1,a.eval p.2):=fy;have hzz:(zeroValue e).run E.P w=.ok zv w:=by simp_all[zeroValue,typeInfo]
    have hsz': ¬(len * z>2^24):=fx;simp only[execOp,hop,Instr.buildSlice];rw[aI,aI,aE hu];simp only[aB];rw[aI,hs0];simp only[aB,hsz',aA];by_cases hlz:len * z=0;·rw[aq hlz]at hzero;subst hzero;simp only[hlz,aD,hparts];rw[hlz]at q1;rw[aI,bf];simp only[aB,q1];rfl
    ·rw[an hlz]at hzero;subst hzero;simp only[hlz,aA,hparts];rw[aI,hzz];simp only[aB];rw[aI,bf];simp only[aB,q1];rfl
   obtain⟨s2,x2,hcm⟩:=hs.newArr (cells:=arr') (e:=e) (pre:=new) (spare:=[]) (fz:=(0,0)) (by grind) q5;refine⟨_,_,a.put o.dst _,_,hrun,λK Q hk=>hk,put_defers _ _ _,x2,au _,?_⟩;refine s2.put o.dst (.slice _ (cells:=new) (by simp[Ghost.arr]) (by grind) ⟨au _,hln⟩ (by rw[aL];exact q3.mono x2.le) (λ_ h=>by simp_all)) ?_ ?_;·grind[VM.own,KR]
   ·intro n;have:=hcm n;simp only[cnt,KT,Nat.lt_irrefl,false_and,aA];omega
  grind
 grind
end
end Go.VM
