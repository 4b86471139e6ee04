import Derived.Calls
import Derived.Orders
import Derived.Tactics
import Derived.Deep.LoopGhost
import Derived.RowKit3
import Derived.StringKeys
import Derived.Laws.Strings
import Derived.Laws.Strings2
import Derived.Laws.StructEq
import Derived.Laws.Slices
import Derived.Laws.Tables
import Derived.Laws.Panics
import Derived.LaidEqlPtr
import Derived.Lib.Builder
import Derived.Laws.IdiomCopy
import Derived.Laws.Small
import Derived.Laws.BytesArg
import Derived.Laws.Runes
import Derived.Laws.Cover4
import Derived.Laws.Cells
import Derived.Laws.Append
import Derived.Laws.AppendOwn
set_option linter.defProp false
set_option linter.unusedSimpArgs false
set_option linter.unusedVariables false
namespace Go.VM
abbrev B8:=List UInt8
def fM{G:Prop}(h:G:=by omega):G:=h
def fN{G:Prop}(h:G:=by simp):G:=h
def fO{G:Prop}(h:G:=by decide):G:=h
def fP{G:Prop}(h:G:=by simp;omega):G:=h
abbrev aa:=@Option.bind_some
abbrev ac:=@And.intro
abbrev ae:=@List.length_cons
abbrev ag:=@List.length_append
abbrev ah:=@Option.some.injEq
abbrev aj:=@if_neg
abbrev an:=@if_pos
abbrev ap:=@Bool.false_eq_true
abbrev aq:=@List.length_nil
abbrev au:=@decide_eq_true_eq
abbrev av:=@Nat.le_refl
abbrev aw:=@Bool.and_eq_true
abbrev az:=@if_true
abbrev aA:=@if_false
abbrev aB:=@Prod.mk.injEq
abbrev aC:=@decide_eq_true
abbrev aD:=@Go.Result.andThen_ok
abbrev aE:=@Array.length_toList
abbrev aF:=@decide_eq_false
abbrev aG:=@List.length_drop
abbrev aH:=@List.map_cons
abbrev aI:=@Go.run_underlying
abbrev aJ:=@List.append_assoc
abbrev aK:=@List.all_eq_true
abbrev aL:=@Go.Sem.run_bind
abbrev aM:=@Nat.zero_le
abbrev aN:=@List.drop_zero
abbrev aO:=@List.mem_cons
abbrev aP:=@Option.map_some
abbrev aQ:=@List.all_cons
abbrev aR:=@List.flatMap_cons
abbrev aS:=@List.getElem?_eq_getElem
abbrev aT:=@List.drop_drop
abbrev aU:=@Array.getElem?_eq_some_iff
abbrev aV:=@List.mem_singleton
abbrev aX:=@Option.map_eq_some_iff
abbrev aY:=@List.mem_cons_of_mem
abbrev aZ:=@List.mem_append
abbrev ba:=@Bool.not_false
abbrev bb:=@List.length_take
abbrev bc:=@List.take_of_length_le
abbrev be:=@beq_iff_eq
abbrev bf:=@Nat.lt_or_ge
abbrev bg:=@List.takeWhile_cons
abbrev bh:=@List.takeWhile_append_dropWhile
abbrev bk:=@Bool.false_or
abbrev bl:=@List.nil_append
abbrev bm:=@List.append_nil
abbrev bo:=@Bool.not_true
abbrev br:=@congrArg
abbrev bu:=@List.length_singleton
abbrev bv:=@List.mem_map
abbrev bw:=@Nat.sub_zero
abbrev bz:=@Go.Sem.run_pure
abbrev bA:=@List.contains_cons
abbrev bB:=@beq_eq_false_iff_ne
abbrev bC:=@List.eq_nil_of_length_eq_zero
abbrev bD:=@List.cons_append
abbrev bE:=@Int.le_refl
abbrev bF:=@Int.tdiv_eq_ediv_of_nonneg
abbrev bG:=@Int.toNat_natCast
abbrev bH:=@Nat.succ_mul
abbrev bI:=@List.take_append_drop
abbrev bJ:=@Nat.zero_add
abbrev bK:=@Nat.le_trans
abbrev bL:=@List.drop_of_length_le
abbrev bM:=@Bool.true_and
abbrev bN:=@List.any_cons
abbrev bO:=@Nat.mul_le_mul_right
abbrev bP:=@UInt8.ofNat_toNat
abbrev bQ:=@List.drop_eq_getElem_cons
abbrev bR:=@Go.MapKept.run_getObj_map
abbrev bS:=@List.length_pos_iff
abbrev bT:=@Option.map_none
abbrev bU:=@List.Sublist.refl
abbrev bV:=@List.getElem?_drop
abbrev bW:=@Nat.add_zero
abbrev bX:=@List.dropWhile_cons
abbrev bY:=@Nat.le_of_ble_eq_true
abbrev bZ:=@List.nodup_cons
abbrev b9:=@List.length_set
abbrev cc:=@List.dropWhile_sublist
abbrev cd:=@List.getLast?_eq_some_getLast
abbrev ce:=@List.ext_getElem?
abbrev cf:=@Bool.or_eq_true
abbrev ci:=@List.set_cons_zero
abbrev cj:=@Option.isSome_some
abbrev ck:=@Option.getD_none
abbrev cm:=@List.getLast?_append
abbrev cn:=@List.getElem?_cons_zero
abbrev co:=@List.getLast?_singleton
abbrev cp:=@List.take_succ_cons
abbrev cq:=@List.length_map
abbrev cr:=@Nat.not_lt_zero
abbrev cu:=@List.length_replicate
abbrev cv:=@List.drop_append
abbrev cw:=@List.map_nil
abbrev cx:=@List.sum_cons
abbrev cy:=@List.mem_of_mem_drop
abbrev cA:=@List.drop_append_of_le_length
abbrev cB:=@Nat.add_mul
abbrev cC:=@List.Perm.swap
abbrev cD:=@List.Sublist.cons
abbrev cE:=@Option.some.inj
abbrev cF:=@List.map_append
abbrev cG:=@and_true
abbrev cH:=@Nat.add_assoc
abbrev cI:=@List.set_cons_succ
abbrev cJ:=@List.Perm.cons
abbrev cK:=@List.mem_append_right
abbrev cL:=@Array.getElem?_eq_getElem
abbrev cM:=@Go.MapKept.run_setObj_map
abbrev cN:=@List.sublist_append_right
abbrev cO:=@Bool.true_or
abbrev cP:=@Bool.eq_false_iff
abbrev cQ:=@not_true_eq_false
abbrev cR:=@List.getElem?_set_ne
abbrev cS:=@List.mem_append_left
abbrev cT:=@List.dropLast_concat
abbrev cU:=@Bool.and_self
abbrev cV:=@Bool.or_false
abbrev cW:=@List.set_comm
abbrev cX:=@List.eq_of_mem_replicate
abbrev cY:=@List.flatMap_append
abbrev cZ:=@List.getD_cons_succ
abbrev c7:=@List.drop_left
abbrev c8:=@List.isEmpty_iff
abbrev c9:=@List.take_length
abbrev da:=@Option.some_or
abbrev db:=@Option.bind_eq_some_iff
abbrev dc:=@List.range'_succ
abbrev de:=@Go.mem_ready
abbrev df:=@Go.MapKept.run_checkKey
abbrev dg:=@List.Perm.refl
abbrev dh:=@Nat.sub_self
abbrev di:=@List.getElem?_take
abbrev dj:=@Option.isNone_none
abbrev dk:=@Go.MapKept.run_findKey
abbrev dl:=@List.cons.injEq
abbrev dm:=@Bool.and_true
abbrev dn:=@List.set_append_right
abbrev dp:=@List.eq_nil_or_concat
abbrev dq:=@List.getElem?_toArray
abbrev dr:=@of_decide_eq_true
abbrev dt:=@List.getElem?_set
abbrev du:=@List.size_toArray
abbrev dv:=@List.mem_of_mem_take
abbrev dw:=@List.isPrefixOf_iff_prefix
abbrev dx:=@List.getElem?_append_right
abbrev dy:=@List.take_zero
abbrev dz:=@Option.or_some
abbrev dA:=@Nat.mod_eq_of_lt
abbrev dB:=@List.not_mem_nil
abbrev dC:=@List.filter_cons
abbrev dD:=@Option.getD_some
abbrev dE:=@List.perm_middle
abbrev dF:=@List.getLast?_eq_getElem?
abbrev dG:=@List.getElem?_eq_some_iff
abbrev dH:=@List.replicate_succ
abbrev dI:=@List.drop_succ_cons
abbrev dJ:=@List.getD_cons_zero
abbrev dK:=@Go.run_firstCells_some
abbrev dL:=@List.head?_dropWhile_not
abbrev dM:=@Option.isSome_iff_exists
abbrev dN:=@UInt8.toNat_inj
abbrev dO:=@Ne.symm
abbrev dP:=@Bool.true_eq_false
abbrev dQ:=@List.mem_cons_self
abbrev dR:=@Option.isSome_none
abbrev dS:=@Go.run_loadCells_list
abbrev dT:=@List.map_replicate
abbrev dU:=@Nat.add_sub_cancel_left
abbrev dV:=@List.length_eq_zero_iff
abbrev dW:=@true_and
abbrev dX:=@List.any_eq_false
abbrev dY:=@List.contains_nil
abbrev dZ:=@List.all_nil
abbrev d5:=@Go.Value.slice.injEq
abbrev d6:=@Go.run_convert_bytes_arg
abbrev d7:=@Array.getElem?_modify
abbrev d8:=@List.mem_flatMap
abbrev d9:=@beq_self_eq_true
abbrev eb:=@Array.size_range
abbrev ed:=@Nat.le_of_not_lt
abbrev ef:=@List.mem_of_getElem?
abbrev eg:=@Bool.or_eq_false_iff
abbrev ek:=@Go.grownCap_ge
abbrev eo:=@List.range_eq_range'
abbrev eu:=@Go.MapKept.bytes_beq
abbrev ev:=@List.foldl_cons
abbrev ew:=@List.dropLast_concat_getLast
abbrev ez:=@Option.some_get
abbrev eA:=@ne_eq
abbrev eB:=@Array.toList_zipIdx
abbrev eC:=@List.mem_map_of_mem
abbrev eD:=@List.map_eq_nil_iff
abbrev eF:=@decide_false
abbrev eG:=@Nat.add_comm
abbrev eH:=@Nat.zero_mul
abbrev eI:=@Nat.mul_le_mul
abbrev eJ:=@List.mem_range
abbrev eK:=@Int.tmod_eq_emod_of_nonneg
abbrev eL:=@UInt8.toNat_ofNat'
abbrev eM:=@or_false
abbrev eN:=@List.take_left
abbrev eO:=@Bool.false_and
abbrev eP:=@Int.toNat_zero
abbrev eQ:=@Go.growslice_fits
abbrev eR:=@Array.size_map
abbrev eS:=@Array.foldl_toList
abbrev eT:=@Nat.eq_zero_or_pos
abbrev eU:=@Go.run_findKey_eq
abbrev eV:=@List.mem_of_find?_eq_some
abbrev eW:=@List.mem_or_eq_of_mem_set
abbrev eX:=@List.getElem?_append_left
abbrev eY:=@Bool.not_eq_true'
abbrev eZ:=@Array.size_append
abbrev fa:=@List.append_cancel_right
abbrev fb:=@List.prefix_iff_eq_take
abbrev fc:=@List.getLast_mem
abbrev fd:=@Bool.not_eq_true
abbrev fe:=@Nat.lt_succ_self
abbrev ff:=@Go.World.size_alloc
abbrev fg:=@Nat.add_left_cancel_iff
abbrev fh:=@List.getElem?_cons_succ
abbrev fi:=@List.takeWhile_sublist
abbrev fj:=@bne_iff_ne
abbrev fk:=@List.head?_eq_getElem?
abbrev fm:=@Go.wp_mono
abbrev fo:=@Nat.min_eq_left
abbrev fp:=@Nat.add_eq_left
abbrev fq:=@List.drop_left'
abbrev fr:=@List.singleton_append
abbrev ft:=@List.contains_iff_mem
abbrev fu:=@List.concat_eq_append
abbrev fw:=@List.getElem?_eq_none
abbrev fx:=@Array.getElem?_toList
abbrev fy:=@decide_true
abbrev fA:=@List.take_take
abbrev fB:=@Bool.and_assoc
abbrev fC:=@Option.map_map
abbrev fD:=@Go.strOfNums_data
abbrev fE:=@Go.getD_set_ne
abbrev fF:=@Nat.mul_one
abbrev fG:=@List.map_take
abbrev fH:=@Nat.mod_lt
abbrev fI:=@Bool.or_true
abbrev fJ:=@List.map_map
abbrev fK:=@List.set_set
abbrev fL:=@not_or
def slr{α:Type}{l:List α}:List.Sublist l l:=bU l
def Ca:Nat:=4611686018427387904
inductive AVal where|any|bool (b:Bool)|int (k:IntKind) (n:Int)|str (s:B8)|agg (cs:List AVal)|tuple (vs:List AVal)|slice (w:Nat) (xs:List AVal) (own:Bool)|ptr (i off:Nat)|nilp|cptr (cs:List AVal)|fn (f:Fn) (fst cap:List AVal)|nilFn|iface (t:TypeId) (v:AVal)|nilIface|iter (s:B8) (pos:Nat)|bsl (w i off len:Nat)|nself (i:Nat) (T:TypeId) (n:Nat)|buf (e:TypeId) (l:B8) (own:Bool)|bufp (e:TypeId) (l:B8) (own:Bool)|map (ks:List B8) (vs:List AVal)|slop (w:Nat) (xs:List AVal)|sh (i:Nat)|sptr (i w n:Nat)|gsl (w i len:Nat)|nmap|num (k:IntKind)|nbuf (e:TypeId)|trow (T:TypeId) (i len:Nat)|vec (w:Nat) (xs:List AVal)|vptr (i w n k:Nat)|hset (ks:List (B8×Int)) deriving Inhabited
mutual def AVal.strip:AVal->AVal|.agg cs=>.agg (stripL cs)|.tuple cs=>.tuple (stripL cs)|.slice w xs _=>.slice w xs false|.iter _ _=>.any|.map _ _=>.any|.slop _ _=>.any|.vec _ _=>.any|.hset _=>.any|.buf e l _=>.buf e l false|.bufp e l _=>.bufp e l false|v=>v def stripL:List AVal->List AVal|[]=>[]|x::xs=>x.strip::stripL xs end
def Lt (b:Nat):Value->Nat|.slice (some a) len cap=>if len<cap/\a.block=b then 1 else 0|_=>0
def Sv (b:Nat):Value->Nat|.pointer (some a)=>if a.block=b then 1 else 0|_=>0
def QL (b:Nat):Value->Nat|.map (some r)=>if r=b then 1 else 0|_=>0
def CP (b:Nat):Value->Nat|.slice (some a) _ _=>if a.block=b then 1 else 0|_=>0
theorem YJ{b:Nat}{v:Value}:Lt b v<=CP b v:=by
 unfold Lt CP;split;·rename_i a len cap;split<;>simp_all
 omega
mutual def cnt (b:Nat):AVal->Value->Nat|.agg cs,.agg arr=>AR b cs arr.toList|.tuple cs,.tuple arr=>AR b cs arr.toList|.slice _ _ true,v=>Lt b v|.iter _ _,v=>Sv b v|.buf _ _ true,v=>CP b v|.bufp _ _ true,v=>Sv b v|.map _ _,v=>QL b v|.slop _ _,v=>CP b v|.vec _ _,v=>CP b v|.hset _,v=>QL b v|_,_=>0 def AR (b:Nat):List AVal->List Value->Nat|x::xs,v::vs=>cnt b x v+AR b xs vs|_,_=>0 end
structure At where
  com:Nat->Option (List Value)
  bx:Nat->Option Nat
  bt:Nat->Option (TypeId×Nat)
  ct:Nat->Option TypeId
  sx:Nat->Option Value
def At.le (O O':At):Prop:=(∀b cs,O.com b=some cs->∃c,O'.com b=some (cs++c))/\(∀i b,O.bx i=some b->O'.bx i=some b)/\(∀i x,O.bt i=some x->O'.bt i=some x)/\(∀b e,O.ct b=some e->O'.ct b=some e)/\∀i v,O.sx i=some v->O'.sx i=some v
theorem At.le_refl (O:At):O.le O:=⟨λ_ cs h=>⟨[],by grind⟩,λ_ _ h=>h,λ_ _ h=>h,λ_ _ h=>h,λ_ _ h=>h⟩
theorem At.le_trans{a b c:At} (h:a.le b) (k:b.le c):a.le c:=⟨λn cs e=>by obtain⟨f,e⟩:=h.1 n cs e;obtain⟨d,e⟩:=k.1 n _ e;grind,λi n e=>k.2.1 i n (h.2.1 i n e),λi n e=>k.2.2.1 i n (h.2.2.1 i n e),λi n e=>k.2.2.2.1 i n (h.2.2.2.1 i n e),λi n e=>k.2.2.2.2 i n (h.2.2.2.2 i n e)⟩
def u8s (l:B8):List AVal:=l.map λb=>.int .u8 b.toNat
def bufOK (O:At) (e:TypeId):Value->Prop|.slice (some a) _ cap=>a.off=0/\a.spot=none/\cap≠0/\O.ct a.block=some e|.slice none len cap=>len=0/\cap=0|_=>False
theorem bufOK.mono{O O':At} (le:O.le O'){e:TypeId}{v:Value} (h:bufOK O e v):bufOK O' e v:=by
 cases v with
 |slice p len cap=>cases p with|none=>exact h|some a=>exact⟨h.1,h.2.1,h.2.2.1,le.2.2.2.1 _ _ h.2.2.2⟩
 |_=>exact h
mutual inductive Rep (O:At):AVal->Value->Prop|any (v:Value):Rep O .any v|bool (b:Bool):Rep O (.bool b) (.bool b)|int (k:IntKind) (n:Int):Rep O (.int k n) (.int k n)|str (b:ByteArray) (hn:b.data.toList.length<=Ca):Rep O (.str b.data.toList) (.string b)|agg{cs:List AVal}{arr:Array Value} (h:RepL O cs arr.toList) (one: ∀v,v∈arr.toList->v.oneCell'=true):Rep O (.agg cs) (.agg arr)|tuple{cs:List AVal}{arr:Array Value} (h:RepL O cs arr.toList):Rep O (.tuple cs) (.tuple arr)|snil (w:Nat) (own:Bool) (a:Option Addr):Rep O (.slice w [] own) (.slice a 0 0)|slice{w:Nat}{xs:List AVal} (own:Bool){b off len cap:Nat}{cells:List Value} (hb:O.com b=some cells) (hl:xs.length=len) (hc:len<=cap/\len<=Ca) (h:RepS O w xs (cells.drop off)) (hn:own=true->xs=[]->cap=0\/w=1):Rep O (.slice w xs own) (.slice (some ⟨b,off,none⟩) len cap)|ptr{i off b:Nat} (h:O.bx i=some b):Rep O (.ptr i off) (.pointer (some ⟨b,off,none⟩))|nilp:Rep O .nilp (.pointer none)|cptr{cs:List AVal}{b off:Nat}{cells vs rest:List Value} (hb:O.com b=some cells) (hd:cells.drop off=vs++rest) (h:RepL O cs vs) (ho: ∀v,v∈vs->v.oneCell'=true):Rep O (.cptr cs) (.pointer (some ⟨b,off,none⟩))|fn{f:Fn}{x y:List AVal}{p q:Array Value} (hx:RepL O x p.toList) (hy:RepL O y q.toList):Rep O (.fn f x y) (.func f p q)|nilFn:Rep O .nilFn .nilFunc|iface{t:TypeId}{x:AVal}{v:Value} (h:Rep O x v):Rep O (.iface t x) (.iface t v)|nilIface:Rep O .nilIface .nilIface|iter (s:B8) (pos:Nat) (v:Value):Rep O (.iter s pos) v|bsl{w i off off' len b cap:Nat} (h:O.bx i=some b) (ho:len=0\/off'=off) (hc:len<=cap/\len<=Ca):Rep O (.bsl w i off len) (.slice (some ⟨b,off',none⟩) len cap)|nself{i n:Nat}{T:TypeId} (h:O.bt i=some (T,n)):Rep O (.nself i T n) (.pointer none)|buf{e:TypeId}{l:B8} (own:Bool){v:Value} (h:Rep O (.slice 1 (u8s l) own) v) (k:bufOK O e v):Rep O (.buf e l own) v|bnil (e:TypeId) (own:Bool):Rep O (.bufp e [] own) (.pointer none)|bufp{e:TypeId}{l:B8} (own:Bool){b:Nat}{cells:List Value} (hb:O.com b=some cells) (hc:O.ct b=some e) (h:RepS O 1 (u8s l) cells) (hl:l.length<=Ca):Rep O (.bufp e l own) (.pointer (some ⟨b,0,none⟩))|map (ks:List B8) (vs:List AVal) (v:Value):Rep O (.map ks vs) v|slop{w:Nat}{xs:List AVal}{b off len cap:Nat}{cells:List Value} (hb:O.com b=some cells) (hl:xs.length+1=len) (hc:len<=cap/\len<=Ca) (h:RepS O w xs (cells.drop off)):Rep O (.slop w xs) (.slice (some ⟨b,off,none⟩) len cap)|sh{i:Nat}{v:Value} (h:O.sx i=some v) (k:v.cells= #[v]/\v.oneCell'=true):Rep O (.sh i) v|nmap:Rep O .nmap (.map none)|num (k:IntKind) (n:Int):Rep O (.num k) (.int k n)|nbuf (e:TypeId):Rep O (.nbuf e) (.slice none 0 0)|trow{i len b cap n:Nat}{T:TypeId} (h:O.bx i=some b) (ht:O.bt i=some (T,n)) (hc:len<=cap/\len<=Ca) (hz:cap=n):Rep O (.trow T i len) (.slice (some ⟨b,0,none⟩) len cap)|vec (w:Nat) (xs:List AVal) (v:Value):Rep O (.vec w xs) v|hset (ks:List (B8×Int)) (v:Value):Rep O (.hset ks) v|vptr{i w n k b off len cap:Nat} (h:O.sx i=some (.slice (some ⟨b,off,none⟩) len cap)):Rep O (.vptr i w n k) (.pointer (some ⟨b,off+(n * w+k),none⟩))|gsl{w i len b cap n:Nat}{T:TypeId} (h:O.bx i=some b) (ht:O.bt i=some (T,n)) (hc:len<=cap/\len<=Ca) (hz:cap * w=n):Rep O (.gsl w i len) (.slice (some ⟨b,0,none⟩) len cap)|sptr{i w n b off len cap:Nat} (h:O.sx i=some (.slice (some ⟨b,off,none⟩) len cap)):Rep O (.sptr i w n) (.pointer (some ⟨b,off+n * w,none⟩)) inductive RepL (O:At):List AVal->List Value->Prop|nil:RepL O [] []|cons{x:AVal}{v:Value}{xs:List AVal}{vs:List Value} (h:Rep O x v) (t:RepL O xs vs):RepL O (x::xs) (v::vs) inductive RepS (O:At):Nat->List AVal->List Value->Prop|nil (w:Nat) (cs:List Value):RepS O w [] cs|cons{w:Nat}{x:AVal}{v:Value}{xs:List AVal}{cs:List Value} (h:Rep O x v) (hw:v.cells.size=w/\∀c,c∈v.cells.toList->c.oneCell'=true) (t:RepS O w xs cs):RepS O w (x::xs) (v.cells.toList++cs) end
theorem RepS.more{O:At}{w:Nat}{xs:List AVal}{cs:List Value} (h:RepS O w xs cs) (c:List Value):RepS O w xs (cs++c):=by induction xs generalizing cs with|nil=>exact .nil _ _|cons x xs d=>cases h with|cons h b t=>rw[aJ];exact .cons h b (d t)
mutual theorem Rep.mono{O O':At} (le:O.le O'): {x:AVal}->{v:Value}->Rep O x v->Rep O' x v|_,_,.any v=>.any v|_,_,.bool b=>.bool b|_,_,.int k n=>.int k n|_,_,.str b h=>.str b h|_,_,.agg h o=>.agg (RepL.mono le h) o|_,_,.tuple h=>.tuple (RepL.mono le h)|_,_,.snil w o a=>.snil w o a|_,_,.slice o hb hl hc h hn=>by obtain⟨ds,hb'⟩:=le.1 _ _ hb;refine .slice o hb' hl hc ?_ hn;rw[cv];exact(RepS.mono le h).more _|_,_,.ptr h=>.ptr (le.2.1 _ _ h)|_,_,.nilp=>.nilp|_,_,.cptr (cells:=cells) (off:=off) (rest:=rest) hb hd h ho=>by obtain⟨ds,hb'⟩:=le.1 _ _ hb;exact .cptr (rest:=rest++ds.drop (off-cells.length)) hb' (by grind[List.drop_append]) (RepL.mono le h) ho|_,_,.fn h k=>.fn (RepL.mono le h) (RepL.mono le k)|_,_,.nilFn=>.nilFn|_,_,.iface h=>.iface (Rep.mono le h)|_,_,.nilIface=>.nilIface|_,_,.iter s p v=>.iter s p v|_,_,.bsl h ho hc=>.bsl (le.2.1 _ _ h) ho hc|_,_,.nself h=>.nself (le.2.2.1 _ _ h)|_,_,.buf o h k=>.buf o (Rep.mono le h) (k.mono le)|_,_,.bnil e o=>.bnil e o|_,_,.bufp o hb hc h hl=>by obtain⟨ds,hb'⟩:=le.1 _ _ hb;exact .bufp o hb' (le.2.2.2.1 _ _ hc) ((RepS.mono le h).more _) hl|_,_,.map ks vs v=>.map ks vs v|_,_,.slop hb hl hc h=>by obtain⟨ds,hb'⟩:=le.1 _ _ hb;refine .slop hb' hl hc ?_;rw[cv];exact(RepS.mono le h).more _|_,_,.sh h k=>.sh (le.2.2.2.2 _ _ h) k|_,_,.sptr h=>.sptr (le.2.2.2.2 _ _ h)|_,_,.nmap=>.nmap|_,_,.num k n=>.num k n|_,_,.nbuf e=>.nbuf e|_,_,.trow h ht hc hz=>.trow (le.2.1 _ _ h) (le.2.2.1 _ _ ht) hc hz|_,_,.vec w xs v=>.vec w xs v|_,_,.hset ks v=>.hset ks v|_,_,.vptr h=>.vptr (le.2.2.2.2 _ _ h)|_,_,.gsl h ht hc hz=>.gsl (le.2.1 _ _ h) (le.2.2.1 _ _ ht) hc hz theorem RepL.mono{O O':At} (le:O.le O'): {xs:List AVal}->{vs:List Value}->RepL O xs vs->RepL O' xs vs|_,_,.nil=>.nil|_,_,.cons h t=>.cons (Rep.mono le h) (RepL.mono le t) theorem RepS.mono{O O':At} (le:O.le O'): {w:Nat}->{xs:List AVal}->{cs:List Value}->RepS O w xs cs->RepS O' w xs cs|_,_,_,.nil w cs=>.nil w cs|_,_,_,.cons h hw t=>.cons (Rep.mono le h) hw (RepS.mono le t) end
mutual theorem Rep.strip{O:At}: {x:AVal}->{v:Value}->Rep O x v->Rep O x.strip v|_,_,.any v=>.any v|_,_,.bool b=>.bool b|_,_,.int k n=>.int k n|_,_,.str b h=>.str b h|_,_,.agg h o=>by rw[AVal.strip];exact .agg (RepL.strip h) o|_,_,.tuple h=>by rw[AVal.strip];exact .tuple (RepL.strip h)|_,_,.snil w o a=>.snil w _ a|_,_,.slice o hb hl hc h hn=>.slice _ hb hl hc h (λh=>by cases h)|_,_,.ptr h=>.ptr h|_,_,.nilp=>.nilp|_,_,.cptr hb hd h ho=>.cptr hb hd h ho|_,_,.fn h k=>.fn h k|_,_,.nilFn=>.nilFn|_,_,.iface h=>.iface h|_,_,.nilIface=>.nilIface|_,_,.iter s p v=>by rw[AVal.strip];exact .any _|_,_,.bsl h ho hc=>.bsl h ho hc|_,_,.nself h=>.nself h|_,_,.buf o h k=>by have q:=Rep.strip h;rw[AVal.strip]at q;exact .buf _ q k|_,_,.bnil e o=>.bnil e _|_,_,.bufp o hb hc h hl=>.bufp _ hb hc h hl|_,_,.map ks vs v=>by rw[AVal.strip];exact .any _|_,_,.slop hb hl hc h=>by rw[AVal.strip];exact .any _|_,_,.sh h k=>.sh h k|_,_,.sptr h=>.sptr h|_,_,.gsl h ht hc hz=>.gsl h ht hc hz|_,_,.nmap=>.nmap|_,_,.num k n=>.num k n|_,_,.nbuf e=>.nbuf e|_,_,.trow h ht hc hz=>.trow h ht hc hz|_,_,.vec w xs v=>by rw[AVal.strip];exact .any _|_,_,.hset ks v=>by rw[AVal.strip];exact .any _|_,_,.vptr h=>.vptr h theorem RepL.strip{O:At}: {xs:List AVal}->{vs:List Value}->RepL O xs vs->RepL O (stripL xs) vs|_,_,.nil=>by rw[stripL];exact .nil|_,_,.cons h t=>by rw[stripL];exact .cons (Rep.strip h) (RepL.strip t) end
mutual theorem JU (b:Nat):(x:AVal)->(v:Value)->cnt b x.strip v=0|.agg cs,v=>by rw[AVal.strip];cases v<;>simp[cnt];exact JK b cs _|.tuple cs,v=>by rw[AVal.strip];cases v<;>simp[cnt];exact JK b cs _|.slice w xs o,v=>by grind[AVal.strip,cnt]|.any,_=>by simp[AVal.strip,cnt]|.bool _,_=>by simp[AVal.strip,cnt]|.int _ _,_=>by simp[AVal.strip,cnt]|.str _,_=>by simp[AVal.strip,cnt]|.ptr _ _,_=>by simp[AVal.strip,cnt]|.nilp,_=>by simp[AVal.strip,cnt]|.cptr _,_=>by simp[AVal.strip,cnt]|.fn _ _ _,_=>by simp[AVal.strip,cnt]|.nilFn,_=>by simp[AVal.strip,cnt]|.iface _ _,_=>by simp[AVal.strip,cnt]|.nilIface,_=>by simp[AVal.strip,cnt]|.iter _ _,_=>by simp[AVal.strip,cnt]|.bsl _ _ _ _,_=>by simp[AVal.strip,cnt]|.nself _ _ _,_=>by simp[AVal.strip,cnt]|.buf _ _ _,_=>by simp[AVal.strip,cnt]|.bufp _ _ _,_=>by simp[AVal.strip,cnt]|.map _ _,_=>by simp[AVal.strip,cnt]|.slop _ _,_=>by simp[AVal.strip,cnt]|.sh _,_=>by simp[AVal.strip,cnt]|.sptr _ _ _,_=>by simp[AVal.strip,cnt]|.gsl _ _ _,_=>by simp[AVal.strip,cnt]|.nmap,_=>by simp[AVal.strip,cnt]|.num _,_=>by simp[AVal.strip,cnt]|.nbuf _,_=>by simp[AVal.strip,cnt]|.trow _ _ _,_=>by simp[AVal.strip,cnt]|.vptr _ _ _ _,_=>by simp[AVal.strip,cnt]|.vec _ _,_=>by simp[AVal.strip,cnt]|.hset _,_=>by simp[AVal.strip,cnt] theorem JK (b:Nat):(xs:List AVal)->(vs:List Value)->AR b (stripL xs) vs=0|[],_=>by simp[stripL,AR]|x::xs,[]=>by simp[stripL,AR]|x::xs,v::vs=>by rw[stripL,AR,JU b x v,JK b xs vs] end
def Lx (O:At) (w:World) (wd:Nat):Value->Prop|.slice (some a) len cap=>len<cap->∃arr e lo hi cells,w.heap[a.block]?=some (.cells arr e (lo,hi))/\(∀j,j<arr.size->¬(lo<=j/\j<hi))/\a.spot=none/\O.com a.block=some cells/\cells.length=a.off+len * wd/\a.off+cap * wd<=arr.size|_=>True
theorem ABA{O O':At}{w w':World}{wd:Nat}{v:Value} (h:Lx O w wd v) (k: ∀b,1<=Lt b v->w'.heap[b]?=w.heap[b]?/\O'.com b=O.com b):Lx O' w' wd v:=by unfold Lx at *;split<;>simp_all[Lt]
def ApH (w:World) (s:B8) (c:Nat) (v:Value):Prop:= ∃b d,v=.pointer (some ⟨b,0,none⟩)/\d.data.toList=s/\w.heap[b]?=some (.stringIter d c)
theorem AbU{w w':World}{s:B8}{c:Nat}{v:Value} (h:ApH w s c v) (k: ∀b,1<=Sv b v->w'.heap[b]?=w.heap[b]?):ApH w' s c v:=by obtain⟨b,d,rfl,e,f⟩:=h;exact⟨b,d,rfl,e,by grind[Sv]⟩
def ACn (O:At) (w:World) (c:Nat->Nat):Prop:= ∀b,1<=c b->(∃cells,O.com b=some cells)/\ ∃o,w.heap[b]?=some o
theorem ABM{O O':At}{w w':World}{c:Nat->Nat} (h:ACn O w c) (k: ∀b,1<=c b->w'.heap[b]?=w.heap[b]?/\O'.com b=O.com b):ACn O' w' c:=λb d=>by rw[(k b d).1,(k b d).2];exact h b d
inductive RepK (O:At):List B8->List AVal->List MapEntry->Prop|nil:RepK O [] [] []|cons{b:ByteArray}{x:AVal}{e:MapEntry}{ks:List B8}{vs:List AVal}{es:List MapEntry} (hk:e.key=.string b) (hv:Rep O x e.val) (t:RepK O ks vs es):RepK O (b.data.toList::ks) (x::vs) (e::es)
theorem RepK.mono{O O':At} (le:O.le O'){ks:List B8}{vs:List AVal}{b:List MapEntry} (h:RepK O ks vs b):RepK O' ks vs b:=by induction h with|nil=>exact .nil|cons c d _ e=>exact .cons c (d.mono le) e
def AQX (O:At) (w:World) (ks:List B8) (vs:List AVal) (v:Value):Prop:= ∃b d c,v=.map (some b)/\w.heap[b]?=some (.map d c)/\RepK O ks vs d.toList
theorem ARx{O O':At}{w w':World}{ks:List B8}{vs:List AVal}{v:Value} (h:AQX O w ks vs v) (le:O.le O') (k: ∀b,1<=QL b v->w'.heap[b]?=w.heap[b]?):AQX O' w' ks vs v:=by obtain⟨b,d,c,rfl,f,e⟩:=h;exact⟨b,d,c,rfl,by grind[QL],e.mono le⟩
def TL (O:At) (w:World) (wd n:Nat):Value->Prop|.slice (some a) len cap=>∃arr e lo hi cells,w.heap[a.block]?=some (.cells arr e (lo,hi))/\(∀j,j<arr.size->¬(lo<=j/\j<hi))/\a.spot=none/\O.com a.block=some cells/\cells.length=a.off+n * wd/\a.off+cap * wd<=arr.size/\len=n+1|_=>False
theorem AKm{O O':At}{w w':World}{wd n:Nat}{v:Value} (h:TL O w wd n v) (k: ∀b,1<=CP b v->w'.heap[b]?=w.heap[b]?/\O'.com b=O.com b):TL O' w' wd n v:=by
 unfold TL at *;split;·rename_i a len cap;simp only[CP]at h k;obtain⟨c,d⟩:=k a.block fN;rw[c,d];exact h
 ·split at h<;>first|exact h.elim|(rename_i e;exact absurd rfl (e _ _ _))
inductive RepH:List (B8×Int)->List MapEntry->Prop|nil:RepH [] []|cons{b:ByteArray}{p:Int}{e:MapEntry}{ks:List (B8×Int)}{es:List MapEntry} (hn:b.data.toList.length<=Ca) (hk:e.key=.agg #[.string b,.int .i64 p]) (hv:e.val=.bool true) (t:RepH ks es):RepH ((b.data.toList,p)::ks) (e::es)
def Av4 (w:World) (ks:List (B8×Int)) (v:Value):Prop:= ∃b d c,v=.map (some b)/\w.heap[b]?=some (.map d c)/\RepH ks d.toList
def Va (O:At) (w:World) (wd:Nat) (xs:List AVal) (v:Value):Prop:=(xs=[]/\v=.slice none 0 0)\/∃b off cap arr e lo hi,v=.slice (some ⟨b,off,none⟩) xs.length cap/\w.heap[b]?=some (.cells arr e (lo,hi))/\(∀j,j<arr.size->¬(lo<=j/\j<hi))/\O.com b=some []/\xs.length<=cap/\xs.length<=Ca/\off+cap * wd<=arr.size/\RepS O wd xs (arr.toList.drop off)
theorem ARl{O O':At}{w w':World}{wd:Nat}{xs:List AVal}{v:Value} (h:Va O w wd xs v) (le:O.le O') (k: ∀b,1<=CP b v->w'.heap[b]?=w.heap[b]?/\O'.com b=O.com b):Va O' w' wd xs v:=by
 rcases h with h|⟨b,off,cap,arr,e,lo,hi,rfl,h1,h2,h3,h4,h5,h6,h7⟩;·exact .inl h
 ·obtain⟨d,c⟩:=k b (by simp[CP]);exact .inr ⟨b,off,cap,arr,e,lo,hi,rfl,by rw[d];exact h1,h2,by rw[c];exact h3,h4,h5,h6,h7.mono le⟩
mutual def own (O:At) (w:World):AVal->Value->Prop|.agg cs,.agg arr=>ownL O w cs arr.toList|.tuple cs,.tuple arr=>ownL O w cs arr.toList|.slice wd _ true,v=>Lx O w wd v|.iter s pos,v=>ApH w s pos v|.buf _ _ true,v=>Lx O w 1 v/\ACn O w λb=>CP b v|.bufp _ _ true,v=>ACn O w λb=>Sv b v|.map ks vs,v=>AQX O w ks vs v|.slop wd xs,v=>TL O w wd xs.length v|.vec wd xs,v=>Va O w wd xs v|.hset ks,v=>Av4 w ks v|_,_=>True def ownL (O:At) (w:World):List AVal->List Value->Prop|x::xs,v::vs=>own O w x v/\ownL O w xs vs|_,_=>True end
mutual theorem NG (O:At) (w:World):(x:AVal)->(v:Value)->own O w x.strip v|.agg cs,v=>by rw[AVal.strip];cases v<;>simp only[own];exact K3 O w cs _|.tuple cs,v=>by rw[AVal.strip];cases v<;>simp only[own];exact K3 O w cs _|.slice _ _ o,v=>by grind[AVal.strip,own]|.any,_=>by simp[AVal.strip,own]|.bool _,_=>by simp[AVal.strip,own]|.int _ _,_=>by simp[AVal.strip,own]|.str _,_=>by simp[AVal.strip,own]|.ptr _ _,_=>by simp[AVal.strip,own]|.nilp,_=>by simp[AVal.strip,own]|.cptr _,_=>by simp[AVal.strip,own]|.fn _ _ _,_=>by simp[AVal.strip,own]|.nilFn,_=>by simp[AVal.strip,own]|.iface _ _,_=>by simp[AVal.strip,own]|.nilIface,_=>by simp[AVal.strip,own]|.iter _ _,_=>by simp[AVal.strip,own]|.bsl _ _ _ _,_=>by simp[AVal.strip,own]|.nself _ _ _,_=>by simp[AVal.strip,own]|.buf _ _ _,_=>by simp[AVal.strip,own]|.bufp _ _ _,_=>by simp[AVal.strip,own]|.map _ _,_=>by simp[AVal.strip,own]|.slop _ _,_=>by simp[AVal.strip,own]|.sh _,_=>by simp[AVal.strip,own]|.sptr _ _ _,_=>by simp[AVal.strip,own]|.gsl _ _ _,_=>by simp[AVal.strip,own]|.nmap,_=>by simp[AVal.strip,own]|.num _,_=>by simp[AVal.strip,own]|.nbuf _,_=>by simp[AVal.strip,own]|.trow _ _ _,_=>by simp[AVal.strip,own]|.vptr _ _ _ _,_=>by simp[AVal.strip,own]|.vec _ _,_=>by simp[AVal.strip,own]|.hset _,_=>by simp[AVal.strip,own] theorem K3 (O:At) (w:World):(xs:List AVal)->(vs:List Value)->ownL O w (stripL xs) vs|[],_=>by simp[stripL,ownL]|x::xs,[]=>by simp[stripL,ownL]|x::xs,v::vs=>by rw[stripL,ownL];exact⟨NG O w x v,K3 O w xs vs⟩ end
mutual theorem AVf{O O':At}{w w':World} (le:O.le O'):(x:AVal)->(v:Value)->own O w x v->(∀b,1<=cnt b x v->w'.heap[b]?=w.heap[b]?/\O'.com b=O.com b)->own O' w' x v|.agg cs,v,h,k=>by cases v<;>simp only[own,cnt]at *;exact Bz le cs _ h k|.tuple cs,v,h,k=>by cases v<;>simp only[own,cnt]at *;exact Bz le cs _ h k|.slice wd xs o,v,h,k=>by cases o<;>grind[own,cnt,ABA]|.any,_,_,_=>by simp[own]|.bool _,_,_,_=>by simp[own]|.int _ _,_,_,_=>by simp[own]|.str _,_,_,_=>by simp[own]|.ptr _ _,_,_,_=>by simp[own]|.nilp,_,_,_=>by simp[own]|.cptr _,_,_,_=>by simp[own]|.fn _ _ _,_,_,_=>by simp[own]|.nilFn,_,_,_=>by simp[own]|.iface _ _,_,_,_=>by simp[own]|.nilIface,_,_,_=>by simp[own]|.bsl _ _ _ _,_,_,_=>by simp[own]|.nself _ _ _,_,_,_=>by simp[own]|.buf _ _ o,v,h,k=>by cases o<;>grind[own,cnt,ABA,Nat.le_trans,YJ,ABM]|.bufp _ _ o,v,h,k=>by cases o<;>grind[own,cnt,ABM]|.sh _,_,_,_=>by simp[own]|.sptr _ _ _,_,_,_=>by simp[own]|.gsl _ _ _,_,_,_=>by simp[own]|.nmap,_,_,_=>by simp[own]|.num _,_,_,_=>by simp[own]|.nbuf _,_,_,_=>by simp[own]|.trow _ _ _,_,_,_=>by simp[own]|.vptr _ _ _ _,_,_,_=>by simp[own]|.hset ks,v,h,k=>by simp only[own,cnt]at *;obtain⟨b,es,clock,rfl,h1,h2⟩:=h;exact⟨b,es,clock,rfl,by rw[(k b (by simp[QL])).1];exact h1,h2⟩|.vec wd xs,v,h,k=>by simp only[own,cnt]at *;exact ARl h le k|.map ks vs,v,h,k=>by grind[own,cnt,ARx]|.slop wd xs,v,h,k=>by grind[own,cnt,AKm]|.iter s p,v,h,k=>by grind[own,cnt,AbU] theorem Bz{O O':At}{w w':World} (le:O.le O'):(xs:List AVal)->(vs:List Value)->ownL O w xs vs->(∀b,1<=AR b xs vs->w'.heap[b]?=w.heap[b]?/\O'.com b=O.com b)->ownL O' w' xs vs|[],_,_,_=>by simp[ownL]|x::xs,[],_,_=>by simp[ownL]|x::xs,v::vs,h,k=>by rw[ownL]at *;exact⟨AVf le x v h.1 (λb hb=>k b (by grind[AR])),Bz le xs vs h.2 (λb hb=>k b (by grind[AR]))⟩ end
end Go.VM
namespace Go.VM
structure Env where
  P:Program
  T:Nat->Option (List AVal)
structure St where
  m:List (Nat×List AVal)
  next:Nat
def Aj:List (Nat×List AVal)->Nat->Option (List AVal)|[],_=>none|(j,c)::m,i=>if i=j then some c else Aj m i
def A9:List (Nat×List AVal)->Nat->List AVal->List (Nat×List AVal)|[],_,_=>[]|(j,c)::m,i,x=>if i=j then(j,x)::m else(j,c)::A9 m i x
def Mt{m:List (Nat×List AVal)}{i:Nat}{c:List AVal} (h:Aj m i=some c):(i,c)∈m:=by induction m<;>grind[Aj,List.mem_cons_of_mem]
def AG2 (m:List (Nat×List AVal)) (i:Nat) (x:List AVal):(A9 m i x).map (·.1)=m.map (·.1):=by induction m<;>grind[A9]
def hcells (w:World) (b:Nat):List Value:=match w.heap[b]? with|some (.cells arr _ _)=>arr.toList|_=>[]
def DR (O:At) (w:World) (b:Nat) (p:Nat×List AVal):Nat:=match O.bx p.1 with|some k=>AR b p.2 (hcells w k)|none=>match O.sx p.1 with|some v=>AR b p.2 [v]|none=>0
def Aq (O:At) (w:World) (b:Nat):List (Nat×List AVal)->Nat|[]=>0|p::m=>DR O w b p+Aq O w b m
structure DE (O:At) (w:World) (p:Nat×List AVal) (b:Nat) (arr:Array Value) (e:TypeId):Prop where
  bx:O.bx p.1=some b
  heap: ∃lo hi,w.heap[b]?=some (.cells arr e (lo,hi))/\ ∀j,j<arr.size-> ¬(lo<=j/\j<hi)
  rep:RepL O p.2 (arr.toList.take p.2.length)
  own:ownL O w p.2 arr.toList
  com:O.com b=none
  one: ∀v,v∈arr.toList.take p.2.length->v.oneCell'=true
  ty: ∀T n,O.bt p.1=some (T,n)->e=T/\arr.size=n
structure Dd (O:At) (w:World) (p:Nat×List AVal) (v:Value):Prop where
  sx:O.sx p.1=some v
  bx:O.bx p.1=none
  rep:RepL O p.2 [v]
  own:ownL O w p.2 [v]
theorem Od (b:Nat): ∀(xs:List AVal) (vs:List Value),AR b xs (vs.take xs.length)=AR b xs vs|[],_=>by simp[AR]|x::xs,[]=>by simp|x::xs,v::vs=>by simp only[ae,cp,AR,Od b xs vs]
def Oe (O:At) (w:World): ∀(xs:List AVal) (vs:List Value),ownL O w xs (vs.take xs.length)<->ownL O w xs vs|[],_=>by simp[ownL]|x::xs,[]=>by simp|x::xs,v::vs=>by simp only[ae,cp,ownL,Oe O w xs vs]
theorem Np: ∀xs:List AVal,(stripL xs).length=xs.length|[]=>by simp[stripL]|x::xs=>by simp[stripL,Np xs]
structure Sim (E:Env) (F:Nat->Nat) (O:At) (st:St) (w:World) (af:List AVal) (tm:List Value):Prop where
  com_ok: ∀b cs,O.com b=some cs-> ∃arr e fz,w.heap[b]?=some (.cells arr e fz)/\(∃ds,arr.toList=cs++ds)/\ ∀T,O.ct b=some T->e=T
  box_ok: ∀p,p∈st.m->(∃b arr e,DE O w p b arr e)\/ ∃v,Dd O w p v
  sx_next: ∀i v,O.sx i=some v->i<st.next/\O.bx i=none
  keys:(st.m.map (·.1)).Nodup
  inj: ∀i j b,O.bx i=some b->O.bx j=some b->i=j
  bx_lt: ∀i b,O.bx i=some b->b<w.heap.size
  bx_next: ∀i b,O.bx i=some b->i<st.next
  tyd:(∀i x,O.bt i=some x-> ∃b,O.bx i=some b)/\ ∀b e,O.ct b=some e-> ∃cs,O.com b=some cs
  bx_F: ∀p b,p∈st.m->O.bx p.1=some b->F b=0
  F_lt: ∀b,w.heap.size<=b->F b=0
  glob: ∀g cs,E.T g=some cs->Rep O (.cptr cs) (.pointer (some ⟨g,0,none⟩))
  rep:RepL O af tm
  own:ownL O w af tm
  tok: ∀b,F b+AR b af tm+Aq O w b st.m<=1
structure Ext (F:Nat->Nat) (O:At) (w:World) (O':At) (w':World):Prop where
  le:O.le O'
  keep: ∀b,1<=F b->w'.heap[b]?=w.heap[b]?/\O'.com b=O.com b
  size:w.heap.size<=w'.heap.size
  os:w'.os=w.os
  output:w'.output=w.output
  tape:w'.tape=w.tape
def Ext.refl (F:Nat->Nat) (O:At) (w:World):Ext F O w O w:=⟨O.le_refl,λ_ _=>⟨rfl,rfl⟩,av _,rfl,rfl,rfl⟩
theorem Ext.trans{F:Nat->Nat}{a b c:At}{u v w:World} (h:Ext F a u b v) (k:Ext F b v c w):Ext F a u c w:=⟨At.le_trans h.le k.le,λn d=>⟨(k.keep n d).1.trans (h.keep n d).1,(k.keep n d).2.trans (h.keep n d).2⟩,bK h.size k.size,k.os.trans h.os,k.output.trans h.output,k.tape.trans h.tape⟩
def Ext.less{F G:Nat->Nat}{a b:At}{u v:World} (h:Ext F a u b v) (le: ∀n,G n<=F n):Ext G a u b v:=⟨h.le,λn c=>h.keep n (bK c (le n)),h.size,h.os,h.output,h.tape⟩
abbrev APost:=Exit->List AVal->St->Prop
def lift (E:Env) (F:Nat->Nat) (O:At) (w:World) (n:Nat) (Q:APost):Exit->Act->World->Prop:=λe c w'=>(match e with|.normal|.exit _|.ret=>True|_=>False)/\c.defers=[]/\∃O' af' b,Ext F O w O' w'/\n<=b.next/\Sim E F O' b w' af' c.tmps.toList/\Q e af' b
structure AWp (E:Env) (c:Code) (Q:APost) (af:List AVal) (st:St):Prop where go: ∀(F:Nat->Nat) (O:At) (w:World) (a:Act),a.defers=[]->Sim E F O st w af a.tmps.toList->c.wp E.P (lift E F O w st.next Q) a w
structure AE (E:Env) (f:FuncId) (args:List AVal) (st:St) (Q:AVal->St->Prop):Prop where go: ∀(F:Nat->Nat) (O:At) (w:World) (cargs:Array Value),Sim E F O st w args cargs.toList->Calls E.P f cargs w λe w'=>∃v,e=.returned v/\∃O' r st',Ext F O w O' w'/\st.next<=st'.next/\Sim E F O' st' w' [r] [v]/\Q r st'
def AE.mono{E:Env}{f:FuncId}{c:List AVal}{st:St}{Q e:AVal->St->Prop} (h:AE E f c st Q) (g: ∀r b,st.next<=b.next->Q r b->e r b):AE E f c st e:=⟨λF O w d hs=>(h.go F O w d hs).mono λ_ _ ⟨v,he,O',r,b,h1,h2,h3,h4⟩=>⟨v,he,O',r,b,h1,h2,h3,g r b h2 h4⟩⟩
def AWp.mono{E:Env}{c:Code}{Q d:APost}{af:List AVal}{st:St} (h:AWp E c Q af st) (f: ∀e af' b,st.next<=b.next->Q e af' b->d e af' b):AWp E c d af st:=⟨λF O w a hd hs=>fm (h.go F O w a hd hs) λ_ _ _ ⟨h0,h1,O',af',b,h2,h3,h4,h5⟩=>⟨h0,h1,O',af',b,h2,h3,h4,f _ _ _ h3 h5⟩⟩
def X8{E:Env}{F:Nat->Nat}{O O₁:At}{w w₁:World}{n n₁:Nat}{Q:APost} (g:Ext F O w O₁ w₁) (f:n<=n₁){e:Exit}{c:Act}{w':World} (h:lift E F O₁ w₁ n₁ Q e c w'):lift E F O w n Q e c w':=by obtain⟨h0,j,O',af',b,l,d,i,k⟩:=h;exact⟨h0,j,O',af',b,g.trans l,bK f d,i,k⟩
section rules
variable{E:Env}{Q:APost}{af:List AVal}{st:St}
def AUz (h:Q .normal af st):AWp E .skip Q af st:=⟨λF O w a hd hs=>wp_skip ⟨trivial,hd,O,af,st,Ext.refl _ _ _,av _,hs,h⟩⟩
def Ae6{l:Nat} (h:Q .normal af st):AWp E (.label l) Q af st:=⟨λF O w a hd hs=>wp_label ⟨trivial,hd,O,af,st,Ext.refl _ _ _,av _,hs,h⟩⟩
def AcX (h:Q .ret af st):AWp E .ret Q af st:=⟨λF O w a hd hs=>wp_ret ⟨trivial,hd,O,af,st,Ext.refl _ _ _,av _,hs,h⟩⟩
def AUj{b:Nat} (h:Q (.exit b) af st):AWp E (.exit b) Q af st:=⟨λF O w a hd hs=>wp_exit ⟨trivial,hd,O,af,st,Ext.refl _ _ _,av _,hs,h⟩⟩
def AwO (E:Env) (y:Code) (Q:APost):APost:=λe af st=>match e with|.normal=>AWp E y Q af st|e=>Q e af st
def WO{x y:Code} (h:AWp E x (AwO E y Q) af st):AWp E (.seq x y) Q af st:=by constructor;intro F O w a hd hs;refine wp_seq (fm (h.go F O w a hd hs) ?_);intro e g w' b;cases e with|normal=>obtain⟨_,i,O',af',d,k,c,f,j⟩:=b;exact fm (j.go F O' w' g i f) λ_ _ _ q=>X8 k c q|_=>exact b
def AG4{j:Nat}{c:Code} (h:AWp E c (λe af st=>match e with|.exit b=>if b=j then Q .normal af st else Q (.exit b) af st|e=>Q e af st) af st):AWp E (.block j c) Q af st:=by
 constructor;intro F O w a hd hs;refine wp_block (fm (h.go F O w a hd hs) ?_);intro e p w' l;cases e with
 |exit b=>
  obtain⟨_,m,O',af',d,n,i,k,f⟩:=l;simp only[Exit.inBlock];simp only at f;split;·rename_i g;rw[an g]at f;exact⟨trivial,m,O',af',d,n,i,k,f⟩
  ·rename_i g;rw[aj g]at f;exact⟨trivial,m,O',af',d,n,i,k,f⟩
 |_=>exact l
end rules
end Go.VM
namespace Go.VM
def JM (P:Program) (t:TypeId):Nat:=match P.underlying t with|some (.slice e)=>((P.info? e).map (·.size)).getD 0|_=>0
def SS:Value->AVal|.bool b=>.bool b|.int k n=>.int k n|.string s=>if s.data.toList.length<=Ca then .str s.data.toList else .any|.pointer none=>.nilp|.slice none 0 0=>.slice 0 [] true|.nilFunc=>.nilFn|.nilIface=>.nilIface|_=>.any
def AaX (O:At) (v:Value):Rep O (SS v) v:=by unfold SS;split<;>(try split)<;>constructor<;>assumption
def AYP (O:At) (W:World) (v:Value):own O W (SS v) v:=by unfold SS;split<;>(try split)<;>simp[own,Lx]
def AbH (v:Value) (b:Nat):cnt b (SS v) v=0:=by unfold SS;split<;>(try split)<;>simp[cnt,Lt]
def ABd (O:At): ∀vs:List Value,RepL O (vs.map SS) vs|[]=>.nil|v::vs=>.cons (AaX O v) (ABd O vs)
theorem ABa (O:At) (W:World): ∀vs:List Value,ownL O W (vs.map SS) vs|[]=>by simp[ownL]|v::vs=>by rw[aH,ownL];exact⟨AYP O W v,ABa O W vs⟩
theorem ABC (b:Nat): ∀vs:List Value,AR b (vs.map SS) vs=0|[]=>by simp[AR]|v::vs=>by rw[aH,AR,AbH,ABC b vs]
def Kq (w:Nat):Value->AVal|.agg arr=>if arr.toList.all Value.oneCell'=true then .agg (arr.toList.map SS)else .any|.bool b=>.bool b|.int k n=>.int k n|.string s=>if s.data.toList.length<=Ca then .str s.data.toList else .any|.pointer none=>.nilp|.slice none 0 0=>.slice w [] true|.nilFunc=>.nilFn|.nilIface=>.nilIface|_=>.any
def AaV (O:At) (w:Nat) (v:Value):Rep O (Kq w v) v:=by
 unfold Kq;split
 ·split;·rename_i arr h;exact .agg (ABd O _) λv b=>aK.1 h v b
  ·exact .any _
 all_goals ((try split)<;>constructor<;>assumption)
def AZS (O:At) (W:World) (w:Nat) (v:Value):own O W (Kq w v) v:=by unfold Kq;grind[own,ABa,Lx]
theorem AX3 (w:Nat) (v:Value) (b:Nat):cnt b (Kq w v) v=0:=by unfold Kq;grind[cnt,ABC,Lt]
def rd (E:Env) (af:List AVal) (t:TypeId):Operand->AVal
 |.tmp i=>af.getD i .any
 |.const v=>Kq (JM E.P t) v
 |.global g=>match E.T g with|some cs=>.cptr cs|none=>.any
 |.func f=>.fn (.func f) [] []
def stripAt (af:List AVal):Operand->List AVal|.tmp i=>af.set i (af.getD i .any).strip|_=>af
def RepL.length{O:At}{xs:List AVal}{vs:List Value} (h:RepL O xs vs):xs.length=vs.length:=by induction xs generalizing vs with|nil=>cases h;rfl|cons x xs b=>cases h with|cons h t=>grind
def RepL.get{O:At}{xs:List AVal}{vs:List Value} (h:RepL O xs vs) (i:Nat) (d:Value):Rep O (xs.getD i .any) (vs.getD i d):=by induction xs generalizing vs i with|nil=>simp;exact .any _|cons x xs b=>cases h with|cons h t=>cases i with|zero=>grind|succ i=>simp_all
def RepL.set{O:At}{xs:List AVal}{vs:List Value} (h:RepL O xs vs) (i:Nat){x:AVal}{v:Value} (c:Rep O x v):RepL O (xs.set i x) (vs.set i v):=by induction xs generalizing vs i with|nil=>cases h;simpa using RepL.nil|cons y xs b=>cases h with|cons h t=>cases i with|zero=>simpa using .cons c t|succ i=>simpa using .cons h (b t i)
def RepL.setStrip{O:At}{xs:List AVal}{vs:List Value} (h:RepL O xs vs) (i:Nat):RepL O (xs.set i (xs.getD i .any).strip) vs:=by induction xs generalizing vs i with|nil=>grind|cons y xs b=>cases h with|cons h t=>cases i with|zero=>simpa using .cons h.strip t|succ i=>simpa using .cons h (b t i)
def ownL.get{O:At}{w:World}{xs:List AVal}{vs:List Value} (h:ownL O w xs vs) (b:xs.length=vs.length) (i:Nat) (d:Value):own O w (xs.getD i .any) (vs.getD i d):=by induction xs generalizing vs i with|nil=>simp[own]|cons x xs c=>cases vs with|nil=>grind|cons v vs=>rw[ownL]at h;cases i with|zero=>grind|succ i=>simp_all
def ownL.set{O:At}{w:World}{xs:List AVal}{vs:List Value} (h:ownL O w xs vs) (i:Nat){x:AVal}{v:Value} (c:own O w x v):ownL O w (xs.set i x) (vs.set i v):=by induction xs generalizing vs i with|nil=>simp[ownL]|cons y xs b=>cases vs with|nil=>cases i<;>simp[ownL]|cons u vs=>rw[ownL]at h;cases i with|zero=>grind[ownL]|succ i=>grind[ownL]
def ownL.setStrip{O:At}{w:World}{xs:List AVal}{vs:List Value} (h:ownL O w xs vs) (i:Nat):ownL O w (xs.set i (xs.getD i .any).strip) vs:=by induction xs generalizing vs i with|nil=>grind|cons y xs b=>cases vs with|nil=>cases i<;>simp[ownL]|cons u vs=>rw[ownL]at h;cases i with|zero=>simp only[ci,ownL];exact⟨NG _ _ _ _,h.2⟩|succ i=>simp only[cI,ownL,cZ];exact⟨h.1,b h.2 i⟩
theorem Ii (b:Nat) (xs:List AVal) (vs:List Value) (i:Nat) (x:AVal) (v:Value):AR b (xs.set i x) (vs.set i v)<=AR b xs vs+cnt b x v:=by induction xs generalizing vs i with|nil=>simp[AR]|cons y xs c=>cases vs with|nil=>cases i<;>simp[AR]|cons u vs=>cases i with|zero=>grind[AR]|succ i=>grind[AR]
def Ni (b:Nat) (xs:List AVal) (vs:List Value) (i:Nat) (d:Value) (c:xs.length=vs.length):AR b (xs.set i (xs.getD i .any).strip) vs+cnt b (xs.getD i .any) (vs.getD i d)=AR b xs vs:=by induction xs generalizing vs i with|nil=>simp[AR,cnt]|cons y xs e=>cases vs with|nil=>grind|cons u vs=>cases i with|zero=>simp only[ci,AR,dJ,JU];omega|succ i=>simp only[cI,AR,cZ];have:=e vs i (by simpa using c);omega
def Held (O:At) (w:World) (b:Nat):Prop:=(∃cs,O.com b=some cs)\/(∃s p,w.heap[b]?=some (.stringIter s p))\/ ∃d c,w.heap[b]?=some (.map d c)
def AYV{O:At}{w:World}{wd:Nat}{v:Value}{b:Nat} (h:Lx O w wd v) (d:1<=Lt b v):b<w.heap.size/\Held O w b:=by
 unfold Lt at d;split at d
 ·rename_i a len cap;split at d;·rename_i f;obtain⟨c,rfl⟩:=f;obtain⟨arr,e,lo,hi,cells,i,_,_,g,_⟩:=h c;refine⟨?_,.inl ⟨cells,g⟩⟩;grind
  omega
 omega
mutual theorem Aw5{O:At}{w:World}{b:Nat}:(x:AVal)->(v:Value)->own O w x v->1<=cnt b x v->b<w.heap.size/\Held O w b
 |.agg cs,v,h,k=>by
  cases v<;>simp only[own,cnt]at * <;>try omega
  exact CG cs _ h k
 |.tuple cs,v,h,k=>by
  cases v<;>simp only[own,cnt]at * <;>try omega
  exact CG cs _ h k
 |.slice wd xs o,v,h,k=>by
  cases o;·grind[cnt]
  ·simp only[own,cnt]at *;exact AYV h k
 |.any,_,_,k=>by grind[cnt]
 |.bool _,_,_,k=>by grind[cnt]
 |.int _ _,_,_,k=>by grind[cnt]
 |.str _,_,_,k=>by grind[cnt]
 |.ptr _ _,_,_,k=>by grind[cnt]
 |.nilp,_,_,k=>by grind[cnt]
 |.bsl _ _ _ _,_,_,k=>by grind[cnt]
 |.nself _ _ _,_,_,k=>by grind[cnt]
 |.buf _ _ o,v,h,k=>by
  cases o;·grind[cnt]
  ·simp only[own,cnt]at *;obtain⟨hc,o,ho⟩:=h.2 _ k;exact⟨(aU.1 ho).1,.inl hc⟩
 |.bufp _ _ o,v,h,k=>by
  cases o;·grind[cnt]
  ·simp only[own,cnt]at *;obtain⟨hc,o,ho⟩:=h _ k;exact⟨(aU.1 ho).1,.inl hc⟩
 |.cptr _,_,_,k=>by grind[cnt]
 |.fn _ _ _,_,_,k=>by grind[cnt]
 |.nilFn,_,_,k=>by grind[cnt]
 |.iface _ _,_,_,k=>by grind[cnt]
 |.nilIface,_,_,k=>by grind[cnt]
 |.sh _,_,_,k=>by grind[cnt]
 |.sptr _ _ _,_,_,k=>by grind[cnt]
 |.gsl _ _ _,_,_,k=>by grind[cnt]
 |.nmap,_,_,k=>by grind[cnt]
 |.num _,_,_,k=>by grind[cnt]
 |.nbuf _,_,_,k=>by grind[cnt]
 |.trow _ _ _,_,_,k=>by grind[cnt]
 |.vptr _ _ _ _,_,_,k=>by grind[cnt]
 | .vec wd xs,v,h,k=>by
  simp only[own,cnt]at *;rcases h with⟨_,rfl⟩|⟨b',off,cap,arr,e,lo,hi,rfl,h1,_,h3,_⟩;·simp[CP]at k
  ·have e':b'=b:=by
    simp only[CP]at k;split at k;·assumption
    ·omega
   subst e';exact⟨(aU.1 h1).1,.inl ⟨_,h3⟩⟩
 |.map ks vs,v,h,k=>by
  simp only[own,cnt]at *;obtain⟨b',es,clock,rfl,h1,h2⟩:=h;have e:b'=b:=by grind[QL]
  subst e;exact⟨(aU.1 h1).1,.inr (.inr ⟨_,_,h1⟩)⟩
 |.hset ks,v,h,k=>by
  simp only[own,cnt]at *;obtain⟨b',es,clock,rfl,h1,h2⟩:=h;have e:b'=b:=by grind[QL]
  subst e;exact⟨(aU.1 h1).1,.inr (.inr ⟨_,_,h1⟩)⟩
 | .slop wd xs,v,h,k=>by
  simp only[own,cnt]at *;unfold CP at k;split at k
  ·rename_i a len cap;split at k;·rename_i e;obtain⟨arr,e',lo,hi,cells,h1,_,_,h2,_⟩:=h;rw[e]at h1 h2;exact⟨(aU.1 h1).1,.inl ⟨_,h2⟩⟩
   omega
  omega
 |.iter s p,v,h,k=>by
  simp only[own,cnt]at *;obtain⟨b',sb,rfl,h1,h2⟩:=h;have e:b'=b:=by grind[Sv]
  subst e;exact⟨(aU.1 h2).1,.inr (.inl ⟨_,_,h2⟩)⟩ theorem CG{O:At}{w:World}{b:Nat}:(xs:List AVal)->(vs:List Value)->ownL O w xs vs->1<=AR b xs vs->b<w.heap.size/\Held O w b
 |[],_,_,k=>by grind[AR]
 |x::xs,[],_,k=>by grind[AR]
 |x::xs,v::vs,h,k=>by
  rw[ownL]at h;rw[AR]at k;rcases bf 0 (cnt b x v)with c|c;·exact Aw5 x v h.1 c
  ·exact CG xs vs h.2 fM end
section
variable{E:Env}{F:Nat->Nat}{O:At}{st:St}{w:World}{af:List AVal}{a:Act}
theorem Array.getD_toList' (xs:Array Value) (i:Nat) (d:Value):xs.getD i d=xs.toList.getD i d:=by simp[Array.getD,List.getD];split<;>simp_all
theorem Sim.rd (h:Sim E F O st w af a.tmps.toList) (t:TypeId) (x:Operand):Rep O (rd E af t x) (a.eval x):=by
 cases x with
 |tmp i=>simp only[VM.rd,Act.eval,Array.getD_toList'];exact h.rep.get i _
 |const v=>exact AaV _ _ _
 |global g=>
  simp only[VM.rd,Act.eval];split;·rename_i cs e;exact h.glob g cs e
  ·exact .any _
 |func f=>exact .fn .nil .nil
theorem Sim.rd_own (h:Sim E F O st w af a.tmps.toList) (t:TypeId) (x:Operand):VM.own O w (VM.rd E af t x) (a.eval x):=by cases x with|tmp i=>simp only[VM.rd,Act.eval,Array.getD_toList'];exact h.own.get h.rep.length i _|const v=>exact AZS _ _ _ _|global g=>simp only[VM.rd];split<;>simp[VM.own]|func f=>simp[VM.rd,VM.own]
theorem Sim.rd_cnt (h:Sim E F O st w af a.tmps.toList) (t:TypeId) (x:Operand) (b:Nat):AR b (stripAt af x) a.tmps.toList+cnt b (VM.rd E af t x) (a.eval x)=AR b af a.tmps.toList:=by cases x with|tmp i=>simp only[VM.rd,Act.eval,stripAt,Array.getD_toList'];exact Ni b _ _ i _ h.rep.length|const v=>grind[VM.rd,stripAt,Act.eval,AX3]|global g=>simp only[VM.rd,stripAt,fp];split<;>simp[cnt]|func f=>simp[VM.rd,stripAt,cnt]
theorem Sim.stripAt (h:Sim E F O st w af a.tmps.toList) (x:Operand):Sim E F O st w (stripAt af x) a.tmps.toList:=by
 refine {h with rep:=?_,own:=?_,tok:=?_};·cases x<;>first|exact h.rep|exact h.rep.setStrip _
 ·cases x<;>first|exact h.own|exact h.own.setStrip _
 ·intro b;have:=h.rd_cnt 0 x b;have:=h.tok b;omega
def Ae (af:List AVal) (b:Option Tmp) (r:AVal):List AVal:=match b with|some d=>af.set d r|none=>af
theorem Xo (a:Act) (d:Tmp) (v:Value):(a.put (some d) v).tmps.toList=a.tmps.toList.set d v:=by simp[Act.put]
theorem Sim.put (h:Sim E F O st w af a.tmps.toList) (c:Option Tmp){r:AVal}{v:Value} (f:Rep O r v) (e:VM.own O w r v) (g: ∀b,F b+AR b af a.tmps.toList+cnt b r v+Aq O w b st.m<=1):Sim E F O st w (Ae af c r) (a.put c v).tmps.toList:=by cases c with|none=>exact h|some d=>rw[Xo];refine {h with rep:=h.rep.set d f,own:=h.own.set d e,tok:=?_};grind[Ii,Ae]
theorem Sim.putStrip (h:Sim E F O st w af a.tmps.toList) (c:Option Tmp){r:AVal}{v:Value} (d:Rep O r v):Sim E F O st w (Ae af c r.strip) (a.put c v).tmps.toList:=h.put c d.strip (NG _ _ _ _) (λb=>by rw[JU];exact h.tok b)
end
end Go.VM
namespace Go.VM
def Aa:AVal->List AVal|.agg cs=>cs|x=>[x]
def Rep.slice_cells{O:At}{w:Nat}{xs:List AVal}{o:Bool}{v:Value} (h:Rep O (.slice w xs o) v):v.cells= #[v]:=by cases h<;>rfl
theorem Rep.cells{O:At}{x:AVal}{v:Value} (h:Rep O x v) (b:(Aa x).length=v.cells.size):RepL O (Aa x) v.cells.toList:=by
 cases h with
 |any v=>simp only[Aa,ae,aq,bJ]at b;obtain⟨⟨l⟩⟩: ∃a:Array Value,a=v.cells:=⟨_,rfl⟩;generalize e:v.cells=c at *;obtain⟨l⟩:=c;match l,b with|[c],_=>exact .cons (.any _) .nil
 |agg h _=>exact h
 |iter s d v=>simp only[Aa,ae,aq,bJ]at b;generalize v.cells=c at *;obtain⟨l⟩:=c;match l,b with|[c],_=>exact .cons (.iter _ _ _) .nil
 |map ks vs v=>simp only[Aa,ae,aq,bJ]at b;generalize v.cells=c at *;obtain⟨l⟩:=c;match l,b with|[c],_=>exact .cons (.map _ _ _) .nil
 |hset ks v=>simp only[Aa,ae,aq,bJ]at b;generalize v.cells=c at *;obtain⟨l⟩:=c;match l,b with|[c],_=>exact .cons (.hset _ _) .nil
 |vec w xs v=>simp only[Aa,ae,aq,bJ]at b;generalize v.cells=c at *;obtain⟨l⟩:=c;match l,b with|[c],_=>exact .cons (.vec _ _ _) .nil
 |sh h k=>rw[k.1];exact .cons (.sh h k) .nil
 |buf o h k=>rw[show v.cells= #[v]from h.slice_cells];exact .cons (.buf _ h k) .nil
 |_=>exact .cons (by constructor<;>assumption) .nil
def Lv (c:BinOp) (k:IntKind) (a b:Int):Option AVal:=match c with|.add=>some (.int k (k.wrap (a+b)))|.sub=>some (.int k (k.wrap (a-b)))|.mul=>some (.int k (k.wrap (a * b)))|.quo=>if b=0 then none else some (.int k (k.wrap (a.tdiv b)))|.rem=>if b=0 then none else some (.int k (a.tmod b))|.and=>some (.int k (k.wrap (BitVec.ofInt k.bits a&&&BitVec.ofInt k.bits b).toNat))|.or=>some (.int k (k.wrap (BitVec.ofInt k.bits a|||BitVec.ofInt k.bits b).toNat))|.xor=>some (.int k (k.wrap (BitVec.ofInt k.bits a^^^BitVec.ofInt k.bits b).toNat))|.andNot=>some (.int k (k.wrap (BitVec.ofInt k.bits a&&& ~~~ BitVec.ofInt k.bits b).toNat))|.eql=>some (.bool (a==b))|.neq=>some (.bool (a !=b))|.lss=>some (.bool (decide (a<b)))|.leq=>some (.bool (decide (a<=b)))|.gtr=>some (.bool (decide (a>b)))|.geq=>some (.bool (decide (a>=b)))|_=>none
def ADf (b:BinOp) (k:IntKind) (x y:Int):Option AVal:=if y<0 then none else match b with|.shl=>some (.int k (k.wrap (x * 2^min y.toNat k.bits)))|.shr=>some (.int k (x.fdiv (2^min y.toNat k.bits)))|_=>none
def AEH (c:BinOp) (a b:B8):Option AVal:=match c with|.add=>if a.length+b.length<=Ca then some (.str (a++b))else none|.eql=>some (.bool (a==b))|.neq=>some (.bool (!(a==b)))|.lss=>some (.bool (Op.bytesLess a b))|.leq=>some (.bool (Op.bytesLess a b||a==b))|.gtr=>some (.bool (!(Op.bytesLess a b||a==b)))|.geq=>some (.bool (!(Op.bytesLess a b)))|_=>none
def AJY (c:BinOp) (a b:Bool):Option AVal:=match c with|.eql=>some (.bool (a==b))|.neq=>some (.bool (!(a==b)))|_=>none
def Yb (P:Program) (t:TypeId):Bool:=match P.underlying t with|some .bool=>true|_=>false
def eqA (P:Program):Nat->TypeId->AVal->AVal->Option Bool
  |0,_,_,_=>none
  | d + 1, t, x,y=>
    match P.underlying t,x,y with
    |some .bool,.bool a,.bool b=>some (a==b)
    |some (.int _),.int k a,.int k' b=>if k=k' then some (a==b)else none
    |some .string,.str a,.str b=>some (a==b)
    | some (.struct fs),.agg xs,.agg ys=>
      if P.stoodInHeld t then none else
      fs.toList.foldr (λf acc=>
        if f.name ≠ "_" then
          match P.underlying f.type with
          |some (.array _ _)=>none
          | some (.struct _)=>
            match(P.info? f.type).map (·.size)with
            | some z=>
              match eqA P d f.type (.agg ((xs.drop f.offset).take z)) (.agg ((ys.drop f.offset).take z)),acc with
              |some a,some b=>some (a&&b)
              |_,_=>none
            |none=>none
          | _=>
            match xs[f.offset]?,ys[f.offset]? with
            | some x,some y=>
              match eqA P d f.type x y,acc with
              |some a,some b=>some (a&&b)
              |_,_=>none
            |_,_=>none
        else acc) (some true)
    |_,_,_=>none
def UZ (P:Program) (t:TypeId):Bool:=match P.underlying t with|some (.pointer e)=>(P.info? e).isSome|_=>false
def AGj:AVal->AVal->Option Bool|.nilp,.nilp=>some true|.nself _ _ _,.nilp=>some true|.nilp,.nself _ _ _=>some true|.ptr _ _,.nilp=>some false|.nilp,.ptr _ _=>some false|.ptr i o,.ptr j p=>if i=j/\o=p then some true else none|_,_=>none
def TP (c:BinOp) (g:Bool) (e:Option Bool):Option AVal:=match c,g,e with|.eql,true,some b=>some (.bool b)|.neq,true,some b=>some (.bool (!b))|_,_,_=>none
def AD3 (P:Program) (t:TypeId):Bool:=match P.underlying t with|some (.func _ _ _)=>true|_=>false
def ABg (c:BinOp) (g b:Bool):Option AVal:=if g=true then(match c with|.eql=>some (.bool b)|.neq=>some (.bool (!b))|_=>none)else none
def Fp (E:Env) (c:BinOp) (t:TypeId) (x y:AVal):Option AVal:=match x,y with
 |.int k a,.int k' b=>match c with|.shl|.shr=>ADf c k a b|_=>if k=k' then Lv c k a b else none
 |.str a,.str b=>AEH c a b
 |.bool a,.bool b=>if Yb E.P t then AJY c a b else none
 |.agg xs,.agg ys=>if E.P.eqGuardType E.P.depth t then none else match c,eqA E.P 10000 t (.agg xs) (.agg ys)with|.eql,some b=>some (.bool b)|.neq,some b=>some (.bool (!b))|_,_=>none
 |.fn _ _ _,.nilFn=>ABg c (AD3 E.P t) false
 |.nilFn,.nilFn=>ABg c (AD3 E.P t) true
 |.any,_=>none
 |x,y=>TP c (UZ E.P t) (AGj x y)
section
variable{E:Env}{O:At}{w:World}
def Qg{b c:TypeId}{j:TypeInfo} (p q:Option Addr) (h:(p=none)\/(q=none)) (hp:E.P.underlying b=some (.pointer c)) (e:E.P.info? c=some j):(binOp .eql b (.pointer p) (.pointer q)).run E.P w=.ok (.bool (decide (p=q))) w/\(binOp .neq b (.pointer p) (.pointer q)).run E.P w=.ok (.bool (!decide (p=q))) w:=by
 have k: ∀d:Nat,(Op.equalIn (d+1) b (.pointer p) (.pointer q)).run E.P w=.ok (decide (p=q)) w:=λd=>by
  rcases h with rfl|rfl;·cases q<;>simp[Op.equalIn,aI hp]
  ·cases p<;>simp[Op.equalIn,aI hp]
 constructor<;>(simp_all[binOp,Op.equal,Op.maxDepth])
def ASO{B:BinOp}{t:TypeId}{x y r:AVal}{g i:Value} (f:Rep O x g) (e:Rep O y i) (h:TP B (UZ E.P t) (AGj x y)=some r):(∃v,(binOp B t g i).run E.P w=.ok v w/\Rep O r v)/\∃p q,g=.pointer p/\i=.pointer q:=by
 unfold TP at h;have d: ∀b,UZ E.P t=true->AGj x y=some b->((binOp .eql t g i).run E.P w=.ok (.bool b) w/\(binOp .neq t g i).run E.P w=.ok (.bool (!b)) w)/\∃p q,g=.pointer p/\i=.pointer q:=by
  intro b k c;obtain⟨s,j,hp,hte⟩: ∃s j,E.P.underlying t=some (.pointer s)/\E.P.info? s=some j:=by grind[UZ,Option.isSome_iff_exists]
  unfold AGj at c;split at c;·cases f;cases e;cases c;exact⟨by simpa using Qg (w:=w) none none (.inl rfl) hp hte,_,_,rfl,rfl⟩
  ·cases f;cases e;cases c;exact⟨by simpa using Qg (w:=w) none none (.inl rfl) hp hte,_,_,rfl,rfl⟩
  ·cases f;cases e;cases c;exact⟨by simpa using Qg (w:=w) none none (.inl rfl) hp hte,_,_,rfl,rfl⟩
  ·cases f;cases e;cases c;exact⟨by simpa using Qg (w:=w) (some _) none (.inr rfl) hp hte,_,_,rfl,rfl⟩
  ·cases f;cases e;cases c;exact⟨by simpa using Qg (w:=w) none (some _) (.inl rfl) hp hte,_,_,rfl,rfl⟩
  ·split at c;·rename_i m;obtain⟨rfl,rfl⟩:=m;cases c;cases f with|ptr D=>cases e with|ptr C=>rw[D]at C;cases C;exact⟨⟨run_eql_ptr_same w _ hp hte,Go.Lib.run_neq_ptr_same w _ hp hte⟩,_,_,rfl,rfl⟩
   grind
  grind
 split at h;·rename_i b k l;cases h;obtain⟨⟨z,A⟩,n⟩:=d b k l;exact⟨⟨_,z,.bool _⟩,n⟩
 ·rename_i b k l;cases h;obtain⟨⟨z,A⟩,n⟩:=d b k l;exact⟨⟨_,A,.bool _⟩,n⟩
 grind
def AQ2{t:TypeId}{c:BinOp}{k:IntKind}{a b:Int}{r:AVal} (d:c≠ .shl) (e:c≠ .shr) (h:Lv c k a b=some r): ∃v,(binOp c t (.int k a) (.int k b)).run E.P w=.ok v w/\Rep O r v:=by
 cases c<;>simp only[Lv,reduceCtorEq]at h d e<;>first|(exact absurd rfl d)|(exact absurd rfl e)|(simp only[ah]at h;subst h;exact⟨_,by simp only[binOp,eA,cQ,aA,Op.intArith,Op.intBits,Op.intCmp];exact bz ..,by constructor⟩)|
  (
   split at h;·cases h
   ·rename_i f;simp only[ah]at h;subst h;exact⟨_,by simp only[binOp,eA,cQ,aA,Op.intDiv,f];exact bz ..,by constructor⟩)
def ABS{t:TypeId}{c:BinOp}{k e:IntKind}{a b:Int}{r:AVal} (h0:c=.shl\/c=.shr) (h:ADf c k a b=some r): ∃v,(binOp c t (.int k a) (.int e b)).run E.P w=.ok v w/\Rep O r v:=by
 unfold ADf at h;split at h;·cases h
 ·rename_i d;rcases h0 with rfl|rfl<;>(simp only[ah]at h;subst h;exact⟨_,by simp only[binOp,Op.shift,d,aA];exact bz ..,by constructor⟩)
def AL7{t:TypeId}{c:BinOp}{a b:ByteArray}{r:AVal} (h:AEH c a.data.toList b.data.toList=some r): ∃v,(binOp c t (.string a) (.string b)).run E.P w=.ok v w/\Rep O r v:=by
 cases c<;>simp only[AEH,reduceCtorEq]at h;case add=>
  split at h
  ·rename_i g;simp only[ah]at h;subst h;have f: ¬((a.size+b.size:Nat):Int)>IntKind.i64.max:=by have j:a.size=a.data.toList.length:=fN;have d:b.size=b.data.toList.length:=fN;have i:IntKind.i64.max=9223372036854775807:=fO;grind[Ca]
   refine⟨.string (a++b),by simp_all[binOp,Op.stringOp],?_⟩;have e:a.data.toList++b.data.toList=(a++b).data.toList:=fN;rw[e];exact .str _ (by grind)
  grind
 all_goals (simp only[ah]at h;subst h;exact⟨_,by simp only[binOp,Op.stringOp,ByteArray.toList_eq];exact bz ..,by constructor⟩)
def AFk{t:TypeId}{c:BinOp}{a b:Bool}{r:AVal} (e:Yb E.P t=true) (h:AJY c a b=some r): ∃v,(binOp c t (.bool a) (.bool b)).run E.P w=.ok v w/\Rep O r v:=by
 have d:E.P.underlying t=some .bool:=by unfold Yb at e;split at e<;>simp_all
 cases c<;>simp only[AJY,reduceCtorEq,ah]at h<;>subst h;·exact⟨_,run_eql_bool w t a b d,.bool _⟩
 ·exact⟨_,run_neq_bool w t a b d,.bool _⟩
def AZk{d:Nat}{t:TypeId}{x y:AVal}{f g:Value}{b:Bool} (hs: ∀fs,E.P.underlying t≠some (.struct fs)) (e:Rep O x f) (c:Rep O y g) (h:eqA E.P d t x y=some b):(Op.equalIn d t f g).run E.P w=.ok b w:=by
 cases d with
 |zero=>simp[eqA]at h
 |succ d=>
  unfold eqA at h;split at h;·rename_i a b i;cases e;cases c;grind[Option.some.injEq,run_equalIn_bool']
  ·rename_i k a j b i;cases e;cases c;grind[Option.some.injEq,run_equalIn_int]
  ·rename_i i;cases e;cases c;grind[Option.some.injEq,run_equalIn_string,ByteArray.toList_eq]
  ·grind
  grind
def RepL.get?{O:At}{xs:List AVal}{vs:List Value} (h:RepL O xs vs){i:Nat}{x:AVal} (c:xs[i]?=some x): ∃v,vs[i]?=some v/\Rep O x v:=by induction xs generalizing vs i with|nil=>grind|cons y xs b=>cases h with|cons h t=>cases i with|zero=>simp_all|succ i=>grind
def XY{t:TypeId}{cs:Array Value}{off:Nat}{v:Value} (hs: ∀fs,E.P.underlying t≠some (.struct fs)) (b: ∀n e,E.P.underlying t≠some (.array n e)) (c:E.P.underlying t≠none) (f:cs[off]?=some v):(part t cs off).run E.P w=.ok v w:=by
 cases hd:E.P.underlying t with
 |none=>grind
 |some d=>
  have:(isAgg t).run E.P w=.ok false w:=by cases d<;>first|exact absurd hd (hs _)|exact absurd hd (b _ _)|simp[isAgg,aI hd]
  simp_all[part]
def RepL.dropP: ∀ {xs:List AVal}{vs:List Value} (n:Nat),RepL O xs vs->RepL O (xs.drop n) (vs.drop n)|_,_,0,h=>h|_,_,_+1,.nil=>.nil|_,_,n+1,.cons _ t=>RepL.dropP n t
def RepL.takeP: ∀ {xs:List AVal}{vs:List Value} (n:Nat),RepL O xs vs->RepL O (xs.take n) (vs.take n)|_,_,0,_=>.nil|_,_,_+1,.nil=>.nil|_,_,n+1,.cons h t=>.cons h (RepL.takeP n t)
def Uu{t:TypeId}{cs:Array Value}{off z:Nat}{fs:Array Field} (hs:E.P.underlying t=some (.struct fs)) (b:(E.P.info? t).map (·.size)=some z):(part t cs off).run E.P w=.ok (.agg (cs.extract off (off+z))) w:=by
 have c:(isAgg t).run E.P w=.ok true w:=by simp[isAgg,aI hs]
 have d:(sizeOf t).run E.P w=.ok z w:=by obtain⟨i,hi,rfl⟩:=aX.1 b;simp[sizeOf,typeInfo,hi]
 simp_all[part]
theorem ACX{d:Nat} (IH: ∀ {t:TypeId}{xs ys:List AVal}{ax ay:Array Value}{b:Bool},RepL O xs ax.toList->RepL O ys ay.toList->eqA E.P d t (.agg xs) (.agg ys)=some b->(Op.equalIn d t (.agg ax) (.agg ay)).run E.P w=.ok b w){xs ys:List AVal}{ax ay:Array Value} (hx:RepL O xs ax.toList) (hy:RepL O ys ay.toList) (fs:List Field){b:Bool}
    (h:fs.foldr (λf acc=>
        if f.name ≠ "_" then
          match E.P.underlying f.type with
          |some (.array _ _)=>none
          | some (.struct _)=>
            match(E.P.info? f.type).map (·.size)with
            | some z=>
              match eqA E.P d f.type (.agg ((xs.drop f.offset).take z)) (.agg ((ys.drop f.offset).take z)),acc with
              |some a,some b=>some (a&&b)
              |_,_=>none
            |none=>none
          | _=>
            match xs[f.offset]?,ys[f.offset]? with
            | some x,some y=>
              match eqA E.P d f.type x y,acc with
              |some a,some b=>some (a&&b)
              |_,_=>none
            |_,_=>none
        else acc) (some true)=some b):(Op.eqFields d ax ay fs).run E.P w=.ok b w:=by
  induction fs generalizing b with
  |nil=>simp at h;simp_all[Op.eqFields]
  | cons f fs ih=>
    rw[List.foldr_cons]at h
    generalize hacc:List.foldr _ _ fs=acc at h
    rw[Op.eqFields]
    split at h
    . rename_i hn
      rw[an hn]
      split at h
      . cases h
      . rename_i fs' hs
        split at h
        . rename_i z hz
          split at h
          . rename_i a b' ea
            simp only[ah]at h;subst h
            have p1:=Uu (E:=E) (w:=w) (cs:=ax) (off:=f.offset) hs hz
            have p2:=Uu (E:=E) (w:=w) (cs:=ay) (off:=f.offset) hs hz
            have e: ∀as:Array Value,(as.extract f.offset (f.offset+z)).toList=(as.toList.drop f.offset).take z:=λas=>by simp
            have p3:=IH (ax:=ax.extract f.offset (f.offset+z)) (ay:=ay.extract f.offset (f.offset+z)) (by rw[e];exact(hx.dropP _).takeP _) (by rw[e];exact(hy.dropP _).takeP _) ea
            have p4:=ih hacc
            simp only[aL,p1,p2,p3,aD]
            cases a
            . simp
            grind
          grind
        grind
      . rename_i h2 h1
        split at h
        . rename_i x y ex ey
          split at h
          . rename_i a b' ea
            simp only[ah]at h;subst h
            obtain⟨vx,e1,r1⟩:=hx.get? ex
            obtain⟨vy,e2,r2⟩:=hy.get? ey
            have hu:E.P.underlying f.type≠none:=by
              intro hu
              cases d with
              |zero=>simp[eqA]at ea
              |succ d=>simp[eqA,hu]at ea
            have p1:=XY (E:=E) (w:=w) (λfs e=>h1 fs e) (λn e' e=>h2 n e' e) hu (by simpa using e1)
            have p2:=XY (E:=E) (w:=w) (λfs e=>h1 fs e) (λn e' e=>h2 n e' e) hu (by simpa using e2)
            have p3:=AZk (w:=w) (λfs e=>h1 fs e) r1 r2 ea
            have p4:=ih hacc
            simp only[aL,p1,p2,p3,aD]
            cases a
            . simp
            grind
          grind
        grind
    . rename_i hn
      rw[aj hn]
      grind
def AAg: ∀ {d:Nat}{t:TypeId}{xs ys:List AVal}{ax ay:Array Value}{b:Bool} (j:RepL O xs ax.toList) (g:RepL O ys ay.toList) (h:eqA E.P d t (.agg xs) (.agg ys)=some b),(Op.equalIn d t (.agg ax) (.agg ay)).run E.P w=.ok b w:=by
 intro d;induction d with
 |zero=>simp_all[eqA]
 |succ d k=>
  intro t xs ys ax ay b j g h;unfold eqA at h;split at h<;>try (rename_i c e;cases c;done)
  ·rename_i fs f i l c e;cases c;cases e;grind[Program.fieldsOf,run_equalIn_struct,ACX]
  grind
def AA4{e:BinOp}{t:TypeId}{ox oy:Operand}{b:Bool}{r:AVal}{c:Value} (j:((∃f p q,c=.func f p q)/\b=false)\/(c=.nilFunc/\b=true)) (h:ABg e (AD3 E.P t) b=some r):∃v,(do eqGuard e t ox oy c .nilFunc;binOp e t c .nilFunc:Sem Value).run E.P w=.ok v w/\Rep O r v:=by
 unfold ABg at h;split at h
 ·rename_i m;obtain⟨g,i,k,hu⟩: ∃g i k,E.P.underlying t=some (.func g i k):=by grind[AD3]
  have l:(eqGuard e t ox oy c .nilFunc).run E.P w=.ok () w:=by rcases j with⟨⟨f,p,q,rfl⟩,_⟩|⟨rfl,_⟩<;>cases e<;>simp[eqGuard]
  have n: ∀d:Nat,(Op.equalIn (d+1) t c .nilFunc).run E.P w=.ok b w:=λd=>by rcases j with⟨⟨f,p,q,rfl⟩,rfl⟩|⟨rfl,rfl⟩<;>simp[Op.equalIn,aI hu]
  simp only[aL,l,aD];split at h;·simp only[ah]at h;subst h;exact⟨.bool b,by simp_all[binOp,Op.equal,Op.maxDepth],.bool _⟩
  ·simp only[ah]at h;subst h;exact⟨.bool (!b),by simp_all[binOp,Op.equal,Op.maxDepth],.bool _⟩
  grind
 grind
def AbD{f:BinOp}{t:TypeId}{ox oy:Operand}{x y r:AVal}{j l:Value} (d:Rep O x j) (c:Rep O y l) (h:Fp E f t x y=some r):∃v,(do eqGuard f t ox oy j l;binOp f t j l:Sem Value).run E.P w=.ok v w/\Rep O r v:=by
 unfold Fp at h;split at h
 ·rename_i k a z b;cases d;cases c;have g:(eqGuard f t ox oy (.int k a) (.int z b)).run E.P w=.ok () w:=by cases f<;>simp[eqGuard]
  simp only[aL,g,aD];split at h;·exact ABS (.inl rfl) h
  ·exact ABS (.inr rfl) h
  ·rename_i m n;split at h;·rename_i e;subst e;exact AQ2 m n h
   grind
 ·rename_i a b;cases d;cases c;rename_i a _ b _;have g:(eqGuard f t ox oy (.string a) (.string b)).run E.P w=.ok () w:=by cases f<;>simp[eqGuard]
  simp only[aL,g,aD];exact AL7 h
 ·rename_i a b;cases d;cases c;have g:(eqGuard f t ox oy (.bool a) (.bool b)).run E.P w=.ok () w:=by cases f<;>simp[eqGuard]
  simp only[aL,g,aD];split at h;·rename_i A;exact AFk A h
  grind
 ·rename_i xs ys;cases d with
  | agg d _=>
   cases c with
   | agg c _=>
    rename_i ax _ ay _;split at h;·cases h
    ·rename_i s;have g:=run_eqGuard_agg w f t ox oy ax ay (by simpa using s);simp only[aL,g,aD];split at h;·rename_i b i;simp only[ah]at h;subst h;refine⟨.bool b,?_,.bool _⟩;rw[run_eql_struct,AAg d c i];rfl
     ·rename_i b i;simp only[ah]at h;subst h;refine⟨.bool (!b),?_,.bool _⟩;rw[run_neq_struct,AAg d c i];rfl
     grind
 ·cases d;cases c;exact AA4 (.inl ⟨⟨_,_,_,rfl⟩,rfl⟩) h
 ·cases d;cases c;exact AA4 (.inr ⟨rfl,rfl⟩) h
 ·cases h
 ·rename_i m n B D G;obtain⟨⟨v,H,C⟩,p,q,rfl,rfl⟩:=ASO (w:=w) d c h;simp_all[eqGuard]
end
end Go.VM
namespace Go.VM
def BI (P:Program) (t:TypeId):Bool:=match P.underlying t with|some (.struct _)|some (.array _ _)=>true|_=>false
def Ai (P:Program) (t:TypeId):Bool:=(P.underlying t).isSome
def BV (P:Program) (t:TypeId):Option Nat:=(P.info? t).map (·.size)
def AU (P:Program) (s:TypeId) (f:Nat):Option (Nat×Nat×Bool):=
  match P.underlying s with
  | some (.struct fs)=>
    match fs[f]? with
    | some fl=>
      match BV P fl.type with
      |some z=>if Ai P fl.type&&z≠0 then some (fl.offset,z,BI P fl.type)else none
      |none=>none
    |none=>none
  |_=>none
def Bh (P:Program) (t:TypeId):Option Nat:=match P.underlying t with|some (.slice e)=>BV P e|_=>none
def OD (P:Program) (t:TypeId):Option (Nat×Nat×Bool):=match P.underlying t with|some (.array n e)=>if Ai P e then(BV P e).map λz=>(n,z,BI P e)else none|_=>none
def Di (P:Program) (t:TypeId):Bool:=match P.underlying t with|some .string=>true|_=>false
def Ba (P:Program) (t:TypeId):Bool:=match P.underlying t with|some (.slice _)=>true|_=>false
def I4 (P:Program) (t:TypeId):Option IntKind:=match P.underlying t with|some (.int k)=>some k|_=>none
def unA (c:UnOp) (x:AVal):Option AVal:=match c,x with|.neg,.int k n=>some (.int k (k.wrap (0-n)))|.xor,.int k n=>some (.int k (k.wrap (BitVec.ofInt k.bits (if k.signed then-1 else k.max)^^^BitVec.ofInt k.bits n).toNat))|.not,.bool b=>some (.bool !b)|_,_=>none
def AdN (E:Env) (s d:TypeId) (x:AVal):Option AVal:=match x with
 |.int _ n=>if Ai E.P s then(match I4 E.P d with|some k=>some (.int k (k.wrap n))|none=>none)else none
 |.str l=>if Ai E.P s&&Di E.P d then some (.str l)else none
 |_=>none
def Fg (n:Int):UInt8:=UInt8.ofNat n.toNat
def AJ (b:UInt8):Int:=b.toNat
def bytesOf:List AVal->Option B8|[]=>some []|.int .u8 n::xs=>(bytesOf xs).map (Fg n:: ·)|_=>none
def u8T (P:Program) (t:TypeId):Bool:=match P.underlying t with|some (.slice e)=>(match P.underlying e with|some (.int .u8)=>true|_=>false)|_=>false
def strOf (g:Bool) (x:Option B8):Option AVal:=match g,x with|true,some l=>some (.str l)|_,_=>none
def JL (n:Int):B8:=(Utf8.encode n).data.toList
def UG (E:Env) (s d:TypeId) (x:AVal):Option AVal:=match x with|.slice _ xs _=>strOf (u8T E.P s&&Di E.P d) (bytesOf xs)|.int k n=>if(Ai E.P s&&Di E.P d)=true then some (.str (JL n))else AdN E s d (.int k n)|x=>AdN E s d x
def P5 (E:Env) (s:TypeId) (x:AVal) (f:Nat):Option AVal:=match AU E.P s f with
 |some (off,_,_)=>match x with|.ptr i o=>some (.ptr i (o+off))|.cptr cs=>some (.cptr (cs.drop off))|.vptr i w n k=>some (.vptr i w n (k+off))|_=>none
 |none=>none
def Xe (cs:List AVal) (off z:Nat) (b:Bool):Option AVal:=if b then(if off+z<=cs.length then some (.agg ((cs.drop off).take z))else none)else cs[off]?
def Xy (E:Env) (s:TypeId) (x:AVal) (f:Nat):Option AVal:=match AU E.P s f,x with|some (off,z,g),.agg cs=>Xe cs off z g|_,_=>none
def Da (E:Env) (t:TypeId) (x i:AVal):Option AVal:=match x,i with
 |.slice w xs _,.int _ n=>if Bh E.P t=some w/\0<=n then match xs[n.toNat]? with|some y=>if(Aa y).length=w then some (.cptr (Aa y))else none|none=>none else none
 |.bsl w i off len,.int _ n=>if Bh E.P t=some w/\0<=n/\n<len then some (.ptr i (off+n.toNat * w))else none
 |.gsl w i len,.int _ n=>if Bh E.P t=some w/\0<=n/\n<len then some (.ptr i (n.toNat * w))else none
 |.ptr j o,.int _ n=>match OD E.P t with|some (len,z,_)=>if 0<=n/\n<len then some (.ptr j (o+n.toNat * z))else none|none=>none
 |.cptr cs,.int _ n=>match OD E.P t with|some (len,z,_)=>if 0<=n/\n<len then some (.cptr (cs.drop (n.toNat * z)))else none|none=>none
 |_,_=>none
def VS (E:Env) (t:TypeId) (x i:AVal):Option AVal:=match x,i with
 |.str s,.int _ n=>if Di E.P t/\0<=n then match s[n.toNat]? with|some b=>some (.int .u8 b.toNat)|none=>none else none
 |.agg cs,.int _ n=>match OD E.P t with|some (len,z,g)=>if 0<=n/\n<len then Xe cs (n.toNat * z) z g else none|none=>none
 |_,_=>none
def rdo (E:Env) (af:List AVal):Option Operand->Option (Option Int)|none=>some none|some x=>match rd E af 0 x with|.int _ n=>some (some n)|_=>none
def GZ (E:Env) (t:TypeId) (x:AVal) (lo hi mx:Option Int):Option AVal:=
  match x with
  | .str s=>
    let h:=hi.getD s.length
    let l:=lo.getD 0
    if Di E.P t/\mx=none/\0<=l/\l<=h/\h<=s.length then some (.str ((s.drop l.toNat).take (h.toNat-l.toNat)))else none
  | .slice w xs _=>
    let h:=hi.getD xs.length
    let l:=lo.getD 0
    if Bh E.P t=some w/\(mx=none\/(mx=some h/\hi≠none))/\0<=l/\l<=h/\h<=xs.length then some (.slice w ((xs.drop l.toNat).take (h.toNat-l.toNat)) mx.isSome)else none
  | .bsl w i off len=>
    let h:=hi.getD len
    let l:=lo.getD 0
    if Bh E.P t=some w/\mx=none/\0<=l/\l<=h/\h<=len then some (.bsl w i (off+l.toNat * w) (h.toNat-l.toNat))else none
  | .gsl w i len=>
    let h:=hi.getD len
    if Bh E.P t=some w/\mx=none/\lo=none/\0<=h/\h<=len then some (.gsl w i h.toNat)else none
  | .trow T i len=>
    let h:=hi.getD len
    if Bh E.P t=some 1/\mx=none/\lo=none/\0<=h/\h<=len then some (.trow T i h.toNat)else none
  | .ptr i off=>
    match OD E.P t with
    | some (len,z,_)=>
      let h:=hi.getD len
      let l:=lo.getD 0
      if mx=none/\0<=l/\l<=h/\h<=len/\len<=Ca then some (.bsl z i (off+l.toNat * z) (h.toNat-l.toNat))else none
    |none=>none
  |_=>none
def TS (E:Env) (t:TypeId) (x:AVal):Option AVal:=match x with|.str s=>if Di E.P t then some (.int .i64 s.length)else none|.slice _ xs _=>if Ba E.P t then some (.int .i64 xs.length)else none|.bsl _ _ _ len=>if Ba E.P t then some (.int .i64 len)else none|.gsl _ _ len=>if Ba E.P t then some (.int .i64 len)else none|.nbuf _=>if Ba E.P t then some (.int .i64 0)else none|.buf _ l _=>if Ba E.P t then some (.int .i64 l.length)else none|_=>none
def Ahq (x y:AVal):Option AVal:=match x,y with|.int k a,.int _ b=>some (.int k (if b<a then b else a))|_,_=>none
def Aii (x y:AVal):Option AVal:=match x,y with|.int k a,.int _ b=>some (.int k (if b>a then b else a))|_,_=>none
def ArL (E:Env) (t:TypeId) (x:AVal):Option AVal:=match x with|.nbuf _=>if Ba E.P t then some (.int .i64 0)else none|_=>none
def AcM (E:Env) (t:TypeId) (x y:AVal):Option AVal:=match x,y with|.trow _ _ 0,.nbuf _=>if Bh E.P t=some 1 then some (.int .i64 0)else none|_,_=>none
def Oi (x:AVal):Option AVal:=match x with|.ptr i o=>some (.ptr i o)|.cptr cs=>some (.cptr cs)|.fn (.func f) p q=>some (.fn (.func f) p q)|_=>none
def D8 (E:Env) (o:Oper) (af:List AVal):Option AVal:=match o.op with
 |.pick c x y=>match rd E af 0 c with|.bool t=>some (if t then rd E af o.type x else rd E af o.type y)|_=>none
 |.nilCheck x=>Oi (rd E af 0 x)
 |.binOp op t x y _=>Fp E op t (rd E af t x) (rd E af t y)
 |.unOp op _ x=>unA op (rd E af 0 x)
 |.convert s d x=>UG E s d (rd E af s x)
 |.makeFunc f p q=>some (.fn f (p.toList.map (rd E af 0)) (q.toList.map (rd E af 0)))
 |.fieldAddr s x f=>P5 E s (rd E af 0 x) f
 |.field s x f=>Xy E s (rd E af s x) f
 |.indexAddr t x i=>Da E t (rd E af t x) (rd E af 0 i)
 |.index t x i=>VS E t (rd E af t x) (rd E af 0 i)
 |.call {callee:=.builtin .len,args:=⟨[x]⟩,argTypes:=⟨t::_⟩}=>TS E t (rd E af t x)
 |.call {callee:=.builtin .min,args:=⟨[x,y]⟩,argTypes:=_}=>Ahq (rd E af 0 x) (rd E af 0 y)
 |.call {callee:=.builtin .max,args:=⟨[x,y]⟩,argTypes:=_}=>Aii (rd E af 0 x) (rd E af 0 y)
 |.call {callee:=.builtin .cap,args:=⟨[x]⟩,argTypes:=⟨t::_⟩}=>ArL E t (rd E af t x)
 |.call {callee:=.builtin .copy,args:=⟨[x,y]⟩,argTypes:=⟨[t,s]⟩}=>AcM E t (rd E af t x) (rd E af s y)
 |_=>none
section
variable{E:Env}{O:At}{w:World}
theorem CU{P:Program}{t:TypeId} (h:Di P t=true):P.underlying t=some .string:=by unfold Di at h;split at h<;>simp_all
def ZF{P:Program}{t:TypeId}{k:IntKind} (h:I4 P t=some k):P.underlying t=some (.int k):=by unfold I4 at h;split at h<;>simp_all
def C9{P:Program}{t:TypeId} (h:Ai P t=true): ∃d,P.underlying t=some d:=dM.1 h
def Bt{P:Program}{t:TypeId}{z:Nat} (h:Bh P t=some z): ∃e,P.underlying t=some (.slice e)/\BV P e=some z:=by grind[Bh]
def DW{t:TypeId}{z:Nat} (h:BV E.P t=some z):(sizeOf t).run E.P w=.ok z w:=by unfold BV at h;cases hi:E.P.info? t with|none=>grind|some i=>simp_all[sizeOf,typeInfo]
theorem Rs{t:TypeId} (h:Ai E.P t=true):(isAgg t).run E.P w=.ok (BI E.P t) w:=by obtain⟨d,hd⟩:=C9 h;unfold BI;rw[hd];cases d<;>simp[isAgg,aI hd]
def AA8{P:Program}{s:TypeId}{f off z:Nat}{g:Bool} (h:AU P s f=some (off,z,g)):∃fs b,P.underlying s=some (.struct fs)/\fs[f]?=some b/\b.offset=off/\BV P b.type=some z/\z≠0/\Ai P b.type=true/\BI P b.type=g:=by
 unfold AU at h;split at h
 ·rename_i fs i;split at h
  ·rename_i b e;split at h
   ·rename_i j d;split at h;·rename_i c;simp only[ah,aB]at h;obtain⟨rfl,rfl,rfl⟩:=h;simp only[aw,au]at c;exact⟨fs,b,i,e,rfl,d,c.2,c.1,rfl⟩
    ·cases h
   grind
  grind
 grind
def Sn{P:Program}{t:TypeId}{n z:Nat}{g:Bool} (h:OD P t=some (n,z,g)): ∃e,P.underlying t=some (.array n e)/\BV P e=some z/\Ai P e=true/\BI P e=g:=by
 unfold OD at h;split at h
 ·rename_i b e f;split at h;·rename_i c;cases hz:BV P e with|none=>grind|some d=>simp_all
  grind
 grind
theorem addr_add (b off n:Nat):(⟨b,off,none⟩:Addr).add n=⟨b,off+n,none⟩:=by grind[Addr.add]
def Ahd{b:UnOp}{x r:AVal}{v:Value} (c:Rep O x v) (h:unA b x=some r): ∃u,(Op.unary b v).run E.P w=.ok u w/\Rep O r u:=by unfold unA at h;split at h<;>first|cases h;done|(cases c;simp only[ah]at h;subst h;exact⟨_,by simp only[Op.unary,Op.intArith,Op.intBits];exact bz ..,by constructor⟩)
def ABh{s d:TypeId}{x r:AVal}{v:Value} (c:Rep O x v) (h:AdN E s d x=some r): ∃u,(convert s d v).run E.P w=.ok u w/\Rep O r u:=by
 unfold AdN at h;split at h
 ·rename_i k0 n0;cases c;split at h
  ·rename_i b;obtain⟨e,hs⟩:=C9 b;split at h;·rename_i k hd;simp only[ah]at h;subst h;exact⟨.int k (k.wrap n0),by simp[convert,aI hs,aI (ZF hd),Conv.intToInt],.int _ _⟩
   grind
  grind
 ·cases c;split at h;·rename_i b;simp only[aw]at b;obtain⟨e,hs⟩:=C9 b.1;simp only[ah]at h;subst h;rename_i l _;exact⟨.string l,by simp[convert,aI hs,aI (CU b.2)],.str _ fM⟩
  grind
 grind
def RepL.drop{O:At}{xs:List AVal}{vs:List Value} (h:RepL O xs vs) (n:Nat):RepL O (xs.drop n) (vs.drop n):=by induction n generalizing xs vs with|zero=>grind|succ n b=>cases h with|nil=>simpa using RepL.nil|cons h t=>grind
def RepL.take{O:At}{xs:List AVal}{vs:List Value} (h:RepL O xs vs) (n:Nat):RepL O (xs.take n) (vs.take n):=by induction n generalizing xs vs with|zero=>simpa using RepL.nil|succ n b=>cases h with|nil=>simpa using RepL.nil|cons h t=>simpa using .cons h (b t)
def AGh{cs:List AVal}{b off n:Nat} (h:Rep O (.cptr cs) (.pointer (some ⟨b,off,none⟩))):Rep O (.cptr (cs.drop n)) (.pointer (some ⟨b,off+n,none⟩)):=by cases h with|cptr c hd h d=>rename_i cells vs rest;refine .cptr (vs:=vs.drop n) (rest:=rest.drop (n-vs.length)) c ?_ (h.drop n) (λv e=>d v (cy e));rw[<-aT,hd,cv]
def AAp{s:TypeId}{x r:AVal}{v:Value}{f:Nat} (c:Rep O x v) (h:P5 E s x f=some r): ∃u,(Instr.fieldAt s v f).run E.P w=.ok u w/\Rep O r u:=by
 unfold P5 at h;split at h
 ·rename_i off z g i;obtain⟨fs,p,k,m,e,j,l,q,n⟩:=AA8 i;have key: ∀b o,(Instr.fieldAt s (.pointer (some ⟨b,o,none⟩)) f).run E.P w=.ok (.pointer (some ⟨b,o+off,none⟩)) w:=by intro b o;simp[Instr.fieldAt,aI k,m,Instr.sureAddr,fieldPlace,DW j,l,addr_add,e]
  split at h;·cases c;simp only[ah]at h;subst h;exact⟨_,key _ _,.ptr fM⟩
  ·cases c;simp only[ah]at h;subst h;exact⟨_,key _ _,AGh (.cptr fM fM fM fM)⟩
  ·simp only[ah]at h;subst h;cases c with|vptr d=>refine⟨_,key _ _,?_⟩;rw[cH,cH];exact .vptr d
  grind
 grind
def ABU{t:TypeId}{cs:List AVal}{arr:Array Value}{off z:Nat}{g:Bool}{r:AVal} (f:Ai E.P t=true) (i:BI E.P t=g) (c:BV E.P t=some z) (b:RepL O cs arr.toList) (k: ∀v,v∈arr.toList->v.oneCell'=true) (h:Xe cs off z g=some r): ∃u,(part t arr off).run E.P w=.ok u w/\Rep O r u:=by
 unfold Xe at h;have d:(isAgg t).run E.P w=.ok g w:=by grind[Rs]
 cases g with
 | true=>
  simp only[az]at h;split at h
  ·simp only[ah]at h;subst h;have e:(arr.extract off (off+z)).toList=(arr.toList.drop off).take z:=by simp
   refine⟨.agg (arr.extract off (off+z)),by simp[part,d,DW c],.agg ?_ ?_⟩;·rw[e];exact(b.drop _).take _
   grind
  grind
 |false=>simp only[ap,aA]at h;obtain⟨v,l,j⟩:=b.get? h;simp_all[part]
def AQr{s:TypeId}{x r:AVal}{v:Value}{f:Nat} (b:Rep O x v) (h:Xy E s x f=some r): ∃u,(Instr.field s v f).run E.P w=.ok u w/\Rep O r u:=by
 unfold Xy at h;split at h;·rename_i off z g cs e;obtain⟨fs,q,m,p,c,k,t,n,d⟩:=AA8 e;cases b with|agg b l=>rename_i arr;obtain⟨u,i,j⟩:=ABU (w:=w) n d k b l h;exact⟨u,by simp[Instr.field,aI m,p,asAgg,c,i],j⟩
 grind
def RepS.get{O:At}{wd:Nat}{xs:List AVal}{cs:List Value} (h:RepS O wd xs cs){i:Nat}{y:AVal} (b:xs[i]?=some y): ∃v rest,cs.drop (i * wd)=v.cells.toList++rest/\Rep O y v/\v.cells.size=wd/\∀c,c∈v.cells.toList->c.oneCell'=true:=by induction xs generalizing cs i with|nil=>grind|cons x xs j=>cases h with|cons h e t=>rename_i v cs;cases i with|zero=>simp at b;subst b;exact⟨v,cs,fN,h,e⟩|succ i=>obtain⟨u,rest,g,d,f⟩:=j t (by simpa using b);refine⟨u,rest,?_,d,f⟩;rw[<-g,bH,eG,<-aT,fq (by grind)]
def RepS.drop{O:At}{wd:Nat}{xs:List AVal}{cs:List Value} (h:RepS O wd xs cs) (n:Nat):RepS O wd (xs.drop n) (cs.drop (n * wd)):=by
 induction n generalizing xs cs with
 |zero=>grind
 | succ n ih=>
  cases h with
  |nil=>simpa using RepS.nil _ _
  |cons h b t=>
   rename_i x u xs cs';have e:(u.cells.toList++cs').drop ((n+1) * wd)=cs'.drop (n * wd):=by rw[bH,eG,<-aT,fq (by grind)]
   grind
def RepS.take{O:At}{wd:Nat}{xs:List AVal}{cs:List Value} (h:RepS O wd xs cs) (n:Nat):RepS O wd (xs.take n) cs:=by induction n generalizing xs cs with|zero=>simpa using RepS.nil _ _|succ n c=>cases h with|nil=>simpa using RepS.nil _ _|cons h b t=>exact .cons h b (c t)
def RepS.len{O:At}{wd:Nat}{xs:List AVal}{cs:List Value} (h:RepS O wd xs cs):xs.length * wd<=cs.length:=by induction xs generalizing cs with|nil=>simp|cons x xs c=>cases h with|cons h b t=>grind[List.length_cons,List.length_append,Array.length_toList,Nat.succ_mul]
def XO{t e:TypeId}{len z b o:Nat}{k:IntKind}{n:Int} (g:E.P.underlying t=some (.array len e)) (c:BV E.P e=some z) (d:0<=n) (f:n<len):(Instr.indexAt t (.pointer (some ⟨b,o,none⟩)) (.int k n)).run E.P w=.ok (.pointer (some ⟨b,o+n.toNat * z,none⟩)) w:=by simp[Instr.indexAt,asIntOf,aI g,Instr.sureAddr,d,f,DW c,addr_add]
def AAy{t:TypeId}{x i r:AVal}{v D:Value} (q:Rep O x v) (hi:Rep O i D) (h:Da E t x i=some r): ∃u,(Instr.indexAt t v D).run E.P w=.ok u w/\Rep O r u:=by
 unfold Da at h;split at h
 ·rename_i wd xs o k n;cases hi;split at h
  ·rename_i d;obtain⟨hs,L⟩:=d;obtain⟨e,l,f⟩:=Bt hs;split at h
   ·rename_i y J;split at h
    ·rename_i W;simp only[ah]at h;subst h;cases q with
     |snil=>grind
     |slice _ H G p U S=>
      rename_i b off len cap cells;have R:n.toNat<len:=by grind
      obtain⟨u,rest,e1,I,K⟩:=U.get J;refine⟨.pointer (some ⟨b,off+n.toNat * wd,none⟩),?_,?_⟩;·have V:n<(len:Int):=fM;simp[Instr.indexAt,asIntOf,aI l,L,V,DW f,addr_add]
      ·refine .cptr H (by rw[<-aT];omega) (I.cells fM) K.2
    grind
   grind
  grind
 ·rename_i wd j off len k n;cases hi;cases q with
  |bsl c Y p=>
   rename_i m b cap;split at h;·rename_i d;obtain⟨hs,h0,B⟩:=d;obtain⟨e,l,f⟩:=Bt hs;simp only[ah]at h;subst h;have C:m=off:=fM;subst C;refine⟨.pointer (some ⟨b,m+n.toNat * wd,none⟩),?_,.ptr c⟩;simp[Instr.indexAt,asIntOf,aI l,h0,B,DW f,addr_add]
   grind
 ·rename_i wd j len k n;cases hi;cases q with
  |gsl c X p M=>
   rename_i b cap sz T;split at h;·rename_i d;obtain⟨hs,h0,B⟩:=d;obtain⟨e,l,f⟩:=Bt hs;simp only[ah]at h;subst h;refine⟨.pointer (some ⟨b,0+n.toNat * wd,none⟩),?_,by rw[bJ];exact .ptr c⟩;simp[Instr.indexAt,asIntOf,aI l,h0,B,DW f,addr_add]
   grind
 ·rename_i j o k n;cases hi;cases q;split at h
  ·rename_i b c _ len z g s;obtain⟨e,l,f,_,_⟩:=Sn s;split at h;·rename_i d;simp only[ah]at h;subst h;exact⟨_,XO l f d.1 d.2,.ptr c⟩
   grind
  grind
 ·rename_i cs k n;cases hi;split at h
  ·rename_i len z g s;obtain⟨e,l,f,_,_⟩:=Sn s;split at h;·rename_i d;simp only[ah]at h;subst h;have A:=q;cases q with|cptr H hd Z=>exact⟨_,XO l f d.1 d.2,AGh A⟩
   grind
  grind
 grind
def Afo (s:ByteArray) (i:Nat):s[i]?=s.data.toList[i]?:=by
 by_cases h:i<s.size
 ·rw[ByteArray.getElem?_lt' s i h];have:i<s.data.toList.length:=by simp_all
  rw[aS this];rfl
 simp_all
def AIE{t:TypeId}{x i r:AVal}{v l:Value} (d:Rep O x v) (hi:Rep O i l) (h:VS E t x i=some r): ∃u,(Instr.index t v l).run E.P w=.ok u w/\Rep O r u:=by
 unfold VS at h;split at h
 ·cases hi;cases d with
  |str s B=>
   split at h
   ·rename_i k n c;split at h
    ·rename_i b G;simp only[ah]at h;subst h;have f:s.data[n.toNat]?=some b:=by grind
     exact⟨.int .u8 b.toNat,by simp[Instr.index,asIntOf,aI (CU c.1),c.2,Afo,f],.int _ _⟩
    grind
   grind
 ·cases hi;cases d with
  |agg d C=>
   split at h
   ·rename_i k n len z g m;obtain⟨e,y,j,p,q⟩:=Sn m;split at h;·rename_i c;obtain⟨u,A,D⟩:=ABU (w:=w) p q j d C h;exact⟨u,by simp[Instr.index,asIntOf,aI y,c.1,c.2,DW j,A],D⟩
    grind
   grind
 grind
def Rf{F:Nat->Nat}{st:St}{af:List AVal}{a:Act} (hs:Sim E F O st w af a.tmps.toList){x:Option Operand}{y:Option Int} (h:rdo E af x=some y):∃k,x.map a.eval=y.map (λn=>Value.int k n):=by
 unfold rdo at h;split at h;·simp only[ah]at h;subst h;simp
 ·rename_i o;have b:=hs.rd 0 o;split at h;·rename_i k n e;simp only[ah]at h;subst h;rw[e]at b;cases hr':a.eval o<;>rw[hr']at b<;>cases b;grind
  grind
def JH{isSlice:Bool}{len cap:Nat}{kl kh km:IntKind}{lo hi mx:Option Int}{l h m:Int} (d:lo.getD 0=l) (c:hi.getD len=h) (b:mx.getD cap=m) (h0:0<=l) (g:l<=h) (i:h<=m) (f:m<=cap) (e:mx.isSome=true->hi.isSome=true):(Instr.sliceBounds isSlice len cap (lo.map λn=>Value.int kl n) (hi.map λn=>Value.int kh n) (mx.map λn=>Value.int km n)).run E.P w=.ok (l.toNat,h.toNat,m.toNat) w:=by
 cases lo<;>cases hi<;>cases mx<;>simp only[ck,dD,dR,cj,forall_const,ap]at d c b e;all_goals subst d;subst c;subst b
 all_goals (try simp only[bG]at *)
 all_goals simp only[Instr.sliceBounds,bT,aP,aL,bz,aD,dR,cj,az,ap,aA]
 all_goals (try simp only[run_sliceBound_if])
 all_goals (try rw[an ⟨fM,fM⟩])
 all_goals grind[Result.andThen_ok]
 all_goals (try rw[an ⟨fM,fM⟩])
 all_goals grind[Result.andThen_ok]
 all_goals (try rw[an ⟨fM,fM⟩])
 all_goals simp
 all_goals rfl
theorem AMO{t:TypeId}{x r:AVal}{v:Value}{lo hi mx:Option Int}{kl kh km:IntKind} (D:Rep O x v) (h:GZ E t x lo hi mx=some r):∃u,(Instr.sliceAt t v (lo.map λn=>Value.int kl n) (hi.map λn=>Value.int kh n) (mx.map λn=>Value.int km n)).run E.P w=.ok u w/\Rep O r u/\(∀b,cnt b r u=0)/\own O w r u:=by
 unfold GZ at h;split at h
 ·cases D with
  |str s hsn=>
   simp only at h;split at h
   ·rename_i f;obtain⟨B,d,h0,q,J⟩:=f;simp only[ah]at h;subst h;subst d;have k:=CU B;have M:s.data.toList.length=s.size:=fN;rw[M]at *;have key:=JH (E:=E) (w:=w) (isSlice:=false) (len:=s.size) (cap:=s.size) (kl:=kl) (kh:=kh) (km:=km) (lo:=lo) (hi:=hi) (mx:=none) rfl rfl rfl h0 q J fN fN;refine⟨.string (s.extract (lo.getD 0).toNat (hi.getD s.size).toNat),?_,?_,λb=>by simp[cnt],by simp[own]⟩;·simp only[bT]at key;simp[Instr.sliceAt,aI k,Instr.slice,key]
    ·have e:((s.data.toList.drop (lo.getD 0).toNat).take ((hi.getD s.size).toNat-(lo.getD 0).toNat))=(s.extract (lo.getD 0).toNat (hi.getD s.size).toNat).data.toList:=by simp
     rw[e];exact .str _ (by grind)
   grind
 ·rename_i wd xs o;simp only at h;split at h
  ·rename_i f;obtain⟨B,d,h0,q,J⟩:=f;obtain⟨e,k,y⟩:=Bt B;simp only[ah]at h;subst h;obtain⟨base,len,cap,rfl,j,p⟩: ∃base len cap,v=.slice base len cap/\xs.length=len/\len<=cap:=by cases D with|snil=>exact⟨_,0,0,rfl,rfl,av _⟩|slice _ X M f Y W=>exact⟨_,_,_,rfl,M,f.1⟩
   subst j;have hmm:mx.getD cap=mx.getD cap:=rfl;have key:=JH (E:=E) (w:=w) (isSlice:=true) (len:=xs.length) (cap:=cap) (kl:=kl) (kh:=kh) (km:=km) (lo:=lo) (hi:=hi) (mx:=mx) rfl rfl rfl h0 q (by rcases d with rfl|⟨rfl,_⟩<;>simp<;>omega) (by rcases d with rfl|⟨rfl,_⟩<;>simp<;>omega) (by rcases d with rfl|⟨rfl,h⟩<;>simp;cases hi<;>simp_all);generalize L:lo.getD 0=l at *;generalize A:hi.getD xs.length=hh at *;generalize K:(mx.getD cap).toNat=m at *;refine⟨.slice (if m=l.toNat then base else base.map (·.add (l.toNat * wd))) (hh.toNat-l.toNat) (m-l.toNat),?_,?_,?_,?_⟩;·simp[Instr.sliceAt,aI k,Instr.slice,key,DW y]
   ·have hle:hh.toNat<=m:=by rcases d with rfl|⟨rfl,_⟩<;>simp at K<;>omega
    cases D with
    |snil=>
     have V:hh.toNat=0:=fM;have U:l.toNat=0:=fM;have R:m=0:=by rcases d with rfl|⟨rfl,_⟩<;>simp at K<;>omega
     rw[V,U,R];simp only[List.take_nil,List.drop_nil,az,dh];exact .snil _ _ _
    | slice _ X M f Y W=>
     rename_i b off cells;have j:((xs.drop l.toNat).take (hh.toNat-l.toNat)).length=hh.toNat-l.toNat:=by grind
     by_cases hml:m=l.toNat;·have S:hh.toNat-l.toNat=0:=fM;rw[an hml,S,hml];simp only[dy,dh];exact .slice _ X rfl ⟨av _,aM _⟩ (.nil _ _) (λ_ _=>.inl rfl)
     ·rw[aj hml];simp only[aP,addr_add];refine .slice _ X j ⟨fM,fM⟩ ?_ ?_;rotate_left;·grind
      rw[<-aT];exact(Y.drop _).take _
   ·intro b;cases hmx:mx with
    |none=>simp[cnt]
    |some z=>
     have:m=hh.toNat:=by rcases d with h|⟨h,_⟩<;>simp_all
     simp only[cj,cnt];unfold Lt;split;·rename_i e;simp only[d5]at e;rw[aj];omega
     ·rfl
   ·cases hmx:mx with
    |none=>simp[own]
    |some z=>
     have:m=hh.toNat:=by rcases d with h|⟨h,_⟩<;>simp_all
     simp only[cj,own];unfold Lx;grind
  grind
 ·rename_i wd i off len;simp only at h;split at h
  ·rename_i f;obtain⟨B,d,h0,q,J⟩:=f;obtain⟨e,k,y⟩:=Bt B;simp only[ah]at h;subst h;subst d;cases D with
   | bsl c ho p=>
    rename_i C b cap;have key:=JH (E:=E) (w:=w) (isSlice:=true) (len:=len) (cap:=cap) (kl:=kl) (kh:=kh) (km:=km) (lo:=lo) (hi:=hi) (mx:=none) rfl rfl rfl h0 q (by grind) fN fN;simp only[ck,bT,bG]at key;generalize L:lo.getD 0=l at *;generalize A:hi.getD (len:Int)=hh at *;refine⟨.slice (some (if cap=l.toNat then⟨b,C,none⟩else⟨b,C+l.toNat * wd,none⟩)) (hh.toNat-l.toNat) (cap-l.toNat),?_,?_,λb=>by simp[cnt],by simp[own]⟩;·simp only[bT,Instr.sliceAt,aI k,Instr.slice,key,DW y,aL,aD,bz];split<;>simp[addr_add]
    ·split;·exact .bsl c (.inl fM) ⟨fM,fM⟩
     ·refine .bsl c ?_ ⟨fM,fM⟩;omega
  grind
 ·rename_i wd i len;simp only at h;split at h;·rename_i f;obtain⟨B,d,H,q,J⟩:=f;obtain⟨e,k,y⟩:=Bt B;simp only[ah]at h;subst h;subst d;subst H;cases D with|gsl c I p G=>rename_i b cap sz T;have key:=JH (E:=E) (w:=w) (isSlice:=true) (len:=len) (cap:=cap) (kl:=kl) (kh:=kh) (km:=km) (lo:=none) (hi:=hi) (mx:=none) rfl rfl rfl fN (by grind) (by grind) fN fN;simp only[ck,bT,bG,eP]at key;generalize A:hi.getD (len:Int)=hh at *;refine⟨.slice (some ⟨b,0,none⟩) hh.toNat cap,?_,.gsl c I ⟨fM,fM⟩ G,λb=>by simp[cnt],by simp[own]⟩;simp only[bT,Instr.sliceAt,aI k,Instr.slice,key,DW y,aL,aD,bz];split<;>simp[addr_add]
  grind
 ·rename_i T0 i len;simp only at h;split at h;·rename_i f;obtain⟨B,d,H,q,J⟩:=f;obtain⟨e,k,y⟩:=Bt B;simp only[ah]at h;subst h;subst d;subst H;cases D with|trow c I p G=>rename_i b cap sz;have key:=JH (E:=E) (w:=w) (isSlice:=true) (len:=len) (cap:=cap) (kl:=kl) (kh:=kh) (km:=km) (lo:=none) (hi:=hi) (mx:=none) rfl rfl rfl fN (by grind) (by grind) fN fN;simp only[ck,bT,bG,eP]at key;generalize A:hi.getD (len:Int)=hh at *;refine⟨.slice (some ⟨b,0,none⟩) hh.toNat cap,?_,.trow c I ⟨fM,fM⟩ G,λb=>by simp[cnt],by simp[own]⟩;simp only[bT,Instr.sliceAt,aI k,Instr.slice,key,DW y,aL,aD,bz];split<;>simp[addr_add]
  grind
 ·rename_i i off;split at h
  ·rename_i len z g Z;obtain⟨e,k,y,_,_⟩:=Sn Z;simp only at h;split at h
   ·rename_i f;obtain⟨d,h0,q,J,h3⟩:=f;simp only[ah]at h;subst h;subst d;cases D with
    | ptr c=>
     rename_i b;have key:=JH (E:=E) (w:=w) (isSlice:=false) (len:=len) (cap:=len) (kl:=kl) (kh:=kh) (km:=km) (lo:=lo) (hi:=hi) (mx:=none) rfl rfl rfl h0 q (by grind) fN fN;simp only[ck,bT,bG]at key;generalize L:lo.getD 0=l at *;generalize A:hi.getD (len:Int)=hh at *;refine⟨.slice (some (if len=l.toNat then⟨b,off,none⟩else⟨b,off+l.toNat * z,none⟩)) (hh.toNat-l.toNat) (len-l.toNat),?_,?_,λb=>by simp[cnt],by simp[own]⟩;·simp only[bT,Instr.sliceAt,Instr.sureAddr,aI k,key,DW y,aL,aD,bz];split<;>simp[addr_add]
     ·split;·exact .bsl c (.inl fM) ⟨fM,fM⟩
      ·exact .bsl c (.inr rfl) ⟨fM,fM⟩
   grind
  grind
 grind
def Aba{t ty:TypeId}{ts:List TypeId}{x r:AVal}{v:Value} (c:Rep O x v) (h:TS E t x=some r): ∃u,(Builtin.len_ ⟨t::ts⟩ ty #[v]).run E.P w=.ok u w/\Rep O r u:=by
 unfold TS at h;split at h
 ·cases c with
  |str s m=>
   split at h;·rename_i b;simp only[ah]at h;subst h;have e:(s.data.toList.length:Int)=s.size:=fN;rw[e];exact⟨.int .i64 s.size,by simp[Builtin.len_,aI (CU b),goInt],.int _ _⟩
   grind
 ·rename_i wd xs o;split at h
  ·rename_i b;obtain⟨e,hu⟩: ∃e,E.P.underlying t=some (.slice e):=by unfold Ba at b;split at b<;>simp_all
   simp only[ah]at h;subst h;obtain⟨base,len,cap,rfl,hlen⟩: ∃base len cap,v=.slice base len cap/\xs.length=len:=by cases c with|snil=>simp|slice _ y j n z g=>simp_all
   rw[hlen];exact⟨.int .i64 len,by simp[Builtin.len_,aI hu,goInt],.int _ _⟩
  grind
 ·rename_i wd i off len;split at h
  ·rename_i b;obtain⟨e,hu⟩: ∃e,E.P.underlying t=some (.slice e):=by unfold Ba at b;split at b<;>simp_all
   simp only[ah]at h;subst h;cases c with|bsl f C d=>exact⟨.int .i64 len,by simp[Builtin.len_,aI hu,goInt],.int _ _⟩
  grind
 ·rename_i wd i len;split at h
  ·rename_i b;obtain⟨e,hu⟩: ∃e,E.P.underlying t=some (.slice e):=by unfold Ba at b;split at b<;>simp_all
   simp only[ah]at h;subst h;cases c with|gsl f A d p=>exact⟨.int .i64 len,by simp[Builtin.len_,aI hu,goInt],.int _ _⟩
  grind
 ·split at h
  ·rename_i b;obtain⟨e,hu⟩: ∃e,E.P.underlying t=some (.slice e):=by unfold Ba at b;split at b<;>simp_all
   simp only[ah]at h;subst h;cases c;exact⟨.int .i64 0,by simp[Builtin.len_,aI hu,goInt],.int _ _⟩
  grind
 ·rename_i D l o;split at h
  ·rename_i b;obtain⟨e,hu⟩: ∃e,E.P.underlying t=some (.slice e):=by unfold Ba at b;split at b<;>simp_all
   simp only[ah]at h;subst h;obtain⟨base,len,cap,rfl,hlen⟩: ∃base len cap,v=.slice base len cap/\l.length=len:=by
    cases c with
    |buf B c k=>
     have j:(u8s l).length=l.length:=by simp[u8s]
     generalize u8s l=xs at c j;cases c with|snil=>simp_all|slice _ y q n z g=>simp_all
   rw[hlen];exact⟨.int .i64 len,by simp[Builtin.len_,aI hu,goInt],.int _ _⟩
  grind
 grind
theorem RepL.map_rd{F:Nat->Nat}{st:St}{af:List AVal}{a:Act} (hs:Sim E F O st w af a.tmps.toList) (t:TypeId) (l:List Operand):RepL O (l.map (rd E af t)) (l.map a.eval):=by induction l with|nil=>exact .nil|cons x l b=>exact .cons (hs.rd t x) b
theorem Zd{O:At}: ∀ {xs:List AVal}{l:B8}{cs:List Value},bytesOf xs=some l->RepS O 1 xs cs->∃b:List Int,b.length=xs.length/\(∀j,j<b.length->cs[j]?=some (.int .u8 (b.getD j 0)))/\l=b.map Fg
 |[],l,cs,h,_=>by simp[bytesOf]at h;subst h;exact⟨[],rfl,fN,rfl⟩
 | x::xs,l,cs,h,hr=>by
  cases hr with
  |cons d p t=>
   rename_i v cs;unfold bytesOf at h;split at h;·grind
   ·rename_i n c e;cases e;cases d;cases hb:bytesOf xs with|none=>grind|some g=>simp[hb]at h;subst h;obtain⟨b,m,q,f⟩:=Zd hb t;refine⟨n::b,by grind,?_,by grind⟩;intro j i;have k:(Value.int IntKind.u8 n).cells.toList=[.int .u8 n]:=rfl;grind
   grind
def ZQ{P:Program}{t:TypeId} (h:u8T P t=true): ∃e,P.underlying t=some (.slice e)/\P.underlying e=some (.int .u8):=by grind[u8T]
def ATX{F:Nat->Nat}{st:St}{af:List AVal}{a:Act}{s d:TypeId}{o:Operand}{r:AVal} (hs:Sim E F O st w af a.tmps.toList) (h:UG E s d (rd E af s o)=some r): ∃u,(convert s d (a.eval o)).run E.P w=.ok u w/\Rep O r u:=by
 have f:=hs.rd s o;generalize rd E af s o=x at *;generalize a.eval o=v at *;unfold UG at h;split at h
 ·rename_i wd xs V;unfold strOf at h;split at h
  ·rename_i l g y;simp only[aw]at g;simp only[ah]at h;subst h;obtain⟨e,C,G⟩:=ZQ g.1;have z:=CU g.2;cases f with
   |snil _ _ m=>simp[bytesOf]at y;subst y;cases m with|some m=>have H:(loadCells m 0).run E.P w=.ok (([]:List Int).map (Value.int .u8)).toArray w:=dS (P:=E.P) w m [] (λj v X=>by grind);refine⟨.string ByteArray.empty,?_,Rep.str (O:=O) ByteArray.empty (aM _)⟩;rw[run_convert_bytes_string w s d e (some m) 0 0 C G z,run_bytesToString w m 0 0 [] H];rfl|none=>exact⟨_,run_convert_bytes_nil w s e C G 0 0 d z,Rep.str (O:=O) ByteArray.empty (aM _)⟩
   | slice _ hb' H hc hr hnn=>
    rename_i b off len cap cells;have R:=hr;have B:wd=1\/xs=[]:=by
     generalize cells.drop off=cs0 at hr;cases xs with
     |nil=>simp
     | cons x xs=>
      cases hr with
      |cons f S t=>
       unfold bytesOf at y;split at y;·grind
       ·rename_i n L I;cases I;cases f;exact .inl S.1.symm
       grind
    have A:RepS O 1 xs (cells.drop off):=by
     rcases B with rfl|rfl;·omega
     ·exact .nil _ _
    obtain⟨p,W,K,M⟩:=Zd y A;obtain⟨arr,I,fz,Z,⟨T,J⟩,_⟩:=hs.com_ok _ _ hb';have c: ∀i,i<len->w.cell? ⟨b,off+i,none⟩=some (.int .u8 (p.getD i 0)):=by
     intro i hi;have q:=K i fM;have U:cells[off+i]?=some (.int .u8 (p.getD i 0)):=by grind
     have Y:arr.toList[off+i]?=some (.int .u8 (p.getD i 0)):=by grind
     grind[World.cell?]
    have key:=d6 w s e C G b off len cap p fM c d z;refine⟨_,key,?_⟩;have D:(strOfNums p).data.toList=l:=by rw[fD,M];rfl
    rw[<-D];exact .str _ (by grind)
  grind
 ·rename_i k n;split at h;·rename_i g;simp only[aw]at g;simp only[ah]at h;subst h;cases f;refine⟨_,run_convert_int_string w s d k n (by grind[Ai]) (CU g.2),?_⟩;exact .str _ (by grind[Utf8.encode,Ca])
  ·exact ABh f h
 ·exact ABh f h
def AFA{F:Nat->Nat}{st:St}{af:List AVal}{a:Act}{o:Oper}{r:AVal} (hs:Sim E F O st w af a.tmps.toList) (h:D8 E o af=some r):∃v,(execOp a.eval o).run E.P w=.ok (.value v) w/\Rep O r v:=by
 unfold D8 at h;split at h
 ·rename_i c x y b;have B:=hs.rd 0 c;split at h
  ·rename_i t e;rw[e]at B;simp only[ah]at h;subst h;cases hc':a.eval c<;>rw[hc']at B<;>cases B;refine⟨if t then a.eval x else a.eval y,by simp_all[execOp,asBool],?_⟩;cases t;·exact hs.rd _ y
   ·exact hs.rd _ x
  grind
 ·rename_i x b;have g:=hs.rd 0 x;generalize m:a.eval x=v at g;unfold Oi at h;split at h;·rename_i e;rw[e]at g;simp only[ah]at h;subst h;refine⟨v,?_,g⟩;cases g;simp_all[execOp]
  ·rename_i e;rw[e]at g;simp only[ah]at h;subst h;refine⟨v,?_,g⟩;cases g;simp_all[execOp]
  ·rename_i e;rw[e]at g;simp only[ah]at h;subst h;refine⟨v,?_,g⟩;cases g;simp_all[execOp]
  grind
 ·rename_i H t x y u b;obtain⟨v,m,n⟩:=AbD (w:=w) (ox:=x) (oy:=y) (hs.rd t x) (hs.rd t y) h;refine⟨v,?_,n⟩;simp only[execOp,b];rw[aL,m];rfl
 ·rename_i H t x b;obtain⟨v,m,n⟩:=Ahd (w:=w) (E:=E) (hs.rd 0 x) h;simp_all[execOp]
 ·rename_i s d x b;obtain⟨v,m,n⟩:=ATX (w:=w) hs h;simp_all[execOp]
 ·rename_i f p q b;simp only[ah]at h;subst h;refine⟨.func f (p.map a.eval) (q.map a.eval),by simp[execOp,b,Instr.makeFunc],.fn ?_ ?_⟩<;>grind[execOp,Instr.makeFunc,Array.toList_map,RepL.map_rd]
 ·rename_i s x f b;obtain⟨v,m,n⟩:=AAp (w:=w) (hs.rd 0 x) h;simp_all[execOp]
 ·rename_i s x f b;obtain⟨v,m,n⟩:=AQr (w:=w) (hs.rd s x) h;simp_all[execOp]
 ·rename_i t x i b;obtain⟨v,m,n⟩:=AAy (w:=w) (hs.rd t x) (hs.rd 0 i) h;simp_all[execOp]
 ·rename_i t x i b;obtain⟨v,m,n⟩:=AIE (w:=w) (hs.rd t x) (hs.rd 0 i) h;simp_all[execOp]
 ·rename_i x t ts b;obtain⟨v,m,n⟩:=Aba (w:=w) (ty:=o.type) (ts:=ts) (hs.rd t x) h;simp_all[Array.map,execOp,resolve,invoke,builtin]
 ·rename_i x y ts b;have g:=hs.rd 0 x;have l:=hs.rd 0 y;unfold Ahq at h;split at h;·rename_i k p I q z A;rw[z]at g;rw[A]at l;simp only[ah]at h;subst h;cases j:a.eval x<;>rw[j]at g<;>cases g;cases hy':a.eval y<;>rw[hy']at l<;>cases l;refine⟨.int k (if q<p then q else p),?_,.int _ _⟩;have e:(Array.map a.eval #[x,y])= #[a.eval x,a.eval y]:=fN;simp[execOp,b,resolve,invoke,builtin,e,j,hy',run_min_int2]
  grind
 ·rename_i x y ts b;have g:=hs.rd 0 x;have l:=hs.rd 0 y;unfold Aii at h;split at h;·rename_i k p I q z A;rw[z]at g;rw[A]at l;simp only[ah]at h;subst h;cases j:a.eval x<;>rw[j]at g<;>cases g;cases hy':a.eval y<;>rw[hy']at l<;>cases l;refine⟨.int k (if q>p then q else p),?_,.int _ _⟩;have e:(Array.map a.eval #[x,y])= #[a.eval x,a.eval y]:=fN;simp[execOp,b,resolve,invoke,builtin,e,j,hy',run_max_int2]
  grind
 ·rename_i x t ts b;have g:=hs.rd t x;unfold ArL at h;split at h
  ·rename_i J z;rw[z]at g;split at h
   ·rename_i C;obtain⟨e,D⟩: ∃e,E.P.underlying t=some (.slice e):=by unfold Ba at C;split at C<;>simp_all
    simp only[ah]at h;subst h;cases j:a.eval x<;>rw[j]at g<;>cases g;refine⟨.int .i64 0,?_,.int _ _⟩;have e:(Array.map a.eval #[x])= #[a.eval x]:=fN;simp[execOp,b,resolve,invoke,builtin,e,j,Builtin.cap_,aI D,goInt]
   grind
  grind
 ·rename_i x y t s b;have g:=hs.rd t x;have l:=hs.rd s y;unfold AcM at h;split at h
  ·rename_i S i0 J z A;rw[z]at g;rw[A]at l;split at h
   ·rename_i C;obtain⟨e,D,K⟩:=Bt C;simp only[ah]at h;subst h;cases hy':a.eval y<;>rw[hy']at l<;>cases l;generalize j:a.eval x=vx at g;cases g with
    |trow R L B M=>
     have G:(E.P.info? e).map (·.size)=some 1:=by grind[BV]
     refine⟨.int .i64 0,?_,.int _ _⟩;have e:(Array.map a.eval #[x,y])= #[a.eval x,a.eval y]:=fN;simp only[execOp,b,resolve,invoke,builtin,e,j,hy',aL,bz,aD];rw[run_copy_none w t s o.type _ _ _ 0 _ 0 0 D G rfl];rfl
   grind
  grind
 grind
end
end Go.VM
namespace Go.VM
section
variable{E:Env}{F:Nat->Nat}{O:At}{st:St}{w:World}{af:List AVal}{a:Act}
theorem AAa{O':At}{w':World}{b:Nat}{p:Nat×List AVal} (d:O'.bx p.1=O.bx p.1) (e: ∀k,O.bx p.1=some k->w'.heap[k]?=w.heap[k]?) (c:O'.sx p.1=O.sx p.1:=by rfl):DR O' w' b p=DR O w b p:=by grind[DR,hcells]
def GD{O':At}{w':World}{b:Nat}{m:List (Nat×List AVal)} (h: ∀p,p∈m->O'.bx p.1=O.bx p.1/\∀k,O.bx p.1=some k->w'.heap[k]?=w.heap[k]?) (c: ∀p,p∈m->O'.sx p.1=O.sx p.1:=by intros;rfl):Aq O' w' b m=Aq O w b m:=by induction m with|nil=>rfl|cons p m e=>rw[Aq,Aq,AAa (h p fN).1 (h p fN).2 (c p fN),e (λq d=>h q (aY _ d)) (λq d=>c q (aY _ d))]
def Dd.keep{O':At}{w':World}{p:Nat×List AVal}{v:Value} (h:Dd O w p v) (le:O.le O') (c:O'.bx p.1=none) (k: ∀b,1<=AR b p.2 [v]->w'.heap[b]?=w.heap[b]?/\O'.com b=O.com b):Dd O' w' p v:=⟨le.2.2.2.2 _ _ h.sx,c,h.rep.mono le,Bz le _ _ h.own k⟩
theorem Dd.cnt{p:Nat×List AVal}{v:Value} (h:Dd O w p v) (b:Nat):DR O w b p=AR b p.2 [v]:=by simp only[DR,h.bx,h.sx]
def Yp{b:Nat}{p:Nat×List AVal}{m:List (Nat×List AVal)} (h:p∈m):DR O w b p<=Aq O w b m:=by
 induction m with
 |nil=>grind
 |cons q m c=>
  rw[Aq];rcases aO.1 h with rfl|h;·omega
  grind
def AId{b:Nat}{o:Obj} (h:w.heap[b]?=some o):b<w.heap.size:=by grind
def alloc_old (o:Obj){k:Nat} (h:k<w.heap.size):(w.alloc o).heap[k]?=w.heap[k]?:=by show(w.heap.push o)[k]?=_;grind
def OU (o:Obj):(w.alloc o).heap[w.heap.size]?=some o:=by show(w.heap.push o)[w.heap.size]?=_;simp
def At.box (O:At) (i b:Nat) (x:TypeId×Nat):At:= {O with bx:=λj=>if j=i then some b else O.bx j,bt:=λj=>if j=i then some x else O.bt j}
def At.arr (O:At) (b:Nat) (cs:List Value) (e:TypeId):At:= {O with com:=λk=>if k=b then some cs else O.com k,ct:=λk=>if k=b then some e else O.ct k}
def Sim.bx_none (hs:Sim E F O st w af a.tmps.toList):O.bx st.next=none:=by cases h:O.bx st.next with|none=>rfl|some b=>exact absurd (hs.bx_next _ _ h) fM
def Sim.com_lt{c:List Value} (hs:Sim E F O st w af c){b:Nat}{cs:List Value} (h:O.com b=some cs):b<w.heap.size:=by obtain⟨arr,e,fz,d,_⟩:=hs.com_ok b cs h;grind
def Sim.com_none{c:List Value} (hs:Sim E F O st w af c){b:Nat} (d:w.heap.size<=b):O.com b=none:=by cases h:O.com b with|none=>rfl|some cs=>have:=hs.com_lt h;omega
def Sim.key_lt{c:List Value} (hs:Sim E F O st w af c){p:Nat×List AVal} (hp:p∈st.m):p.1<st.next:=by
 rcases hs.box_ok p hp with⟨b,arr,e,h⟩|⟨v,h⟩;·exact hs.bx_next _ _ h.bx
 ·exact(hs.sx_next _ _ h.sx).1
def Sim.F_of{c:List Value} (hs:Sim E F O st w af c){b:Nat} (h:1<=F b):b<w.heap.size:=by
 rcases bf b w.heap.size with h'|h';·omega
 ·have:=hs.F_lt b h';omega
def Sim.le_box{c:List Value} (hs:Sim E F O st w af c) (x:TypeId×Nat):O.le (O.box st.next w.heap.size x):=by
 have e:O.bx st.next=none:=by cases h:O.bx st.next with|none=>rfl|some b=>exact absurd (hs.bx_next _ _ h) fM
 refine⟨λb cs h=>⟨[],by grind[At.box]⟩,λi b h=>?_,λi x h=>?_,λ_ _ h=>h,λ_ _ h=>h⟩
 ·simp only[At.box];rw[aj];·exact h
  grind
 ·simp only[At.box];rw[aj];·exact h
  ·intro hi;subst hi;obtain⟨b,d⟩:=hs.tyd.1 _ _ h;grind
def Sim.newBox (hs:Sim E F O st w af a.tmps.toList){cells:Array Value}{e:TypeId}{cs:List AVal}{fz:Nat×Nat} (s: ∀j,j<cells.size->¬(fz.1<=j/\j<fz.2)) (B:RepL (O.box st.next w.heap.size (e,cells.size)) cs (cells.toList.take cs.length)) (z:ownL O w cs cells.toList) (q: ∀v,v∈cells.toList.take cs.length->v.oneCell'=true) (J: ∀b,F b+AR b af a.tmps.toList+AR b cs cells.toList+Aq O w b st.m<=1):Sim E F (O.box st.next w.heap.size (e,cells.size)) {m:=(st.next,cs)::st.m,next:=st.next+1} (w.alloc (.cells cells e fz)) af a.tmps.toList/\Ext F O w (O.box st.next w.heap.size (e,cells.size)) (w.alloc (.cells cells e fz))/\Rep (O.box st.next w.heap.size (e,cells.size)) (.ptr st.next 0) (.pointer (some ⟨w.heap.size,0,none⟩)):=by
 have I:=hs.bx_none;have d:O.le (O.box st.next w.heap.size (e,cells.size)):=hs.le_box _;have keep: ∀b,b<w.heap.size->(w.alloc (.cells cells e fz)).heap[b]?=w.heap[b]?/\(O.box st.next w.heap.size (e,cells.size)).com b=O.com b:=λb c=>⟨alloc_old _ c,rfl⟩;have old: ∀p,p∈st.m->(O.box st.next w.heap.size (e,cells.size)).bx p.1=O.bx p.1/\∀k,O.bx p.1=some k->(w.alloc (.cells cells e fz)).heap[k]?=w.heap[k]?:=by intro p hp;have l:=hs.key_lt hp;exact⟨by simp only[At.box];grind,λk D=>alloc_old _ (hs.bx_lt _ _ D)⟩
 refine⟨?_,⟨d,λb c=>⟨alloc_old _ (hs.F_of c),rfl⟩,fN,rfl,rfl,rfl⟩,.ptr (by simp[At.box])⟩;refine {com_ok:=?_,box_ok:=?_,sx_next:=?_,keys:=?_,inj:=?_,bx_lt:=?_,bx_next:=?_,tyd:=?_,bx_F:=?_,F_lt:=?_,glob:=?_,rep:=hs.rep.mono d,own:=?_,tok:=?_};·intro b cs h;obtain⟨arr,r,fz,q,A⟩:=hs.com_ok b cs h;exact⟨arr,r,fz,by grind,A⟩
 ·intro p hp;rcases aO.1 hp with rfl|hp;·refine .inl ⟨w.heap.size,cells,e,by simp[At.box],⟨fz.1,fz.2,OU _,s⟩,B,?_,hs.com_none (av _),q,λT n h=>by grind[At.box]⟩;exact Bz d _ _ z λb c=>keep b (CG _ _ z c).1
  ·rcases hs.box_ok p hp with⟨b,arr,r,c⟩|⟨v,y⟩;rotate_left;·exact .inr ⟨v,y.keep d (by rw[(old p hp).1];exact y.bx) λb c=>keep b (CG _ _ y.own c).1⟩
   obtain⟨lo,hi,l,G⟩:=c.heap;have:=hs.bx_lt _ _ c.bx;refine .inl ⟨b,arr,r,by rw[(old p hp).1];exact c.bx,⟨lo,hi,by grind,G⟩,c.rep.mono d,?_,c.com,c.one,λT n h=>c.ty T n (by have l:=hs.key_lt hp;simp only[At.box]at h;rw[aj fM]at h;exact h)⟩;exact Bz d _ _ c.own λb t=>keep b (CG _ _ c.own t).1
 ·intro i v h;obtain⟨q,A⟩:=hs.sx_next i v h;refine⟨by grind,?_⟩;simp only[At.box];rw[aj fM];omega
 ·simp only[aH,bZ];refine⟨λC=>?_,hs.keys⟩;obtain⟨p,hp,e⟩:=bv.1 C;have l:=hs.key_lt hp;omega
 ·intro i j b hi f;simp only[At.box]at hi f;split at hi<;>split at f;·omega
  ·simp only[ah]at hi;subst hi;have:=hs.bx_lt _ _ f;omega
  ·simp only[ah]at f;subst f;have:=hs.bx_lt _ _ hi;omega
  ·exact hs.inj i j b hi f
 ·intro i b hi;simp only[At.box]at hi;simp only[ff];split at hi;·grind
  ·have:=hs.bx_lt _ _ hi;omega
 ·intro i b hi;simp only[At.box]at hi;split at hi;·grind
  ·have:=hs.bx_next _ _ hi;grind
 ·refine⟨λi x h=>?_,hs.tyd.2⟩;simp only[At.box]at h⊢;split;·simp
  ·rename_i hi;rw[aj hi]at h;exact hs.tyd.1 i x h
 ·intro p b hp c;simp only[At.box]at c;rcases aO.1 hp with rfl|hp;·simp only[az,ah]at c;subst c;exact hs.F_lt _ (av _)
  ·have l:=hs.key_lt hp;rw[aj fM]at c;exact hs.bx_F p b hp c
 ·intro b c;simp only[ff]at c;exact hs.F_lt b fM
 ·intro g cs h;exact(hs.glob g cs h).mono d
 ·exact Bz d _ _ hs.own λb c=>keep b (CG _ _ hs.own c).1
 ·intro b;rw[Aq,GD old];have H:DR (O.box st.next w.heap.size (e,cells.size)) (w.alloc (.cells cells e fz)) b (st.next,cs)=AR b cs cells.toList:=by simp only[DR,At.box,az,hcells,OU]
  grind
def Sim.newArr (hs:Sim E F O st w af a.tmps.toList){cells:Array Value}{e:TypeId}{pre spare:List Value}{fz:Nat×Nat} (r:cells.toList=pre++spare) (C: ∀v,v∈pre->v.oneCell'=true):Sim E F (O.arr w.heap.size pre e) st (w.alloc (.cells cells e fz)) af a.tmps.toList/\Ext F O w (O.arr w.heap.size pre e) (w.alloc (.cells cells e fz))/\(∀b,AR b af a.tmps.toList+Aq (O.arr w.heap.size pre e) (w.alloc (.cells cells e fz)) b st.m+F b+(if b=w.heap.size then 1 else 0)<=1):=by
 have J:=hs.com_none (av _);have d:O.le (O.arr w.heap.size pre e):=by
  refine⟨λb cs h=>⟨[],?_⟩,λi b h=>h,λi x h=>h,λb x h=>?_,λ_ _ h=>h⟩;·have:=hs.com_lt h;simp only[At.arr];rw[aj fM];grind
  ·obtain⟨cs,r⟩:=hs.tyd.2 _ _ h;have:=hs.com_lt r;simp only[At.arr];rw[aj fM];exact h
 have keep: ∀b,b<w.heap.size->(w.alloc (.cells cells e fz)).heap[b]?=w.heap[b]?/\(O.arr w.heap.size pre e).com b=O.com b:=λb c=>⟨alloc_old _ c,by simp only[At.arr];grind⟩;have old: ∀p,p∈st.m->(O.arr w.heap.size pre e).bx p.1=O.bx p.1/\∀k,O.bx p.1=some k->(w.alloc (.cells cells e fz)).heap[k]?=w.heap[k]?:=by intro p hp;exact⟨rfl,λk z=>alloc_old _ (hs.bx_lt _ _ z)⟩
 have j: ∀b,F b+AR b af a.tmps.toList+Aq (O.arr w.heap.size pre e) (w.alloc (.cells cells e fz)) b st.m<=1:=by intro b;rw[GD old];exact hs.tok b
 refine⟨?_,⟨d,λb c=>keep b (hs.F_of c),fN,rfl,rfl,rfl⟩,?_⟩
 ·refine {com_ok:=?_,box_ok:=?_,sx_next:=hs.sx_next,keys:=hs.keys,inj:=hs.inj,bx_lt:=?_,bx_next:=hs.bx_next,tyd:=?_,bx_F:=hs.bx_F,F_lt:=?_,glob:=?_,rep:=hs.rep.mono d,own:=?_,tok:=j}
  ·intro b cs h;simp only[At.arr]at h;split at h;·rename_i c;subst c;simp only[ah]at h;subst h;exact⟨cells,e,fz,OU _,⟨spare,r⟩,λT h=>by grind[At.arr]⟩
   ·rename_i D;obtain⟨arr,n,fz',C,B,l⟩:=hs.com_ok b cs h;exact⟨arr,n,fz',by grind,B,λT h=>l T (by simp_all[At.arr])⟩
  ·intro p hp;rcases hs.box_ok p hp with⟨b,arr,n,c⟩|⟨v,f⟩;rotate_left;·exact .inr ⟨v,f.keep d f.bx λb c=>keep b (CG _ _ f.own c).1⟩
   obtain⟨lo,hi,l,y⟩:=c.heap;have:=hs.bx_lt _ _ c.bx;refine .inl ⟨b,arr,n,c.bx,⟨lo,hi,by grind,y⟩,c.rep.mono d,?_,by rw[(keep b this).2];exact c.com,c.one,c.ty⟩;exact Bz d _ _ c.own λb s=>keep b (CG _ _ c.own s).1
  ·intro i b hi;have:=hs.bx_lt _ _ hi;grind
  ·refine⟨hs.tyd.1,λb x h=>?_⟩;simp only[At.arr]at h⊢;split;·simp
   ·rename_i hi;rw[aj hi]at h;exact hs.tyd.2 b x h
  ·intro b c;simp only[ff]at c;exact hs.F_lt b fM
  ·intro g cs h;exact(hs.glob g cs h).mono d
  ·exact Bz d _ _ hs.own λb c=>keep b (CG _ _ hs.own c).1
 ·intro b;split
  ·rename_i c;subst c;have K:F w.heap.size=0:=hs.F_lt _ (av _);have H:AR w.heap.size af a.tmps.toList=0:=by
    rcases bf 0 (AR w.heap.size af a.tmps.toList)with h|h;·have:=(CG _ _ hs.own h).1;omega
    omega
   have I:Aq (O.arr w.heap.size pre e) (w.alloc (.cells cells e fz)) w.heap.size st.m=0:=by
    rw[GD old];have: ∀m,(∀p,p∈m->p∈st.m)->Aq O w w.heap.size m=0:=by
     intro m;induction m with
     |nil=>intro _;rfl
     | cons p m ih=>
      intro t;rw[Aq,ih (λq A=>t q (aY _ A))];rcases hs.box_ok p (t p fN)with⟨b,arr,n,c⟩|⟨v,f⟩;rotate_left
      ·rw[f.cnt];rcases bf 0 (AR w.heap.size p.2 [v])with h|h;·have:=(CG _ _ f.own h).1;omega
       omega
      obtain⟨lo,hi,l,y⟩:=c.heap;have G:DR O w w.heap.size p=AR w.heap.size p.2 arr.toList:=by simp[DR,c.bx,hcells,l]
      rcases bf 0 (AR w.heap.size p.2 arr.toList)with h|h;·have:=(CG _ _ c.own h).1;omega
      omega
    grind
   omega
  grind
def Ch:AVal->Bool|.iter _ _=>false|.any=>false|.tuple _=>false|.map _ _=>false|.slop _ _=>false|.vec _ _=>false|.hset _=>false|_=>true
def Rep.slice_one{w:Nat}{xs:List AVal}{o:Bool}{v:Value} (h:Rep O (.slice w xs o) v):v.oneCell'=true:=by cases h<;>rfl
def Rep.one{x:AVal}{v:Value} (h:Rep O x v) (f:Ch x=true): ∀c,c∈v.cells.toList->c.oneCell'=true:=by cases h<;>first|(simp[Ch]at f;done)|assumption|(rename_i d e;rw[d.slice_cells];intro c b;simp only[aO,dB,eM]at b;subst b;exact d.slice_one)|(rename_i d e;rw[e.1];intro c b;simp only[aO,dB,eM]at b;subst b;exact e.2)|(intro c b;simp only[Value.cells,aO,dB,eM]at b;subst b;rfl)
def Rep.cellsOK{x:AVal}{v:Value} (h:Rep O x v) (d:Ch x=true):RepL O (Aa x) v.cells.toList:=by cases h<;>first|(simp[Ch]at d;done)|assumption|(rename_i c b;rw[c.slice_cells];exact .cons (.buf _ c b) .nil)|(rename_i c b;rw[b.1];exact .cons (.sh c b) .nil)|exact .cons (by constructor<;>assumption) .nil
def Wd{x:AVal}{v:Value} (h:Rep O x v) (e:Ch x=true) (b:own O w x v):ownL O w (Aa x) v.cells.toList:=by cases h<;>first|(simp[Ch]at e;done)|exact b|(rename_i c d;rw[c.slice_cells];exact⟨b,by simp[ownL]⟩)|(rename_i c d;rw[d.1];simp[Aa,ownL,VM.own])|exact⟨b,by simp[ownL]⟩
theorem WN{x:AVal}{v:Value} (h:Rep O x v) (e:Ch x=true) (b:Nat):AR b (Aa x) v.cells.toList=cnt b x v:=by
 have key: ∀(y:AVal) (u:Value),AR b [y] [u]=cnt b y u:=λy u=>by simp[AR]
 cases h<;>first|(simp[Ch]at e;done)|exact key _ _|(rename_i c d;rw[c.slice_cells];exact key _ _)|(rename_i c d;rw[d.1];exact key _ _)|simp[cnt,Aa,Value.cells]
mutual def FV:AVal->Value->Bool|.bool a,.bool b=>a==b|.int k n,.int k' m=>decide (k=k')&&n==m|.str s,.string b=>s==b.data.toList&&decide (s.length<=Ca)|.nilp,.pointer none=>true|.slice _ [] true,.slice none 0 0=>true|.nilFn,.nilFunc=>true|.nilIface,.nilIface=>true|.nmap,.map none=>true|.agg cs,.agg arr=>Gp cs arr.toList|_,_=>false def Gp:List AVal->List Value->Bool|[],[]=>true|x::xs,v::vs=>FV x v&&v.oneCell'&&Gp xs vs|_,_=>false end
structure DP (O:At) (w:World) (x:AVal) (v:Value):Prop where
  rep:Rep O x v
  own:own O w x v
  cnt: ∀b,cnt b x v=0
  ok:Ch x=true
mutual theorem KM (O:At) (w:World):(x:AVal)->(v:Value)->FV x v=true->DP O w x v
 |x,v,h=>by
  unfold FV at h;split at h;·simp at h;subst h;exact⟨.bool _,by simp[own],λb=>by simp[cnt],rfl⟩
  ·simp at h;obtain⟨rfl,rfl⟩:=h;exact⟨.int _ _,by simp[own],λb=>by simp[cnt],rfl⟩
  ·rename_i s b;simp at h;obtain⟨rfl,hn⟩:=h;exact⟨.str _ fM,by simp[own],λb=>by simp[cnt],rfl⟩
  ·exact⟨.nilp,by simp[own],λb=>by simp[cnt],rfl⟩
  ·exact⟨.snil _ _ none,by simp[own,Lx],λb=>by simp[cnt,Lt],rfl⟩
  ·exact⟨.nilFn,by simp[own],λb=>by simp[cnt],rfl⟩
  ·exact⟨.nilIface,by simp[own],λb=>by simp[cnt],rfl⟩
  ·exact⟨.nmap,by simp[own],λb=>by simp[cnt],rfl⟩
  ·rename_i cs arr;obtain⟨h1,h2,h3,h4⟩:=U1 O w cs arr.toList h;exact⟨.agg h1 h2,by grind[own],λb=>by grind[cnt],rfl⟩
  grind theorem U1 (O:At) (w:World):(xs:List AVal)->(vs:List Value)->Gp xs vs=true->RepL O xs vs/\(∀v,v∈vs->v.oneCell'=true)/\ownL O w xs vs/\∀b,AR b xs vs=0|[],[],_=>⟨.nil,fN,by simp[ownL],λb=>by simp[AR]⟩|[],_::_,h=>by grind[Gp]|_::_,[],h=>by grind[Gp]|x::xs,v::vs,h=>by simp only[Gp,aw]at h;obtain⟨h1,h2,h3,h4⟩:=U1 O w xs vs h.2;have h0:=KM O w x v h.1.1;refine⟨.cons h0.rep h1,?_,by rw[ownL];exact⟨h0.own,h3⟩,λb=>by rw[AR,h0.cnt b,h4 b]⟩;simp_all end
def AqA (P:Program):Nat->TypeId->AVal|0,_=>.any|d+1,t=>match P.underlying t with|some .bool=>.bool false|some (.int k)=>.int k 0|some .string=>.str []|some (.pointer _)=>.nilp|some (.map _ _)=>.nmap|some (.slice e)=>.slice ((BV P e).getD 0) [] true|some (.struct fs)=>.agg (fs.toList.flatMap λf=>Aa (AqA P d f.type))|some (.array n e)=>.agg (List.replicate n (Aa (AqA P d e))).flatten|some (.func _ _ _)=>.nilFn|some (.interface _)=>.nilIface|_=>.any
def Cr (P:Program) (t:TypeId):Option AVal:=match P.info? t with
 |some i=>match i.zero with|some v=>let z:=AqA P 20 t;if FV z v then some z else none|none=>none
 |none=>none
theorem Mc{P:Program}{t:TypeId}{z:AVal} (h:Cr P t=some z): ∃i v,P.info? t=some i/\i.zero=some v/\FV z v=true:=by grind[Cr]
theorem Sr{t:TypeId}{z:AVal} (h:Cr E.P t=some z): ∃v,(zeroValue t).run E.P w=.ok v w/\DP O w z v:=by
 unfold Cr at h;split at h
 ·rename_i i hi;split at h
  ·rename_i v c;simp only at h;split at h;·rename_i b;simp only[ah]at h;subst h;exact⟨v,by simp_all[zeroValue,typeInfo],KM O w _ v b⟩
   grind
  grind
 grind
structure AM (E:Env) (F:Nat->Nat) (O:At) (st:St) (w:World) (a:Act) (o:Oper) (af':List AVal) (st':St) (nx:Next) (w':World) (a':Act) (O':At):Prop where
  run:(execOp a.eval o).run E.P w=.ok nx w'
  upon: ∀K Q,K a' w'->o.upon E.P a K Q (.ok nx w')
  defers:a'.defers=a.defers
  ext:Ext F O w O' w'
  next:st.next<=st'.next
  sim:Sim E F O' st' w' af' a'.tmps.toList
theorem put_defers (a:Act) (b:Option Tmp) (v:Value):(a.put b v).defers=a.defers:=by cases b<;>rfl
def A1v (P:Program):Nat->TypeId->Option TypeId
  |0,_=>none
  | d+1,t=>
    match P.underlying t with
    | some (.struct fs)=>
      match fs.toList with
      |[f]=>A1v P d f.type
      | [f,g]=>
        match P.underlying f.type,P.underlying g.type with
        |some (.pointer _),some (.slice e)=>some e
        |_,_=>none
      |_=>none
    |_=>none
def Ci (P:Program) (t:TypeId) (n:Nat):Option (List AVal):=match Cr P t with
 |some z=>match A1v P 3 t,z with|some e,.agg [.nilp,.slice 1 [] true]=>some [.nself n t 2,.buf e [] true]|_,z=>some (Aa z)
 |none=>none
def Xj (P:Program) (t:TypeId) (n:Nat):Option (List AVal):=match Ci P t n with|some [.nself i T k,.buf e [] true]=>some [.nself i T k,.nbuf e]|_=>none
theorem AVr (hs:Sim E F O st w af a.tmps.toList){o:Oper}{x:AVal}{v:Value}{t:TypeId}{c:List AVal} (f:Sim E F O st w c a.tmps.toList) (g:Rep O x v) (r:own O w x v) (h:Ch x=true) (y: ∀b,F b+AR b c a.tmps.toList+cnt b x v+Aq O w b st.m<=1) (d:(execOp a.eval o).run E.P w=.ok (.value (.pointer (some ⟨w.heap.size,0,none⟩))) (w.alloc (.cells v.cells t))):∃p w' q O',AM E F O st w a o (Ae c o.dst (.ptr st.next 0)) {m:=(st.next,Aa x)::st.m,next:=st.next+1} p w' q O':=by have k:=g.cellsOK h;have i:v.cells.toList.take (Aa x).length=v.cells.toList:=bc (by rw[k.length];omega);obtain⟨j,s,l⟩:=f.newBox (e:=t) (cells:=v.cells) (cs:=Aa x) (fz:=(0,0)) fN (by rw[i];exact k.mono (f.le_box _)) (Wd g h r) (by rw[i];exact g.one h) (λb=>by grind[WN]);refine⟨_,_,_,_,d,λK Q n=>n,put_defers _ _ _,s,fN,?_⟩;refine j.put o.dst l (by simp[own]) λb=>?_;have:=j.tok b;grind[cnt]
theorem Aal (hs:Sim E F O st w af a.tmps.toList){o:Oper}{t:TypeId}{cs:List AVal} (C:o.op=.alloc t) (g:Ci E.P t st.next=some cs):∃H w' B O',AM E F O st w a o (Ae af o.dst (.ptr st.next 0)) {m:=(st.next,cs)::st.m,next:=st.next+1} H w' B O':=by
 unfold Ci at g;split at g
 ·rename_i z h;obtain⟨v,L,k⟩:=Sr (O:=O) (w:=w) h;have f:(execOp a.eval o).run E.P w=.ok (.value (.pointer (some ⟨w.heap.size,0,none⟩))) (w.alloc (.cells v.cells t)):=by simp_all[execOp,Instr.alloc,newVar,newRow]
  split at g
  ·rename_i e I;cases g;obtain⟨n,hv',d⟩: ∃n,v=n/\FV (.agg [.nilp,.slice 1 [] true]) n=true:=by obtain⟨i,v1,A,D,J⟩:=Mc h;have:=L;simp[zeroValue,typeInfo,A,D]at this;exact⟨v,rfl,by rw[<-this];exact J⟩
   subst hv';have c:v.cells.toList=[.pointer none,.slice none 0 0]:=by
    cases v<;>simp[FV]at d;rename_i arr;obtain⟨l⟩:=arr;simp only[Value.cells];match l,d with
    |[],d=>grind[Gp]
    |[_],d=>grind[Gp]
    |[p,q],d=>
     simp[Gp]at d;obtain⟨⟨j,_⟩,⟨y,_⟩⟩:=d;have M:p=.pointer none:=by unfold FV at j;split at j<;>simp_all
     have R:q=.slice none 0 0:=by unfold FV at y;split at y<;>simp_all
     grind
    |_::_::_::_,d=>grind[Gp]
   have r:v.cells.size=2:=by grind[Array.length_toList]
   obtain⟨s,d,j⟩:=hs.newBox (e:=t) (cells:=v.cells) (cs:=[.nself st.next t 2,.buf e [] true]) (fz:=(0,0)) fN (by rw[c,r];refine .cons (.nself (by simp[At.box])) (.cons (.buf _ (.snil _ _ _) ⟨rfl,rfl⟩) .nil)) (by rw[c];simp only[ownL,VM.own,Lx,dW,cG];intro b I;grind[CP]) (by rw[c];intro u x;simp at x;rcases x with rfl|rfl<;>rfl) (λb=>by rw[c];have:=hs.tok b;grind[AR,cnt,CP]);refine⟨_,_,_,_,f,λK Q G=>G,put_defers _ _ _,d,fN,?_⟩;refine s.put o.dst j (by simp[own]) λb=>?_;have:=s.tok b;grind[cnt]
  ·cases g;exact AVr hs hs k.rep k.own k.ok (λb=>by rw[k.cnt b];have:=hs.tok b;omega) (t:=t) f
 grind
theorem ATW{i k:Nat}{T e:TypeId}{z:AVal}{v:Value} (h:FV z v=true) (b:Aa z=[.nself i T k,.buf e [] true]):False:=by cases z<;>simp[Aa]at b;subst b;cases v<;>simp[FV]at h;rename_i arr;obtain⟨l⟩:=arr;cases l<;>simp[Gp,FV]at h
theorem AWW (hs:Sim E F O st w af a.tmps.toList){o:Oper}{t:TypeId}{cs:List AVal} (D:o.op=.alloc t) (k:Xj E.P t st.next=some cs):∃I w' B O',AM E F O st w a o (Ae af o.dst (.ptr st.next 0)) {m:=(st.next,cs)::st.m,next:=st.next+1} I w' B O':=by
 unfold Xj at k;split at k;rotate_left;·grind
 rename_i W M R C j;simp only[ah]at k;subst k;unfold Ci at j;split at j
 ·rename_i z g;obtain⟨v,L,T⟩:=Sr (O:=O) (w:=w) g;have f:(execOp a.eval o).run E.P w=.ok (.value (.pointer (some ⟨w.heap.size,0,none⟩))) (w.alloc (.cells v.cells t)):=by simp_all[execOp,Instr.alloc,newVar,newRow]
  split at j
  ·rename_i e U;cases j;obtain⟨n,hv',d⟩: ∃n,v=n/\FV (.agg [.nilp,.slice 1 [] true]) n=true:=by obtain⟨i,v1,A,G,J⟩:=Mc g;have:=L;simp[zeroValue,typeInfo,A,G]at this;exact⟨v,rfl,by rw[<-this];exact J⟩
   subst hv';have c:v.cells.toList=[.pointer none,.slice none 0 0]:=by
    cases v<;>simp[FV]at d;rename_i arr;obtain⟨l⟩:=arr;simp only[Value.cells];match l,d with
    |[],d=>grind[Gp]
    |[_],d=>grind[Gp]
    |[p,q],d=>
     simp[Gp]at d;obtain⟨⟨h,_⟩,⟨y,_⟩⟩:=d;have S:p=.pointer none:=by unfold FV at h;split at h<;>simp_all
     have V:q=.slice none 0 0:=by unfold FV at y;split at y<;>simp_all
     grind
    |_::_::_::_,d=>grind[Gp]
   have r:v.cells.size=2:=by grind[Array.length_toList]
   obtain⟨s,d,h⟩:=hs.newBox (e:=t) (cells:=v.cells) (cs:=[.nself st.next t 2,.nbuf C]) (fz:=(0,0)) fN (by rw[c,r];refine .cons (.nself (by simp[At.box])) (.cons (.nbuf _) .nil)) (by grind[ownL,VM.own]) (by rw[c];intro u x;simp at x;rcases x with rfl|rfl<;>rfl) (λb=>by rw[c];have:=hs.tok b;grind[AR,cnt]);refine⟨_,_,_,_,f,λK Q H=>H,put_defers _ _ _,d,fN,?_⟩;refine s.put o.dst h (by simp[own]) λb=>?_;have:=s.tok b;grind[cnt]
  grind[Option.some.injEq,Mc,ATW]
 grind
theorem AbV (hs:Sim E F O st w af a.tmps.toList){o:Oper}{t:TypeId}{x:Operand} (c:o.op=.box t x) (e:Ch (rd E af t x)=true):∃f w' d O',AM E F O st w a o (Ae (stripAt af x) o.dst (.ptr st.next 0)) {m:=(st.next,Aa (rd E af t x))::st.m,next:=st.next+1} f w' d O':=by
 refine AVr hs (hs.stripAt x) (hs.rd t x) (hs.rd_own t x) e (λb=>?_) (t:=t) ?_;·have:=hs.rd_cnt t x b;have:=hs.tok b;omega
 simp_all[execOp,Instr.box,newVar,newRow]
theorem Wo (hs:Sim E F O st w af a.tmps.toList){o:Oper}{r:AVal} (h:D8 E o af=some r):∃f w' c O',AM E F O st w a o (Ae af o.dst r.strip) st f w' c O':=by obtain⟨v,e,d⟩:=AFA hs h;exact⟨_,_,_,O,e,λK Q b=>b,put_defers _ _ _,Ext.refl _ _ _,av _,hs.putStrip o.dst d⟩
theorem AAj (hs:Sim E F O st w af a.tmps.toList){o:Oper}{x:Operand} (c:o.op=.move x\/o.op=.assign x):∃f w' e O',AM E F O st w a o (Ae (stripAt af x) o.dst (rd E af o.type x)) st f w' e O':=by
 refine⟨.value (a.eval x),w,a.put o.dst (a.eval x),O,?_,λK Q d=>d,put_defers _ _ _,Ext.refl _ _ _,av _,?_⟩;·rcases c with h|h<;>simp[execOp,h]
 ·refine(hs.stripAt x).put o.dst (hs.rd o.type x) (hs.rd_own o.type x) λb=>?_;have:=hs.rd_cnt o.type x b;have:=hs.tok b;omega
theorem AbK (hs:Sim E F O st w af a.tmps.toList){o:Oper}{t:TypeId}{x:Operand}{lo hi mx:Option Operand}{l h m:Option Int}{r:AVal} (c:o.op=.slice t x lo hi mx) (f:rdo E af lo=some l) (g:rdo E af hi=some h) (p:rdo E af mx=some m) (i:GZ E t (rd E af t x) l h m=some r):∃j w' n O',AM E F O st w a o (Ae af o.dst r) st j w' n O':=by
 obtain⟨kl,z⟩:=Rf hs f;obtain⟨kh,v⟩:=Rf hs g;obtain⟨km,s⟩:=Rf hs p;obtain⟨u,y,q,d,k⟩:=AMO (w:=w) (kl:=kl) (kh:=kh) (km:=km) (hs.rd t x) i;refine⟨.value u,w,a.put o.dst u,O,?_,λK Q e=>e,put_defers _ _ _,Ext.refl _ _ _,av _,?_⟩;·simp_all[execOp]
 ·refine hs.put o.dst q k λb=>?_;rw[d b];have:=hs.tok b;omega
end
end Go.VM
namespace Go.VM
def Yc{m:List (Nat×List AVal)}{i:Nat}{x:List AVal} (b:(m.map (·.1)).Nodup){p:Nat×List AVal} (h:p∈A9 m i x):(p=(i,x)/\∃c,(i,c)∈m)\/(p∈m/\p.1≠i):=by
 induction m with
 |nil=>grind[A9]
 | cons q m ih=>
  obtain⟨j,c⟩:=q;simp only[aH,bZ]at b;simp only[A9]at h;split at h
  ·rename_i e;subst e;rcases aO.1 h with rfl|h;·simp
   grind
  ·rename_i e;rcases aO.1 h with rfl|h;·grind
   grind
def JQ {O O':At}{w w':World}{b:Nat}{m:List (Nat×List AVal)}{i:Nat}{cs x:List AVal} (d:(m.map (·.1)).Nodup) (g:Aj m i=some cs) (h: ∀p,p∈m->p.1≠i->DR O' w' b p=DR O w b p):Aq O' w' b (A9 m i x)+DR O w b (i,cs)=Aq O w b m+DR O' w' b (i,x):=by
 induction m with
 |nil=>grind[Aj]
 | cons q m ih=>
  obtain⟨j,c⟩:=q;simp only[aH,bZ]at d;simp only[Aj]at g;simp only[A9];split at g
  ·rename_i e;subst e;simp only[ah]at g;subst g;rw[an rfl];simp only[Aq];have:Aq O' w' b m=Aq O w b m:=by
    have k: ∀p,p∈m->p.1≠i:=λp hp e=>d.1 (bv.2 ⟨p,hp,e⟩);clear ih;induction m with
    |nil=>rfl
    | cons p m ih2=>
     rw[Aq,Aq,h p fN (k p fN),ih2 ?_ ?_ ?_]
     ·intro q f;rcases aO.1 f with rfl|f;·exact h _ fN
      ·exact h q (aY _ (aY _ f))
     ·simp only[aH,aO,fL,bZ]at d;exact⟨d.1.2,d.2.2⟩
     ·exact λq f=>k q (aY _ f)
   omega
  ·rename_i e;rw[aj e];grind[Aq]
def Ri (m:List (Nat×List AVal)) (i:Nat) (x y:List AVal):A9 (A9 m i x) i y=A9 m i y:=by induction m<;>grind[A9]
def JC{m:List (Nat×List AVal)}{i:Nat}{c x:List AVal} (h:Aj m i=some c):Aj (A9 m i x) i=some x:=by induction m with|nil=>grind[Aj]|cons p m b=>obtain⟨j,d⟩:=p;simp only[Aj]at h;simp only[A9];split<;>simp_all[Aj]
def AGJ{m:List (Nat×List AVal)}{i:Nat}{c:List AVal} (h:Aj m i=some c):A9 m i c=m:=by induction m with|nil=>rfl|cons p m b=>obtain⟨j,d⟩:=p;simp only[Aj]at h;simp only[A9];split<;>simp_all
def putCells (cs:List AVal) (off:Nat):List AVal->List AVal|[]=>cs|c::r=>putCells (cs.set off c) (off+1) r
section
variable{E:Env}{F:Nat->Nat}{O:At}{st:St}{w:World}{af:List AVal}{a:Act}
theorem _root_.List.getElem?_take_some{α:Type}{l:List α}{n i:Nat}{x:α} (h:(l.take n)[i]?=some x):l[i]?=some x:=by grind
def DE.le{i:Nat}{cs:List AVal}{b:Nat}{arr:Array Value}{e:TypeId} (h:DE O w (i,cs) b arr e):cs.length<=arr.size:=by have:=h.rep.length;grind
theorem Sim.box{d:List Value} (hs:Sim E F O st w af d){i:Nat}{cs:List AVal}{f:Nat} (h:Aj st.m i=some cs) (c:O.bx i=some f): ∃b arr e,DE O w (i,cs) b arr e:=by
 rcases hs.box_ok _ (Mt h)with h|⟨v,hv⟩;·exact h
 ·have:=hv.bx;grind
def Ub (w:World) (b off:Nat) (v:Value){arr:Array Value}{e:TypeId}{fz:Nat×Nat} (h:w.heap[b]?=some (.cells arr e fz)):(w.setCell ⟨b,off,none⟩ v).heap[b]?=some (.cells (arr.setIfInBounds off v) e fz):=by grind[World.setCell]
theorem J6 (w:World) (b off k:Nat) (v:Value) (h:k≠b):(w.setCell ⟨b,off,none⟩ v).heap[k]?=w.heap[k]?:=by simp only[World.setCell,d7];rw[aj (λe=>h e.symm)]
def Sim.setBox (hs:Sim E F O st w af a.tmps.toList){i b:Nat}{cs cs':List AVal}{arr arr':Array Value}{e:TypeId}{lo hi:Nat}{w':World} (P:Aj st.m i=some cs) (l:DE O w (i,cs) b arr e) (R:w'.heap[b]?=some (.cells arr' e (lo,hi))) (hf: ∀j,j<arr'.size->¬(lo<=j/\j<hi)) (A: ∀k,k≠b->w'.heap[k]?=w.heap[k]?) (L:w'.heap.size=w.heap.size) (Y:w'.os=w.os) (D:w'.output=w.output) (B:w'.tape=w.tape) (W:RepL O cs' (arr'.toList.take cs'.length)) (q:ownL O w cs' arr'.toList) (Z: ∀v,v∈arr'.toList.take cs'.length->v.oneCell'=true) (ht: ∀n,F n+AR n af a.tmps.toList+AR n cs' arr'.toList+Aq O w n st.m<=1+AR n cs arr.toList) (H:arr'.size=arr.size:=by simp):Sim E F O {st with m:=A9 st.m i cs'} w' af a.tmps.toList/\Ext F O w O w':=by
 have K: ∀n t,O.com n=some t->n≠b:=λn t h e=>by subst e;rw[l.com]at h;cases h
 have keep: ∀n,Held O w n->w'.heap[n]?=w.heap[n]?/\O.com n=O.com n:=λn h=>⟨A n (by obtain⟨C,I,z,_⟩:=l.heap;rcases h with⟨c,h⟩|⟨s,p,h⟩|⟨s,p,h⟩<;>grind),rfl⟩;have hFb:F b=0:=hs.bx_F (i,cs) b (Mt P) l.bx;obtain⟨C,I,z,_⟩:=l.heap;have r: ∀p,p∈st.m->p.1≠i->∀k,O.bx p.1=some k->k≠b:=λp hp g k y e=>by rw[e]at y;exact g (hs.inj _ _ _ y l.bx)
 refine⟨?_,⟨O.le_refl,λn f=>⟨A n (λe=>by grind),rfl⟩,fM,Y,D,B⟩⟩;refine {com_ok:=?_,box_ok:=?_,sx_next:=hs.sx_next,keys:=?_,inj:=hs.inj,bx_lt:=?_,bx_next:=hs.bx_next,tyd:=hs.tyd,bx_F:=?_,F_lt:=?_,glob:=hs.glob,rep:=hs.rep,own:=?_,tok:=?_};·intro n c h;obtain⟨ar,M,fz,S,U⟩:=hs.com_ok n c h;grind
 ·intro p hp;rcases Yc hs.keys hp with⟨rfl,_⟩|⟨hp,g⟩;·exact .inl ⟨b,arr',e,l.bx,⟨lo,hi,R,hf⟩,W,Bz O.le_refl _ _ q λn f=>keep n (CG _ _ q f).2,l.com,Z,λT n h=>by rw[H];exact l.ty T n h⟩
  ·rcases hs.box_ok p hp with⟨k,ar,M,d⟩|⟨v,J⟩;rotate_left;·exact .inr ⟨v,J.keep O.le_refl J.bx λn f=>keep n (CG _ _ J.own f).2⟩
   obtain⟨V,S,U,h4⟩:=d.heap;exact .inl ⟨k,ar,M,d.bx,⟨V,S,by rw[A k (r p hp g k d.bx)];omega,h4⟩,d.rep,Bz O.le_refl _ _ d.own λn f=>keep n (CG _ _ d.own f).2,d.com,d.one,d.ty⟩
 ·rw[AG2];exact hs.keys
 ·intro j n h;rw[L];exact hs.bx_lt j n h
 ·intro p n hp f;rcases Yc hs.keys hp with⟨rfl,c,X⟩|⟨hp,g⟩;·exact hs.bx_F (i,c) n X f
  ·exact hs.bx_F p n hp f
 ·intro n f;rw[L]at f;exact hs.F_lt n f
 ·exact Bz O.le_refl _ _ hs.own λn f=>keep n (CG _ _ hs.own f).2
 ·intro n;have e1:=JQ (O:=O) (O':=O) (w:=w) (w':=w') (b:=n) (x:=cs') hs.keys P (λp hp g=>AAa rfl λk G=>A k (r p hp g k G));have e2:DR O w n (i,cs)=AR n cs arr.toList:=by simp only[DR,l.bx,hcells,z]
  have e3:DR O w' n (i,cs')=AR n cs' arr'.toList:=by simp only[DR,l.bx,hcells,R]
  grind
def Sim.setSh{g:List Value} (hs:Sim E F O st w af g){i:Nat}{cs cs':List AVal}{v:Value} (j:Aj st.m i=some cs) (f:Dd O w (i,cs) v) (k:RepL O cs' [v]) (d:ownL O w cs' [v]) (t: ∀n,F n+AR n af g+AR n cs' [v]+Aq O w n st.m<=1+AR n cs [v]):Sim E F O {st with m:=A9 st.m i cs'} w af g:=by
 refine {hs with box_ok:=?_,keys:=?_,bx_F:=?_,tok:=?_}
 ·intro p hp;rcases Yc hs.keys hp with⟨rfl,_⟩|⟨hp,e⟩;·exact .inr ⟨v,f.sx,f.bx,k,d⟩
  ·exact hs.box_ok p hp
 ·rw[AG2];exact hs.keys
 ·intro p n hp h;rcases Yc hs.keys hp with⟨rfl,c,l⟩|⟨hp,e⟩;·exact hs.bx_F (i,c) n l h
  ·exact hs.bx_F p n hp h
 ·intro n;have s:=JQ (O:=O) (O':=O) (w:=w) (w':=w) (b:=n) (x:=cs') hs.keys j (λp hp e=>rfl);have q:DR O w n (i,cs)=AR n cs [v]:=f.cnt n;have r:DR O w n (i,cs')=AR n cs' [v]:=by simp only[DR,f.bx,f.sx]
  grind
def ARg{cells:List AVal}: ∀ {vs:List Value}{k off:Nat}{st:St}{w:World}{cs:List AVal}{i b base:Nat},Sim E F O st w af a.tmps.toList->RepL O cells vs->ownL O w cells vs->(∀v,v∈vs->v.oneCell'=true)->Aj st.m i=some cs->O.bx i=some b->base+k=off->off+cells.length<=cs.length->(∀n,F n+AR n af a.tmps.toList+AR n cells vs+Aq O w n st.m<=1)->∃w',(storeCells ⟨b,base,none⟩ vs k).run E.P w=.ok () w'/\Sim E F O {st with m:=A9 st.m i (putCells cs off cells)} w' af a.tmps.toList/\Ext F O w O w':=by
 induction cells with
 |nil=>intro vs k off st w cs i b base hs t y K s j Y I ht;cases t;refine⟨w,by simp[storeCells],?_,Ext.refl _ _ _⟩;rw[putCells,AGJ s];omega
 | cons c cells ih=>
  intro vs k off st w cs i b base hs t y K s j Y I ht;cases t with
  | cons hc t=>
   rename_i v vs;rw[ownL]at y;obtain⟨d,arr,e,g⟩:=hs.box s j;have:d=b:=by have:=g.bx;grind
   subst this;obtain⟨lo,hi,M,hf⟩:=g.heap;have L:cs.length<=arr.size:=g.le;simp only[ae]at I;have J:off<arr.size:=fM;have B:w.cell? ⟨d,off,none⟩=some arr[off]:=by grind[World.cell?]
   have Z:w.frozen? ⟨d,off,none⟩=false:=by simp_all[World.frozen?]
   have S:(store ⟨d,off,none⟩ v).run E.P w=.ok () (w.setCell ⟨d,off,none⟩ v):=by grind[run_store]
   have f:(arr.setIfInBounds off v).toList=arr.toList.set off v:=fN;obtain⟨V,X⟩:=hs.setBox (w':=w.setCell ⟨d,off,none⟩ v) (cs':=cs.set off c) (arr':=arr.setIfInBounds off v) (lo:=lo) (hi:=hi) s g (Ub w d off v M) (by grind) (λk z=>J6 w d off k v z) fN rfl rfl rfl (by rw[f,b9,List.take_set];exact g.rep.set off hc) (by rw[f];exact g.own.set off y.1) (by
    rw[f,b9,List.take_set];intro u G;rcases eW G with h|h;·exact g.one u h
    grind) (λn=>by grind[Ii,AR]);have q:ownL O (w.setCell ⟨d,off,none⟩ v) cells vs:=Bz O.le_refl _ _ y.2 λn W=>by
    rcases (CG _ _ y.2 W).2 with⟨c0,l⟩|⟨U,T,l⟩|⟨U,T,l⟩;·exact⟨J6 w d off n v (λe=>by subst e;rw[g.com]at l;grind),rfl⟩
    ·exact⟨J6 w d off n v (λe=>by grind),rfl⟩
    ·exact⟨J6 w d off n v (λe=>by grind),rfl⟩
   have C: ∀n,F n+AR n af a.tmps.toList+AR n cells vs+Aq O (w.setCell ⟨d,off,none⟩ v) n (A9 st.m i (cs.set off c))<=1:=by
    intro n;have A: ∀p,p∈st.m->p.1≠i->∀k,O.bx p.1=some k->k≠d:=λp hp r k z e=>by rw[e]at z;exact r (hs.inj _ _ _ z g.bx)
    have e1:=JQ (O:=O) (O':=O) (w:=w) (w':=w.setCell ⟨d,off,none⟩ v) (b:=n) (x:=cs.set off c) hs.keys s (λp hp r=>AAa rfl λk D=>J6 w d off k v (A p hp r k D));have e2:DR O w n (i,cs)=AR n cs arr.toList:=by grind[DR,hcells]
    have e3:DR O (w.setCell ⟨d,off,none⟩ v) n (i,cs.set off c)=AR n (cs.set off c) (arr.toList.set off v):=by simp only[DR,g.bx,hcells,Ub w d off v M,f]
    grind[Ii,AR]
   obtain⟨w',r2,H,R⟩:=ih (k:=k+1) (off:=off+1) (base:=base) V t q (λu G=>K u (aY _ G)) (JC s) j fM (by grind) C;refine⟨w',?_,?_,X.trans R⟩;·grind[storeCells,addr_add,Sem.run_bind,Result.andThen_ok]
   ·simp only[Ri]at H;exact H
def YR (st:St) (x:AVal):Option (Nat×Nat×List AVal):=match x with
 |.sh i=>match Aj st.m i with|some [.slop w xs]=>some (i,w,xs)|_=>none
 |.sptr i w n=>match Aj st.m i with|some [.slop w' xs]=>if w'=w/\xs.length=n then some (i,w,xs)else none|_=>none
 |_=>none
def NB:AVal->Bool|.sh _=>true|_=>false
def ACv (E:Env) (t:TypeId) (b v:AVal) (st:St):Option St:=match b,YR st b with|.sptr _ _ _,some (i,w,xs)=>if Ch v=true/\BV E.P t=some w/\(Aa v).length=w then some {st with m:=A9 st.m i [.slice w (xs++[v.strip]) true]}else none|_,_=>none
def AAu (E:Env) (t:TypeId) (b v:AVal) (st:St):Option St:=match b with
 |.ptr i off=>match Aj st.m i with|some cs=>if Ch v=true/\BV E.P t=some (Aa v).length/\off+(Aa v).length<=cs.length then some {st with m:=A9 st.m i (putCells cs off (Aa v))}else none|none=>none
 |_=>none
def ADu (E:Env) (t:TypeId) (b v:AVal) (st:St):Option St:=match b with
 |.vptr i w n k=>match Aj st.m i with|some [.vec w' xs]=>if w'=w/\k=0/\n<xs.length/\Ch v=true/\BV E.P t=some w/\(Aa v).length=w then some {st with m:=A9 st.m i [.vec w (xs.set n v.strip)]}else none|_=>none
 |_=>none
def ADT (E:Env) (t:TypeId) (b v:AVal) (st:St):Option St:=match b with
 |.vptr i w n k=>match Aj st.m i with|some [.vec w' xs]=>if w'=w/\n<xs.length/\Ch v=true/\Ch (xs.getD n .any)=true/\(Aa (xs.getD n .any)).length=w/\BV E.P t=some (Aa v).length/\k+(Aa v).length<=w then some {st with m:=A9 st.m i [.vec w (xs.set n (.agg (putCells (Aa (xs.getD n .any)) k (stripL (Aa v)))))]}else none|_=>none
 |_=>none
def AAd (E:Env) (t:TypeId) (b v:AVal) (st:St):Option St:=match ADu E t b v st with|some s=>some s|none=>ADT E t b v st
def TZ (E:Env) (t:TypeId) (b v:AVal) (st:St):Option St:=match b with|.ptr i off=>AAu E t (.ptr i off) v st|.vptr i w n k=>AAd E t (.vptr i w n k) v st|b=>ACv E t b v st
def QA (E:Env) (t:TypeId) (b v:AVal) (st:St):Option St:=match v with
 |.sh i=>match Aj st.m i with|some [.slice w xs o]=>if NB b=false then TZ E t b (.slice w xs o) {st with m:=A9 st.m i [.slice w xs false]}else none|_=>TZ E t b (.sh i) st
 |v=>TZ E t b v st
theorem ASt (hs:Sim E F O st w af a.tmps.toList){o:Oper}{t:TypeId}{x y:Operand}{e:St} (f:o.op=.store t x y) (hd:o.dst=none) (h:AAu E t (rd E af 0 x) (rd E af t y) st=some e):∃C w' m O',AM E F O st w a o (stripAt af y) e C w' m O'/\m.tmps=a.tmps:=by
 have l:=hs.rd 0 x;generalize rd E af 0 x=ax at *;generalize A:a.eval x=vx at l;unfold AAu at h;split at h
 ·rename_i i off;cases l with
  |ptr g=>
   rename_i b;split at h
   ·rename_i cs v;split at h
    ·rename_i D;obtain⟨c,p,B⟩:=D;simp only[ah]at h;subst h;have d:=hs.rd t y;have G:=hs.rd_own t y;have j:(a.eval y).cells.size=(Aa (rd E af t y)).length:=by rw[(d.cellsOK c).length,aE]
     obtain⟨w',q,r,s⟩:=ARg (cells:=Aa (rd E af t y)) (k:=0) (base:=off) (hs.stripAt y) (d.cellsOK c) (Wd d c G) (d.one c) v g fN B (λn=>by rw[WN d c];have:=hs.rd_cnt t y n;have:=hs.tok n;omega);refine⟨.skip,w',a.put o.dst undef,O,⟨?_,λK Q z=>z,put_defers _ _ _,s,av _,?_⟩,by rw[hd];rfl⟩;·simp only[execOp,f,A,Instr.storeAt,Instr.sureAddr];simp[storeVar,DW p,j,q]
     ·rw[hd];exact r
    grind
   grind
 grind
def RepS.elem{w:Nat}: ∀ {xs:List AVal}{cs:List Value}{n:Nat},RepS O w xs cs->n<xs.length->∃v,Rep O (xs.getD n .any) v/\v.cells.size=w/\(∀c,c∈v.cells.toList->c.oneCell'=true)/\∀j u,v.cells.toList[j]?=some u->cs[n * w+j]?=some u
 |[],_,_,_,hn=>absurd hn (cr _)
 | x::xs,_,n,.cons (v:=v) (cs:=cs) h hw t,hn=>by
  cases n with
  |zero=>refine⟨v,h,hw.1,hw.2,λj u b=>?_⟩;rw[eH,bJ,eX (dG.1 b).1];exact b
  |succ n=>
   obtain⟨u,g,i,f,e⟩:=RepS.elem (n:=n) t (by simpa using hn);refine⟨u,g,i,f,λj y b=>?_⟩;have d:v.cells.toList.length=w:=by rw[aE];exact hw.1
   rw[dx (by rw[d,bH];omega),d,show(n+1) * w+j-w=n * w+j by rw[bH];omega];exact e j y b
def ADF{f:List Value} (hs:Sim E F O st w af f){i:Nat}{cs:List AVal}{v:Value} (c:O.sx i=some v) (g:Aj st.m i=some cs):Dd O w (i,cs) v:=by
 rcases hs.box_ok _ (Mt g)with⟨b,arr,e,hb⟩|⟨u,hv⟩;·have:=(hs.sx_next _ _ c).2;have d:=hb.bx;rw[this]at d;cases d
 ·have:u=v:=by have:=hv.sx;rw[c]at this;exact(cE this).symm
  subst this;exact hv
def AIw{l:List Value} (hs:Sim E F O st w af l){i wd b off len cap:Nat}{xs:List AVal} (c:O.sx i=some (.slice (some ⟨b,off,none⟩) len cap)) (k:Aj st.m i=some [.vec wd xs]):len=xs.length/\∃arr e lo hi,w.heap[b]?=some (.cells arr e (lo,hi))/\(∀j,j<arr.size->¬(lo<=j/\j<hi))/\O.com b=some []/\xs.length<=cap/\xs.length<=Ca/\off+cap * wd<=arr.size/\RepS O wd xs (arr.toList.drop off):=by
 have g:=(ADF hs c k).own;simp only[ownL,VM.own,cG]at g;rcases g with⟨_,h⟩|⟨p,d,f,arr,e,lo,hi,h,n⟩;·cases h
 ·cases h;exact⟨rfl,arr,e,lo,hi,n⟩
def UT (st:St):AVal->Option (List AVal)
 |.ptr i off=>(Aj st.m i).map (·.drop off)
 |.cptr cs=>some cs
 |.vptr i w n k=>match Aj st.m i with|some [.vec w' xs]=>if w'=w/\n<xs.length/\Ch (xs.getD n .any)=true then some ((Aa (xs.getD n .any)).drop k)else none|_=>none
 |_=>none
def Tm (E:Env) (t:TypeId) (b:AVal) (st:St):Option AVal:=match UT st b,BV E.P t with|some cs,some z=>if Ai E.P t then Xe cs 0 z (BI E.P t)else none|_,_=>none
def AoF{t:TypeId}{cs:List AVal}{vs:List Value}{b off z:Nat}{r:AVal} (g:RepL O cs vs) (s: ∀v,v∈vs->v.oneCell'=true) (i: ∀j v,vs[j]?=some v->w.cell? ⟨b,off+j,none⟩=some v) (n:Ai E.P t=true) (m:BV E.P t=some z) (h:Xe cs 0 z (BI E.P t)=some r): ∃u,(Instr.loadAt t (.pointer (some ⟨b,off,none⟩))).run E.P w=.ok u w/\Rep O r u:=by
 have f:=Rs (w:=w) n;unfold Xe at h;split at h
 ·rename_i e;rw[e]at f;split at h
  ·rename_i q;simp only[ah]at h;subst h;have c:(vs.take z).length=z:=by rw[bb,<-g.length];omega
   have key:=dS (P:=E.P) w ⟨b,off,none⟩ (vs.take z) (λj v d=>by
    rw[addr_add];apply i;rw[di]at d;split at d;·exact d
    ·cases d);rw[c]at key;refine⟨.agg (vs.take z).toArray,?_,.agg ?_ ?_⟩;·simp[Instr.loadAt,Instr.sureAddr,loadVar,f,DW m,key]
   ·simp only[aN];exact g.take z
   grind
  grind
 ·rename_i e;rw[fd]at e;rw[e]at f;obtain⟨v,p,k⟩:=g.get? h;have l:=i 0 v p;simp_all[Instr.loadAt,Instr.sureAddr,loadVar]
def AEU (hs:Sim E F O st w af a.tmps.toList){x:AVal}{v:Value}{cs:List AVal} (r:Rep O x v) (h:UT st x=some cs):∃b off vs,v=.pointer (some ⟨b,off,none⟩)/\RepL O cs vs/\(∀v,v∈vs->v.oneCell'=true)/\∀j u,vs[j]?=some u->w.cell? ⟨b,off+j,none⟩=some u:=by
 unfold UT at h;split at h
 ·rename_i i off;cases r with
  |ptr p=>
   rename_i b;cases g:Aj st.m i with
   |none=>grind
   |some c=>
    simp only[g,aP,ah]at h;subst h;obtain⟨D,arr,e,d⟩:=hs.box g p;have:D=b:=by have:=d.bx;grind
    subst this;obtain⟨lo,hi,K,S⟩:=d.heap;refine⟨D,off,(arr.toList.take c.length).drop off,rfl,d.rep.drop off,λv A=>d.one v (cy A),λj u f=>?_⟩;grind[World.cell?]
 ·simp only[ah]at h;subst h;cases r with
  |cptr d hd H s=>
   rename_i b off cells vs rest;obtain⟨arr,e,fz,K,⟨P,G⟩,_⟩:=hs.com_ok _ _ d;refine⟨b,off,vs,rfl,H,s,λj u f=>?_⟩;have C:cells[off+j]?=some u:=by rw[<-bV,hd,eX (dG.1 f).1];omega
   have z:arr.toList[off+j]?=some u:=by grind
   grind[World.cell?]
 ·rename_i i w' n k;split at h
  ·rename_i l xs g;split at h;·rename_i I;obtain⟨rfl,J,q⟩:=I;simp only[ah]at h;subst h;cases r with|vptr t=>rename_i b off len cap;obtain⟨_,arr,e,lo,hi,C,_,_,_,_,_,M⟩:=AIw hs t g;obtain⟨u,L,R,s,f⟩:=M.elem J;refine⟨b,off+(n * l+k),u.cells.toList.drop k,rfl,(L.cellsOK q).drop k,λv A=>s v (cy A),λj y B=>?_⟩;rw[bV]at B;have z:=f _ _ B;rw[bV]at z;simp only[World.cell?,C];rw[show off+(n * l+k)+j=off+(n * l+(k+j)) by omega];simpa using z
   ·cases h
  ·cases h
 ·cases h
theorem AjA (hs:Sim E F O st w af a.tmps.toList){o:Oper}{t:TypeId}{x:Operand}{r:AVal} (g:o.op=.load t x) (h:Tm E t (rd E af 0 x) st=some r):∃j w' k O',AM E F O st w a o (Ae af o.dst r.strip) st j w' k O':=by
 unfold Tm at h;split at h
 ·rename_i cs z l f;split at h;·rename_i e;obtain⟨b,off,vs,p,i,m,c⟩:=AEU hs (hs.rd 0 x) l;obtain⟨u,n,d⟩:=AoF i m c e f h;exact⟨.value u,w,_,O,by simp_all[execOp],λK Q e=>e,put_defers _ _ _,Ext.refl _ _ _,av _,hs.putStrip o.dst d⟩
  grind
 grind
def Tc (E:Env) (t:TypeId) (b:AVal) (st:St):Option (AVal×St):=
  match b with
  | .ptr i off=>
    match Aj st.m i with
    | some cs=>
      if Ai E.P t=true/\BI E.P t=false then
        match cs[off]? with
        |some r=>some (r,{st with m:=A9 st.m i (cs.set off r.strip)})
        |none=>none
      else if Ai E.P t=true/\BI E.P t=true/\off=0/\BV E.P t=some cs.length then some (.agg cs,{st with m:=A9 st.m i (stripL cs)})
      else none
    |none=>none
  |_=>none
theorem AUH (hs:Sim E F O st w af a.tmps.toList){o:Oper}{t:TypeId}{x:Operand}{r:AVal}{l:St} (L:o.op=.load t x) (h:Tc E t (rd E af 0 x) st=some (r,l)):∃nx w' a' O',AM E F O st w a o (Ae af o.dst r) l nx w' a' O':=by
 have X:=hs.rd 0 x;generalize rd E af 0 x=ax at *;generalize hv:a.eval x=vx at X;unfold Tc at h;split at h
 ·rename_i i off;cases X with
  |ptr k=>
   rename_i b;split at h
   ·rename_i cs g;split at h
    ·rename_i D;split at h
     ·rename_i f G;simp only[ah,aB]at h;obtain⟨rfl,rfl⟩:=h;obtain⟨y,arr,e,c⟩:=hs.box g k;have:y=b:=by have:=c.bx;grind
      subst this;obtain⟨lo,hi,U,T⟩:=c.heap;obtain⟨u,H,z⟩:=c.rep.get? G;have hu:=List.getElem?_take_some H;have A:cs.getD off .any=f:=by grind
      have I:(arr.toList.take cs.length).getD off undef=u:=by grind
      have m:VM.own O w f u:=by have:=((Oe O w cs arr.toList).2 c.own).get c.rep.length off undef;grind
      have d:=λn=>Ni n cs (arr.toList.take cs.length) off undef c.rep.length;simp only[A,I]at d;have ct: ∀n (xs:List AVal),xs.length=cs.length->AR n xs (arr.toList.take cs.length)=AR n xs arr.toList:=λn xs e=>by grind[Od]
      have d: ∀n,AR n (cs.set off f.strip) arr.toList+cnt n f u=AR n cs arr.toList:=λn=>by simp_all
      have J:=c.rep.setStrip off;have B:=c.own.setStrip off;rw[A]at J B;obtain⟨M,R⟩:=hs.setBox (w':=w) (cs':=cs.set off f.strip) (arr':=arr) (lo:=lo) (hi:=hi) g c U T (λ_ _=>rfl) rfl rfl rfl rfl (by grind) B (by rw[b9];exact c.one) (λn=>by have:=d n;have:=hs.tok n;omega);have S:w.cell? ⟨y,off,none⟩=some u:=by grind[World.cell?]
      have C:=Rs (w:=w) D.1;rw[D.2]at C;refine⟨.value u,w,a.put o.dst u,O,?_,λK Q s=>s,put_defers _ _ _,R,av _,?_⟩;·simp_all[execOp,Instr.loadAt,Instr.sureAddr,loadVar]
      ·refine M.put o.dst z m λn=>?_;have e1:=JQ (O:=O) (O':=O) (w:=w) (w':=w) (b:=n) (x:=cs.set off f.strip) hs.keys g (λp hp W=>rfl);have Y:DR O w n (i,cs)=AR n cs arr.toList:=by grind[DR,hcells]
       have Z:DR O w n (i,cs.set off f.strip)=AR n (cs.set off f.strip) arr.toList:=by grind[DR,hcells]
       have:=d n;have:=hs.tok n;grind
     grind
    ·split at h
     ·rename_i D;obtain⟨s,V,rfl,hz⟩:=D;simp only[ah,aB]at h;obtain⟨rfl,rfl⟩:=h;obtain⟨y,arr,e,c⟩:=hs.box g k;have:y=b:=by have:=c.bx;grind
      subst this;obtain⟨lo,hi,U,T⟩:=c.heap;have q:(arr.toList.take cs.length).length=cs.length:=c.rep.length.symm;have key:=dS (P:=E.P) w ⟨y,0,none⟩ (arr.toList.take cs.length) (λj v hj=>by grind[addr_add,World.cell?,List.getElem?_take_some]);rw[q]at key;have C:=Rs (w:=w) s;rw[V]at C;obtain⟨M,R⟩:=hs.setBox (w':=w) (cs':=stripL cs) (arr':=arr) (lo:=lo) (hi:=hi) g c U T (λ_ _=>rfl) rfl rfl rfl rfl (by rw[Np];exact c.rep.strip) (K3 _ _ _ _) (by rw[Np];exact c.one) (λn=>by rw[JK];have:=hs.tok n;omega);refine⟨.value (.agg (arr.toList.take cs.length).toArray),w,a.put o.dst (.agg (arr.toList.take cs.length).toArray),O,?_,λK Q s=>s,put_defers _ _ _,R,av _,?_⟩;·simp[execOp,L,hv,Instr.loadAt,Instr.sureAddr,loadVar,C,DW hz,key]
      ·have ho:=(Oe O w cs arr.toList).2 c.own;refine M.put o.dst (.agg c.rep c.one) (by grind[own]) λn=>?_;have e1:=JQ (O:=O) (O':=O) (w:=w) (w':=w) (b:=n) (x:=stripL cs) hs.keys g (λp hp W=>rfl);have Y:DR O w n (i,cs)=AR n cs arr.toList:=by grind[DR,hcells]
       have Z:DR O w n (i,stripL cs)=AR n (stripL cs) arr.toList:=by grind[DR,hcells]
       have e4:cnt n (.agg cs) (.agg (arr.toList.take cs.length).toArray)=AR n cs arr.toList:=by grind[cnt,Od]
       have:=hs.tok n;grind[JK]
     grind
   grind
 grind
def AP6 (hs:Sim E F O st w af a.tmps.toList){o:Oper}{t n:Nat}{vs:List AVal}{r:AVal} (x:o.op=.extract (.tmp t) n) (C:rd E af 0 (.tmp t)=.tuple vs) (y:vs[n]?=some r):∃A w' s O',AM E F O st w a o (Ae (af.set t (.tuple (vs.set n r.strip))) o.dst r) st A w' s O':=by
 have e:=hs.rd 0 (.tmp t);have m:=hs.rd_own 0 (.tmp t);have d:=λb=>hs.rd_cnt 0 (.tmp t) b;rw[C]at e m d;generalize B:a.eval (.tmp t)=v at *;cases e with
 | tuple e=>
  rename_i arr;simp only[VM.own]at m;simp only[cnt]at d;obtain⟨u,G,j⟩:=e.get? y;have k:vs.getD n .any=r:=by grind
  have p:arr.toList.getD n undef=u:=by grind
  have i:VM.own O w r u:=by have:=m.get e.length n undef;grind
  have f:=λb=>Ni b vs arr.toList n undef e.length;simp only[k,p]at f;have h:=e.setStrip n;have q:=m.setStrip n;rw[k]at h q;have g:=(hs.stripAt (.tmp t)).put (some t) (r:=.tuple (vs.set n r.strip)) (v:=.tuple arr) (.tuple h) (by grind[VM.own]) (λb=>by simp only[cnt];have:=f b;have:=d b;have:=hs.tok b;omega);have c:(a.put (some t) (.tuple arr)).tmps.toList=a.tmps.toList:=by rw[Xo];simp only[Act.eval,Array.getD_toList']at B;apply ce;grind
  have l:Ae (stripAt af (.tmp t)) (some t) (.tuple (vs.set n r.strip))=af.set t (.tuple (vs.set n r.strip)):=by simp[Ae,VM.stripAt]
  rw[c,l]at g;refine⟨.value u,w,a.put o.dst u,O,?_,λK Q z=>z,put_defers _ _ _,Ext.refl _ _ _,av _,?_⟩;·simp_all[execOp,Instr.extract]
  ·refine g.put o.dst j i λb=>?_;have D:AR b (af.set t (.tuple (vs.set n r.strip))) a.tmps.toList<=AR b (VM.stripAt af (.tmp t)) a.tmps.toList+AR b (vs.set n r.strip) arr.toList:=by have:=Ii b (VM.stripAt af (.tmp t)) a.tmps.toList t (.tuple (vs.set n r.strip)) (.tuple arr);rw[<-Xo,c]at this;simp_all[VM.stripAt,set,cnt]
   have:=f b;have:=d b;have:=hs.tok b;omega
end
end Go.VM
namespace Go.VM
def KZ (P:Program) (t:TypeId):Option (Nat×Nat):=
  match P.underlying t with
  | some (.slice e)=>
    match P.info? e with
    | some i=>
      match i.zero with
      |some z=>if z.cells.size=i.size then some (i.size,i.bytes)else none
      |none=>none
    |none=>none
  |_=>none
def M5{P:Program}{t:TypeId}{n b:Nat} (h:KZ P t=some (n,b)): ∃e i z,P.underlying t=some (.slice e)/\P.info? e=some i/\i.zero=some z/\z.cells.size=n/\i.size=n/\i.bytes=b:=by grind[KZ]
def RX (wd:Nat):AVal->Option (List AVal)|.slice w' ys _=>if w'=wd then some ys else none|.str l=>if wd=1 then some (l.map λb=>.int .u8 b.toNat)else none|_=>none
def PL (E:Env) (c b:TypeId) (s y:AVal):Option AVal:=match s with
 |.slice wd xs true=>match KZ E.P c,RX wd y with|some (z,by_),some ys=>if z=wd/\I4 E.P b=none/\Ai E.P b=true/\(xs.length+ys.length) * by_<=140737488355328/\xs.length+ys.length<=Ca then some (.slice wd (xs++ys) true)else none|_,_=>none
 |_=>none
def ACc (P:Program) (t e:TypeId):Bool:=match P.underlying t with|some (.slice e')=>e'==e|_=>false
def Jr (E:Env) (b c:TypeId) (s y:AVal):Option AVal:=match s,y with|.buf e l true,.str m=>if ACc E.P b e=true/\(PL E b c (.slice 1 (u8s l) true) (.str m)).isSome=true then some (.buf e (l++m) true)else none|s,y=>PL E b c s y
def RepS.takeCells{O:At}{w:Nat}{xs:List AVal}{cs:List Value} (h:RepS O w xs cs):RepS O w xs (cs.take (xs.length * w)):=by
 induction xs generalizing cs with
 |nil=>exact .nil _ _
 | cons x xs ih=>
  cases h with
  |cons h b t=>
   rename_i v cs;have e:(v.cells.toList++cs).take ((x::xs).length * w)=v.cells.toList++cs.take (xs.length * w):=by grind[Array.length_toList,List.length_cons,Nat.succ_mul,Nat.add_comm,List.take_append,List.take_of_length_le,Nat.add_sub_cancel_left]
   rw[e];exact .cons h b (ih t)
def RepS.takeOne{O:At}{w:Nat}{xs:List AVal}{cs:List Value} (h:RepS O w xs cs): ∀c,c∈cs.take (xs.length * w)->c.oneCell'=true:=by
 induction xs generalizing cs with
 |nil=>simp
 | cons x xs ih=>
  cases h with
  |cons h d t=>
   rename_i v cs;intro c b;have e:v.cells.toList.length=w:=by rw[aE,d.1]
   rw[ae,bH,eG,List.take_append,bc fM,e,dU]at b;rcases aZ.1 b with b|b;·exact d.2 c b
   ·exact ih t c b
def RepS.append{O:At}{w:Nat}{xs ys:List AVal}{cs b:List Value} (h:RepS O w xs cs) (e:cs.length=xs.length * w) (k:RepS O w ys b):RepS O w (xs++ys) (cs++b):=by induction xs generalizing cs with|nil=>simp_all|cons x xs d=>cases h with|cons h c t=>rename_i v cs;rw[aJ];refine .cons h c (d t ?_);grind
section
variable{E:Env}{F:Nat->Nat}{O:At}{st:St}{w:World}{af:List AVal}{a:Act}
structure Src (E:Env) (O:At) (w:World) (wd:Nat) (ys:List AVal) (v:Value) (news:List Value):Prop where
  len: ∀w',(Builtin.lenOf v).run E.P w'=.ok ys.length w'
  first: ∀w',(∀b o,w'.cell? ⟨b,o,none⟩=w.cell? ⟨b,o,none⟩)->(Builtin.firstCells wd ys.length v).run E.P w'=.ok news.toArray w'
  rep:RepS O wd ys news
  size:news.length=ys.length * wd
  one: ∀c,c∈news->c.oneCell'=true
def Am5 (hs:Sim E F O st w af a.tmps.toList){b i:Nat}{cs:List Value}{v:Value} (h:O.com b=some cs) (j:cs[i]?=some v):w.cell? ⟨b,i,none⟩=some v:=by
 obtain⟨arr,e,fz,d,⟨f,c⟩,_⟩:=hs.com_ok _ _ h;have g:arr.toList[i]?=some v:=by grind
 grind[World.cell?]
def WY (hs:Sim E F O st w af a.tmps.toList){wd:Nat}{ys:List AVal}{o:Bool}{v:Value} (h:Rep O (.slice wd ys o) v): ∃news,Src E O w wd ys v news:=by
 cases h with
 |snil _ _ f=>refine⟨[],λw'=>by simp[Builtin.lenOf],λw' _=>?_,.nil _ _,fN,fN⟩;cases f with|none=>simp[Builtin.firstCells]|some f=>grind[run_firstCells_some]
 |slice _ k g m e i=>
  rename_i b off len cap cells;have c:((cells.drop off).take (ys.length * wd)).length=ys.length * wd:=by rw[bb];have:=e.len;omega
  refine⟨(cells.drop off).take (ys.length * wd),λw'=>by simp[Builtin.lenOf,g],λw' l=>?_,e.takeCells,c,e.takeOne⟩;refine dK (P:=E.P) w' wd ys.length ⟨b,off,none⟩ len cap _ c λj u d=>?_;rw[addr_add,l];refine Am5 hs k ?_;rw[di]at d;split at d;·rw[bV]at d;exact d
  ·cases d
def AdA{wd:Nat}{s:ByteArray} (d:wd=1):Src E O w wd (s.data.toList.map λb=>.int .u8 b.toNat) (.string s) (s.data.toList.map λb=>.int .u8 b.toNat):=by
 subst d;have c:s.data.toList.length=s.size:=fN;refine⟨λw'=>by simp_all[Builtin.lenOf],λw' _=>?_,?_,fN,by simp[Value.oneCell']⟩;·simp only[Builtin.firstCells,cq,c,bz];congr 1;apply Array.ext';simp
 ·generalize s.data.toList=l;induction l with|nil=>exact .nil _ _|cons b l e=>exact .cons (v:=.int .u8 b.toNat) (.int _ _) ⟨rfl,by simp[Value.cells,Value.oneCell']⟩ e
def UQ (hs:Sim E F O st w af a.tmps.toList){wd:Nat}{y:AVal}{ys:List AVal}{v:Value} (b:Rep O y v) (h:RX wd y=some ys): ∃news,Src E O w wd ys v news:=by
 unfold RX at h;split at h
 ·split at h;·rename_i e;subst e;simp only[ah]at h;subst h;exact WY hs b
  grind
 ·split at h;·rename_i e;simp only[ah]at h;subst h;cases b;exact⟨_,AdA e⟩
  grind
 grind
def putV (l:List Value) (off:Nat):List Value->List Value|[]=>l|v::r=>putV (l.set off v) (off+1) r
theorem Kb (cells b news:List Value) (h:news.length<=b.length):putV (cells++b) cells.length news=cells++news++b.drop news.length:=by
 induction news generalizing cells b with
 |nil=>simp[putV]
 | cons v news ih=>
  cases b with
  |nil=>grind
  |cons d b=>
   simp only[putV];have e:(cells++d::b).set cells.length v=(cells++[v])++b:=by simp
   rw[e];have:=ih (cells++[v]) b (by grind);simp_all
def EB{P:Program}{b base:Nat}{e:TypeId}{lo hi:Nat}: ∀(vs:List Value) (k:Nat) (arr:Array Value) (w:World),w.heap[b]?=some (.cells arr e (lo,hi))->(∀j,j<arr.size->¬(lo<=j/\j<hi))->base+k+vs.length<=arr.size->(∀v,v∈vs->v.oneCell'=true)->∃w' arr',(storeCells ⟨b,base,none⟩ vs k).run P w=.ok () w'/\w'.heap[b]?=some (.cells arr' e (lo,hi))/\arr'.toList=putV arr.toList (base+k) vs/\arr'.size=arr.size/\(∀n,n≠b->w'.heap[n]?=w.heap[n]?)/\w'.heap.size=w.heap.size/\w'.os=w.os/\w'.output=w.output/\w'.tape=w.tape:=by
 intro vs;induction vs with
 |nil=>intro k arr w d x f h;exact⟨w,arr,by simp[storeCells],d,rfl,rfl,λ_ _=>rfl,rfl,rfl,rfl,rfl⟩
 |cons v vs q=>
  intro k arr w d x f h;simp only[ae]at f;have g:base+k<arr.size:=fM;have c:w.cell? ⟨b,base+k,none⟩=some arr[base+k]:=by grind[World.cell?]
  have z:w.frozen? ⟨b,base+k,none⟩=false:=by simp_all[World.frozen?]
  have m:(store ⟨b,base+k,none⟩ v).run P w=.ok () (w.setCell ⟨b,base+k,none⟩ v):=by grind[run_store]
  obtain⟨w',arr',r,p,D,A,l,s,C,B,t⟩:=q (k+1) (arr.setIfInBounds (base+k) v) (w.setCell ⟨b,base+k,none⟩ v) (Ub w b _ v d) (by grind) (by grind) (λu y=>h u (aY _ y));refine⟨w',arr',?_,p,?_,by simpa using A,λn i=>(l n i).trans (J6 w b _ n v i),by simpa using s,C,B,t⟩<;>grind[trans,J6,storeCells,addr_add,Sem.run_bind,Result.andThen_ok,putV,Nat.add_assoc]
def ABH{O:At}{w:World}{wd b off len cap:Nat} (h:Lx O w wd (.slice (some ⟨b,off,none⟩) len cap)) (c:len<cap):∃arr e lo hi cells,w.heap[b]?=some (.cells arr e (lo,hi))/\(∀j,j<arr.size->¬(lo<=j/\j<hi))/\O.com b=some cells/\cells.length=off+len * wd/\off+cap * wd<=arr.size:=by obtain⟨arr,e,lo,hi,cells,g,k,_,d,f,i⟩:=h c;exact⟨arr,e,lo,hi,cells,g,k,d,f,i⟩
def At.ext (O:At) (b:Nat) (cs:List Value):At:= {O with com:=λk=>if k=b then some cs else O.com k}
def ASp{O:At}{w:World}{b:Nat}{m:List (Nat×List AVal)}{p:Nat×List AVal} (hp:p∈m):DR O w b p<=Aq O w b m:=by
 induction m with
 |nil=>grind
 |cons q m c=>
  rw[Aq];rcases aO.1 hp with rfl|hp;·omega
  grind
def Sim.grow (hs:Sim E F O st w af a.tmps.toList){b:Nat}{arr':Array Value}{e:TypeId}{lo hi:Nat}{cells news rest:List Value}{w':World} (D:O.com b=some cells) (R:w'.heap[b]?=some (.cells arr' e (lo,hi))) (l:arr'.toList=cells++news++rest) (I: ∀k,k≠b->w'.heap[k]?=w.heap[k]?) (H:w'.heap.size=w.heap.size) (L:w'.os=w.os) (z:w'.output=w.output) (y:w'.tape=w.tape) (W:F b+AR b af a.tmps.toList+Aq O w b st.m=0) (B: ∀T,O.ct b=some T->e=T):Sim E F (O.ext b (cells++news)) st w' af a.tmps.toList/\Ext F O w (O.ext b (cells++news)) w'/\∀n,Aq (O.ext b (cells++news)) w' n st.m=Aq O w n st.m:=by
 have c:O.le (O.ext b (cells++news)):=by refine⟨λk cs h=>?_,λi k h=>h,λi k h=>h,λi k h=>h,λi k h=>h⟩;by_cases r:k=b<;>simp_all[At.ext]
 have keep: ∀n,n≠b->w'.heap[n]?=w.heap[n]?/\(O.ext b (cells++news)).com n=O.com n:=λn f=>⟨I n f,by grind[At.ext]⟩;have j: ∀p,p∈st.m->∀k,O.bx p.1=some k->k≠b:=by
  intro p hp k C t;rcases hs.box_ok p hp with⟨V,ar,S,d⟩|⟨v,s⟩;rotate_left;·have:=s.bx;grind
  have G:=d.bx;rw[C]at G;cases G;have:=d.com;grind
 have q: ∀n,Aq (O.ext b (cells++news)) w' n st.m=Aq O w n st.m:=λn=>GD λp hp=>⟨rfl,λk A=>I k (j p hp k A)⟩;refine⟨?_,⟨c,λn f=>keep n (λe=>by grind),fM,L,z,y⟩,q⟩;refine {com_ok:=?_,box_ok:=?_,sx_next:=hs.sx_next,keys:=hs.keys,inj:=hs.inj,bx_lt:=?_,bx_next:=hs.bx_next,tyd:=?_,bx_F:=hs.bx_F,F_lt:=?_,glob:=λg cs h=>(hs.glob g cs h).mono c,rep:=hs.rep.mono c,own:=?_,tok:=?_}
 ·intro n cs h;by_cases hnb:n=b;·subst hnb;simp only[At.ext,az,ah]at h;subst h;exact⟨arr',e,(lo,hi),R,⟨rest,l⟩,B⟩
  ·rw[(keep n hnb).2]at h;obtain⟨ar,t,fz,J,x⟩:=hs.com_ok n cs h;exact⟨ar,t,fz,by grind,x⟩
 ·intro p hp;rcases hs.box_ok p hp with⟨k,ar,t,d⟩|⟨v,s⟩;rotate_left;·refine .inr ⟨v,s.keep c s.bx λn f=>keep n λe=>?_⟩;subst e;have:=s.cnt n;have:=Yp (O:=O) (w:=w) (b:=n) hp;omega
  obtain⟨K,J,x,M⟩:=d.heap;have r:=j p hp k d.bx;refine .inl ⟨k,ar,t,d.bx,⟨K,J,by grind,M⟩,d.rep.mono c,Bz c _ _ d.own λn f=>keep n λe=>?_,by rw[(keep k r).2];exact d.com,d.one,d.ty⟩;subst e;have P:DR O w n p=AR n p.2 ar.toList:=by simp only[DR,d.bx,hcells,x]
  have:=ASp (O:=O) (w:=w) (b:=n) hp;omega
 ·intro i n h;rw[H];exact hs.bx_lt i n h
 ·refine⟨hs.tyd.1,λn e h=>?_⟩;obtain⟨cs,U⟩:=hs.tyd.2 n e h;grind[At.ext]
 ·intro n f;rw[H]at f;exact hs.F_lt n f
 ·exact Bz c _ _ hs.own λn f=>keep n λe=>by grind
 ·intro n;rw[q n];exact hs.tok n
theorem Mg{P:Program}{w:World}{t0 t1 e ty:TypeId}{ts:List TypeId}{i:TypeInfo}{d:TypeDesc}{base:Option Addr}{len cap n:Nat}{vy:Value} (hu:P.underlying t0=some (.slice e)) (hi:P.info? e=some i) (hd:P.underlying t1=some d) (hn:I4 P t1=none) (hl:(Builtin.lenOf vy).run P w=.ok n w) (hle:len+n<=cap){news:List Value} (hf:(Builtin.firstCells i.size n vy).run P w=.ok news.toArray w):(Builtin.append_ ⟨t0::t1::ts⟩ ty #[.slice base len cap,vy]).run P w=(match base with|some a=>(storeCells (a.add (len * i.size)) news>>=λ_=>pure (Value.slice base (len+n) cap):Sem Value)|none=>pure (Value.slice base (len+n) cap)).run P w:=by
 have e1:(⟨t0::t1::ts⟩:Array TypeId)[0]?=some t0:=rfl;have e2:(⟨t0::t1::ts⟩:Array TypeId)[1]?=some t1:=rfl;have e3:(#[Value.slice base len cap,vy]:Array Value)[0]?=some (Value.slice base len cap):=rfl;have e4:(#[Value.slice base len cap,vy]:Array Value)[1]?=some vy:=rfl;have hs:(sizeOf e).run P w=.ok i.size w:=by simp[sizeOf,typeInfo,hi]
 unfold Builtin.append_;simp only[e1,e2,e3,e4];rw[aL,aI hu];simp only[aD];rw[aL,hs];simp only[aD];rw[aL,aI hd];simp only[aD];have key: ∀(b:Bool),b=false->∀(f:Bool->Sem Value),((pure b:Sem Bool)>>=f).run P w=(f false).run P w:=by simp
 rw[key _ (by cases d<;>first|rfl|(simp[I4,hd]at hn;done))];simp only[ap,aA];rw[aL,hl];simp only[aD,ba,az];rw[an hle,aL,hf];simp only[aD];cases base<;>rfl
theorem Nz{P:Program}{w:World}{t0 t1 e ty:TypeId}{ts:List TypeId}{i:TypeInfo}{zv:Value}{d:TypeDesc}{base:Option Addr}{len cap n:Nat}{vy:Value} (hu:P.underlying t0=some (.slice e)) (hi:P.info? e=some i) (hzv:i.zero=some zv) (hd:P.underlying t1=some d) (hn:I4 P t1=none) (hl:(Builtin.lenOf vy).run P w=.ok n w) (hle: ¬(len+n<=cap)) (h48: ¬(Builtin.nextslicecap (len+n) cap * i.bytes>2^48)) (h63: ¬(((len+n:Nat):Int)>IntKind.i64.max)) {olds news:List Value} (hf0:(Builtin.firstCells i.size len (.slice base len cap)).run P w.drew=.ok olds.toArray w.drew) (hf:(Builtin.firstCells i.size n vy).run P w.drew=.ok news.toArray w.drew):(Builtin.append_ ⟨t0::t1::ts⟩ ty #[.slice base len cap,vy]).run P w=.ok (.slice (some ⟨w.heap.size,0,none⟩) (len+n) (grownCap w (len+n) cap e)) (w.drew.alloc (.cells (olds.toArray++news.toArray++Builtin.zeroCells zv.cells (grownCap w (len+n) cap e-(len+n))) e)):=by
 have e1:(⟨t0::t1::ts⟩:Array TypeId)[0]?=some t0:=rfl;have e2:(⟨t0::t1::ts⟩:Array TypeId)[1]?=some t1:=rfl;have e3:(#[Value.slice base len cap,vy]:Array Value)[0]?=some (Value.slice base len cap):=rfl;have e4:(#[Value.slice base len cap,vy]:Array Value)[1]?=some vy:=rfl;have hs: ∀w,(sizeOf e).run P w=.ok i.size w:=λw=>by simp[sizeOf,typeInfo,hi]
 have ht: ∀w,(typeInfo e).run P w=.ok i w:=λw=>by simp[typeInfo,hi]
 have hzz: ∀w,(zeroValue e).run P w=.ok zv w:=λw=>by simp_all[zeroValue,typeInfo]
 unfold Builtin.append_;simp only[e1,e2,e3,e4];rw[aL,aI hu];simp only[aD];rw[aL,hs];simp only[aD];rw[aL,aI hd];simp only[aD];have key: ∀(b:Bool),b=false->∀(f:Bool->Sem Value),((pure b:Sem Bool)>>=f).run P w=(f false).run P w:=by simp
 rw[key _ (by cases d<;>first|rfl|(simp[I4,hd]at hn;done))];simp only[ap,aA];rw[aL,hl];simp only[aD,ba,az];rw[aj hle];simp only[aL,ht,aD,Sem.run_ite,bz,h48,h63,false_and,aA,run_choose,Question.forced,ap,World.drew_eq,run_askRoom,hf0,hf,hzz,newRow,run_newObj,World.alloc_eq,grownCap];rfl
def Sim.drew{f:List Value} (hs:Sim E F O st w af f):Sim E F O st w.drew af f:=by
 have d: ∀n,Aq O w.drew n st.m=Aq O w n st.m:=λn=>GD λp hp=>⟨rfl,λ_ _=>rfl⟩;refine {hs with box_ok:=?_,own:=Bz O.le_refl _ _ hs.own λ_ _=>⟨rfl,rfl⟩,tok:=λn=>by rw[d n];exact hs.tok n};intro p hp;rcases hs.box_ok p hp with⟨b,arr,e,c⟩|⟨v,g⟩;rotate_left;·exact .inr ⟨v,g.keep O.le_refl g.bx λ_ _=>⟨rfl,rfl⟩⟩
 exact .inl ⟨b,arr,e,c.bx,c.heap,c.rep,Bz O.le_refl _ _ c.own λ_ _=>⟨rfl,rfl⟩,c.com,c.one,c.ty⟩
def A1U (w:World) (O':At) (e:TypeId) (n:Nat) (b v:Value) (A B:Prop):Prop:=((∃base len cap,b=.slice base len cap/\v=.slice base (len+n) cap)/\A)\/(∃len cap,v=.slice (some ⟨w.heap.size,0,none⟩) len cap/\n<=cap/\n≠0/\O'.ct w.heap.size=some e)/\B
set_option maxHeartbeats 1000000 in theorem ABW (hs:Sim E F O st w af a.tmps.toList){o:Oper}{x y:Operand}{t0 t1:TypeId}{ts:List TypeId}{ax r:AVal} (hop:o.op=.call {callee:=.builtin .append,args:=#[x,y],argTypes:=⟨t0::t1::ts⟩}) (hx:Rep O ax (a.eval x)) (hox:VM.own O w ax (a.eval x)) (hcx: ∀b,AR b (stripAt af x) a.tmps.toList+cnt b ax (a.eval x)<=AR b af a.tmps.toList) (h:PL E t0 t1 ax (rd E af t1 y)=some r):∃e v w' O' ys,E.P.underlying t0=some (.slice e)/\(execOp a.eval o).run E.P w=.ok (.value v) w'/\Ext F O w O' w'/\Sim E F O' st w' (stripAt af x) a.tmps.toList/\Rep O' r v/\VM.own O' w' r v/\(∃wd xs,ax=.slice wd xs true/\RX wd (rd E af t1 y)=some ys/\r=.slice wd (xs++ys) true)/\A1U w O' e ys.length (a.eval x) v (∀n,Aq O' w' n st.m=Aq O w n st.m) (∀n,AR n (stripAt af x) a.tmps.toList+Aq O' w' n st.m+F n+(if n=w.heap.size then 1 else 0)<=1)/\(∀n,F n+AR n (stripAt af x) a.tmps.toList+cnt n r v+Aq O' w' n st.m<=1):=by
 have hy:=hs.rd t1 y;have hs1:=hs.stripAt x;have htk:=hs.tok;generalize rd E af t1 y=ay at *;generalize hvx:a.eval x=vx at *;generalize hvy:a.eval y=vy at *;unfold PL at h;split at h
 ·rename_i wd xs;split at h
  ·rename_i z byt ys hap hsrc;split at h
   ·rename_i hc;obtain⟨rfl,hint,hkn,hroom,h62'⟩:=hc;have h62:xs.length+ys.length<=4611686018427387904:=h62';simp only[ah]at h;subst h;obtain⟨e,i,zv,hu,hi,hz,hzs,his,hib⟩:=M5 hap;obtain⟨news,src⟩:=UQ hs hy hsrc;obtain⟨d1,hd1⟩:=C9 hkn;have hargs:Array.map a.eval #[x,y]= #[vx,vy]:=by grind
    have hexec: ∀r,(Builtin.append_ ⟨t0::t1::ts⟩ o.type #[vx,vy]).run E.P w=r->(execOp a.eval o).run E.P w=r.andThen λv w'=>.ok (.value v) w':=by simp_all[execOp,resolve,invoke,builtin]
    by_cases hn:ys.length=0
    ·have hys:ys=[]:=bC hn;subst hys;have hnews:news=[]:=bC (by simpa using src.size);subst hnews;obtain⟨base,len,cap,rfl,hle⟩: ∃base len cap,vx=.slice base len cap/\len<=cap:=by cases hx with|snil=>exact⟨_,_,_,rfl,av _⟩|slice _ _ _ hc _ hnn=>exact⟨_,_,_,rfl,hc.1⟩
     have hlen:=src.len w;have hfirst:=src.first w (λ_ _=>rfl);simp only[aq]at hlen hfirst;rw[<-his]at hfirst;have hrun:(Builtin.append_ ⟨t0::t1::ts⟩ o.type #[.slice base len cap,vy]).run E.P w=.ok (.slice base len cap) w:=by rw[Mg hu hi hd1 hint hlen fM hfirst];cases base<;>simp[storeCells]
     refine⟨e,_,w,O,[],hu,hexec _ hrun,Ext.refl _ _ _,hs1,by grind,by grind,⟨_,_,rfl,hsrc,rfl⟩,.inl ⟨⟨_,_,_,rfl,rfl⟩,λ_=>rfl⟩,?_⟩;grind
    ·have hnz0:0<ys.length:=fM;by_cases hfit: ∃b off len cap,vx=.slice (some ⟨b,off,none⟩) len cap/\len+ys.length<=cap
     ·obtain⟨b,off,len,cap,rfl,hfits⟩:=hfit;simp only[VM.own]at hox;obtain⟨arr,e',lo,hi',cells,hh,hf,hcom,hcl,hsz⟩:=ABH hox fM;obtain⟨arr0,e0,fz0,hh0,⟨ds,hds⟩,hct0⟩:=hs.com_ok b cells hcom;rw[hh]at hh0;cases hh0;cases hx with
      |snil=>omega
      | slice _ hb hl hcap hS hnn=>
       rw[hcom]at hb;cases hb;have hlenarr:cells.length+ds.length=arr.size:=by grind[List.length_append,Array.length_toList]
       have hnl:news.length<=ds.length:=by rw[src.size];have:(len+ys.length) * z<=cap * z:=bO _ hfits;grind
       obtain⟨w',arr',r1,q1,q2,q3,q4,q5,q6,q7,q8⟩:=EB (P:=E.P) (b:=b) (base:=off+len * z) news 0 arr w hh hf fM src.one;rw[bW,<-hcl,hds,Kb _ _ _ hnl]at q2;have hbt:1<=cnt b (.slice z xs true) (.slice (some ⟨b,off,none⟩) len cap):=by simp only[cnt,Lt];rw[an ⟨fM,trivial⟩];omega
       have hzero:F b+AR b (stripAt af x) a.tmps.toList+Aq O w b st.m=0:=by grind
       obtain⟨s2,x2,hcm⟩:=hs1.grow hcom q1 q2 q4 q5 q6 q7 q8 hzero hct0;have hlen:=src.len w;have hfirst:=src.first w (λ_ _=>rfl);rw[<-his]at hfirst r1;have hrun:(Builtin.append_ ⟨t0::t1::ts⟩ o.type #[.slice (some ⟨b,off,none⟩) len cap,vy]).run E.P w=.ok (.slice (some ⟨b,off,none⟩) (len+ys.length) cap) w':=by rw[Mg hu hi hd1 hint hlen hfits hfirst];simp only[addr_add];simp_all
       refine⟨e,_,w',_,ys,hu,hexec _ hrun,x2,s2,.slice _ (cells:=cells++news) (by simp[At.ext]) (by grind) ⟨hfits,fM⟩ ?_ (λ_ h=>by simp_all),?_,⟨_,_,rfl,hsrc,rfl⟩,.inl ⟨⟨_,_,_,rfl,rfl⟩,hcm⟩,?_⟩;·rw[cA fM];exact RepS.append (hS.mono x2.le) (by grind) (src.rep.mono x2.le)
       ·simp only[VM.own,Lx];intro hlt;exact⟨arr',e',lo,hi',cells++news,q1,by grind,trivial,by simp[At.ext],by rw[ag,src.size,cB];omega,fM⟩
       ·intro n;rw[hcm n];have h1:cnt n (.slice z (xs++ys) true) (.slice (some ⟨b,off,none⟩) (len+ys.length) cap)<=cnt n (.slice z xs true) (.slice (some ⟨b,off,none⟩) len cap):=by
         simp only[cnt,Lt];split;·rename_i hh';rw[an ⟨fM,hh'.2⟩];omega
         omega
        grind
     ·obtain⟨base,len,cap,rfl,hlen,hcap⟩: ∃base len cap,vx=.slice base len cap/\xs.length=len/\len<=cap:=by cases hx with|snil=>exact⟨_,0,0,rfl,rfl,av _⟩|slice _ hb hl hc hS hnn=>exact⟨_,_,_,rfl,hl,hc.1⟩
      obtain⟨olds,so⟩:=WY hs hx;subst hlen;have hneed: ¬(xs.length+ys.length<=cap):=by intro hle;apply hfit;cases hx with|snil=>omega|slice _ hb hl hc hS hnn=>exact⟨_,_,_,_,rfl,hle⟩
      have h63: ¬(9223372036854775807<((xs.length:Int)+(ys.length:Int))):=fM;have h48: ¬(281474976710656<Builtin.nextslicecap (xs.length+ys.length) cap * i.bytes):=by have:=eQ (need:=xs.length+ys.length) (old:=cap) (bytes:=i.bytes) fM (by grind);omega
      have hl1:=src.len w;have hf1:=src.first w.drew (λ_ _=>rfl);have hf0:=so.first w.drew (λ_ _=>rfl);rw[<-his]at hf1 hf0;generalize hnc:grownCap w (xs.length+ys.length) cap e=nc;have hge:xs.length+ys.length<=nc:=by grind[grownCap_ge]
      have hrun:(Builtin.append_ ⟨t0::t1::ts⟩ o.type #[.slice base xs.length cap,vy]).run E.P w=.ok (.slice (some ⟨w.heap.size,0,none⟩) (xs.length+ys.length) nc) (w.drew.alloc (.cells (olds.toArray++news.toArray++Builtin.zeroCells zv.cells (nc-(xs.length+ys.length))) e)):=by subst hnc;have e3:IntKind.i64.max=9223372036854775807:=fO;grind[Nz]
      have hsd:Sim E F O st w.drew (stripAt af x) a.tmps.toList:=hs1.drew;obtain⟨s2,x2,hcm⟩:=hsd.newArr (cells:=olds.toArray++news.toArray++Builtin.zeroCells zv.cells (nc-(xs.length+ys.length))) (e:=e) (pre:=olds++news) (spare:=(Builtin.zeroCells zv.cells (nc-(xs.length+ys.length))).toList) (fz:=(0,0)) fN (λv hv=>by rcases aZ.1 hv with hv|hv;exact so.one v hv;exact src.one v hv);have x0:Ext F O w O w.drew:=⟨O.le_refl,λ_ _=>⟨rfl,rfl⟩,av _,rfl,rfl,rfl⟩;refine⟨e,_,_,_,ys,hu,hexec _ hrun,x0.trans x2,s2,.slice _ (cells:=olds++news) (by simp[At.arr]) fN ⟨hge,h62'⟩ ?_ (λ_ h=>by simp_all),?_,⟨_,_,rfl,hsrc,rfl⟩,.inr ⟨⟨_,_,rfl,fM,fM,by simp[At.arr]⟩,hcm⟩,?_⟩;·rw[aN];exact RepS.append (so.rep.mono x2.le) so.size (src.rep.mono x2.le)
      ·simp only[VM.own,Lx];intro hlt;refine⟨_,e,0,0,olds++news,OU _,fM,trivial,by simp[At.arr],?_,?_⟩;·rw[ag,so.size,src.size,cB];omega
       ·simp only[eZ,du,so.size,src.size,Builtin.zeroCells,eR,eb,hzs,<-cB];simp_all
      ·intro n;have hcn:AR n (stripAt af x) a.tmps.toList+Aq (O.arr w.drew.heap.size (olds++news) e) (w.drew.alloc (.cells (olds.toArray++news.toArray++Builtin.zeroCells zv.cells (nc-(xs.length+ys.length))) e)) n st.m+F n+(if n=w.heap.size then 1 else 0)<=1:=hcm n;have h1:cnt n (.slice z (xs++ys) true) (.slice (some ⟨w.heap.size,0,none⟩) (xs.length+ys.length) nc)<=if n=w.heap.size then 1 else 0:=by
        simp only[cnt,Lt];split;·simp_all
        omega
       omega
   grind
  grind
 grind
def AZF (l m:B8):u8s (l++m)=u8s l++u8s m:=by simp[u8s]
theorem ATg (hs:Sim E F O st w af a.tmps.toList){o:Oper}{x y:Operand}{i P:TypeId}{ts:List TypeId}{r:AVal} (t:o.op=.call {callee:=.builtin .append,args:=#[x,y],argTypes:=⟨i::P::ts⟩}) (h:Jr E i P (rd E af i x) (rd E af P y)=some r):∃nx w' a' O',AM E F O st w a o (Ae (stripAt af x) o.dst r) st nx w' a' O':=by
 have s:=hs.rd i x;have d:=hs.rd_own i x;have f:=λb=>hs.rd_cnt i x b;unfold Jr at h;split at h
 ·rename_i e l m W B;split at h
  ·rename_i R;obtain⟨hel,U⟩:=R;simp only[ah]at h;subst h;obtain⟨r',k⟩:=dM.1 U;rw[W]at s d f;rw[<-B]at k;generalize I:a.eval x=vx at s d f;cases s with
   | buf _ s j=>
    simp only[VM.own]at d;obtain⟨S,v,w',O',ys,k1,L,D,C,c,A,⟨wd,xs,Z,G,J⟩,g,M⟩:=ABW hs t (by grind) (by grind[VM.own]) (λb=>by grind[cnt,YJ]) k;have he:S=e:=by grind[ACc]
    subst he;cases Z;have T:ys=u8s m:=by rw[B]at G;simp[RX]at G;exact G.symm
    subst T;subst J;rw[<-AZF]at c A M;rw[I]at g;have n:bufOK O' S v:=by
     rcases g with⟨⟨base,len,cap,rfl,rfl⟩,X⟩|⟨⟨len,cap,rfl,Y,h0,z⟩,hB⟩
     ·cases base with
      |none=>
       obtain⟨H,h2⟩:=j;subst H;subst h2;have:(u8s m).length=0:=by generalize u8s (l++m)=q at c;generalize Y:0+(u8s m).length=nn at c;cases c;omega
       rw[this];exact⟨rfl,rfl⟩
      |some a0=>exact(j.mono D.le)
     ·exact⟨rfl,rfl,fM,z⟩
    have hcnt: ∀b,F b+AR b (VM.stripAt af x) a.tmps.toList+CP b v+Aq O' w' b st.m<=1:=by
     intro b;rcases g with⟨⟨base,len,cap,rfl,rfl⟩,X⟩|⟨⟨len,cap,rfl,Y,h0,z⟩,hB⟩
     ·rw[X b];have H:=f b;have h2:=hs.tok b;have h3:CP b (.slice base (len+(u8s m).length) cap)=cnt b (.buf S l true) (.slice base len cap):=by simp only[cnt];cases base<;>rfl
      omega
     ·have H:=hB b;have h3:CP b (.slice (some ⟨w.heap.size,0,none⟩) len cap)=if b=w.heap.size then 1 else 0:=by
       simp only[CP];by_cases V:b=w.heap.size;·simp_all
       ·rw[aj (λe=>V e.symm),aj V]
      omega
    refine⟨_,w',a.put o.dst v,O',L,λK Q j=>j,put_defers _ _ _,D,av _,?_⟩;refine C.put o.dst (.buf _ c n) ?_ ?_
    ·simp only[VM.own]at A⊢;refine⟨A,λb V=>?_⟩;have p: ∃cells,O'.com b=some cells:=by
      generalize u8s (l++m)=q at c;cases c with
      |snil _ _ a0=>cases a0 with|none=>grind[CP]|some a0=>exact absurd rfl n.2.2.1
      |slice _ H _ _ _ hnn=>grind[CP]
     obtain⟨cells,R⟩:=p;obtain⟨arr,e2,fz,hh,_⟩:=C.com_ok _ _ R;grind
    grind[cnt]
  grind
 ·obtain⟨e,v,w',O',ys,k1,L,D,C,c,A,Z,G,J⟩:=ABW hs t s d (λb=>Nat.le_of_eq (f b)) h;exact⟨_,w',a.put o.dst v,O',L,λK Q j=>j,put_defers _ _ _,D,av _,C.put o.dst c A J⟩
end
end Go.VM
namespace Go.VM
def Bg (E:Env) (ty:Nat->TypeId):List AVal->List (Nat×Operand)->List AVal×List (Nat×AVal)|af,[]=>(af,[])|af,(i,x)::r=>((Bg E ty (stripAt af x) r).1,(i,rd E af (ty i) x)::(Bg E ty (stripAt af x) r).2)
def Jj (O:At) (w:World):List (Nat×AVal)->List (Nat×Value)->Prop|[],[]=>True|(i,x)::ps,(j,v)::us=>i=j/\Rep O x v/\own O w x v/\Jj O w ps us|_,_=>False
def ASl (b:Nat):List (Nat×AVal)->List (Nat×Value)->Nat|(_,x)::ps,(_,v)::us=>cnt b x v+ASl b ps us|_,_=>0
def ABP (b:Nat->Option (Nat×Nat)) (cs:List AVal):List (Nat×AVal)->Option (List AVal)|[]=>some cs|(i,x)::rest=>match b i with|some (off,size)=>if Ch x=true/\(Aa x).length=size/\off+size<=cs.length then ABP b (putCells cs off (Aa x)) rest else none|none=>none
def AQ (P:Program) (t:TypeId) (i:Nat):TypeId:=match P.underlying t with|some (.struct fs)=>(fs[i]?.map (·.type)).getD 0|some (.array _ e)=>e|some (.slice e)=>e|_=>0
def Cu (P:Program) (t:TypeId):Option (Nat->Option (Nat×Nat)):=match P.underlying t with|some (.struct fs)=>(fs.toList.mapM λf=>(P.info? f.type).map λi=>(f.offset,i.size)).map λl i=>l[i]?|some (.array _ e)=>(P.info? e).map λb i=>some (i * b.size,b.size)|_=>none
def AZ (P:Program) (t:TypeId) (i:Nat):Option (Nat×Nat):=(Cu P t).bind (· i)
def V4 (E:Env) (t:TypeId) (ps:List (Nat×AVal)):Option AVal:=match Cr E.P t,(Cu E.P t).isSome with|some (.agg cs),true=>(ABP (AZ E.P t) cs ps).map .agg|_,_=>none
section
variable{E:Env}{F:Nat->Nat}{O:At}{st:St}{w:World}{af:List AVal}{a:Act}
def ACT (off:Nat): ∀(l:List Value) (k:Nat) (cs:Array Value),((l.zipIdx k).foldl (λcs x=>cs.setIfInBounds (off+x.2) x.1) cs).toList=putV cs.toList (off+k) l:=by intro l;induction l with|nil=>intro k cs;rfl|cons v l b=>intro k cs;simp only[List.zipIdx_cons,ev,putV];rw[b (k+1)];simp[cH]
theorem RepL.putV{xs cs:List AVal}{us vs:List Value} (h:RepL O cs vs) (k:RepL O xs us) (off:Nat):RepL O (putCells cs off xs) (VM.putV vs off us):=by induction xs generalizing cs us vs off with|nil=>cases k;exact h|cons x xs b=>cases k with|cons c t=>exact b (h.set off c) t (off+1)
theorem ownL.putV{xs cs:List AVal}{us vs:List Value} (h:ownL O w cs vs) (c:xs.length=us.length) (k:ownL O w xs us) (off:Nat):ownL O w (putCells cs off xs) (VM.putV vs off us):=by
 induction xs generalizing cs us vs off with
 |nil=>cases us with|nil=>exact h|cons _ _=>grind
 |cons x xs b=>cases us with|nil=>grind|cons u us=>rw[ownL]at k;exact b (h.set off k.1) (by grind) k.2 (off+1)
theorem AHu (b:Nat){xs cs:List AVal}{us vs:List Value} (c:xs.length=us.length) (off:Nat):AR b (putCells cs off xs) (VM.putV vs off us)<=AR b cs vs+AR b xs us:=by induction xs generalizing cs us vs off with|nil=>grind[putCells,VM.putV]|cons x xs d=>cases us with|nil=>grind|cons u us=>grind[Ii,AR,putCells,VM.putV]
def ADK{l us:List Value}{off:Nat}{v:Value} (h:v∈VM.putV l off us):v∈l\/v∈us:=by induction us generalizing l off with|nil=>exact .inl h|cons u us b=>rcases b h with h|h<;>grind[List.mem_or_eq_of_mem_set,List.mem_cons_of_mem]
def AVH{d:Nat->Option (Nat×Nat)}{ps:List (Nat×AVal)}: ∀ {us:List (Nat×Value)}{cs cs':List AVal}{arr:Array Value},RepL O cs arr.toList->ownL O w cs arr.toList->(∀v,v∈arr.toList->v.oneCell'=true)->Jj O w ps us->ABP d cs ps=some cs'->∃arr',Instr.fill d arr us=some arr'/\RepL O cs' arr'.toList/\ownL O w cs' arr'.toList/\(∀v,v∈arr'.toList->v.oneCell'=true)/\∀b,AR b cs' arr'.toList<=AR b cs arr.toList+ASl b ps us:=by
 induction ps with
 |nil=>intro us cs cs' arr k n A hp h;cases us with|nil=>simp only[ABP,ah]at h;subst h;exact⟨arr,rfl,k,n,A,λb=>by simp⟩|cons u us=>grind[Jj]
 | cons p ps ih=>
  intro us cs cs' arr k n A hp h;obtain⟨i,x⟩:=p;cases us with
  |nil=>grind[Jj]
  | cons u us=>
   obtain⟨j,v⟩:=u;simp only[Jj]at hp;obtain⟨rfl,r,t,hp⟩:=hp;simp only[ABP]at h;split at h
   ·rename_i off g J;split at h
    ·rename_i C;obtain⟨e,s,z⟩:=C;have f:=r.cellsOK e;have D:v.cells.size=g:=by rw[<-s,f.length,aE]
     have y:cs.length=arr.size:=by rw[k.length,aE]
     have c:(v.cells.zipIdx.foldl (λcs x=>cs.setIfInBounds (off+x.2) x.1) arr).toList=VM.putV arr.toList off v.cells.toList:=by rw[<-eS,eB];exact ACT off v.cells.toList 0 arr
     generalize B:v.cells.zipIdx.foldl (λcs x=>cs.setIfInBounds (off+x.2) x.1) arr=arr1 at c;have m:RepL O (putCells cs off (Aa x)) arr1.toList:=by rw[c];exact k.putV f off
     have q:ownL O w (putCells cs off (Aa x)) arr1.toList:=by rw[c];exact n.putV f.length (Wd r e t) off
     obtain⟨arr',K,H,I,G,L⟩:=ih m q (by
      rw[c];intro u l;rcases ADK l with l|l;·grind
      ·exact r.one e u l) hp h;refine⟨arr',?_,H,I,G,λb=>?_⟩;·simp_all[Instr.fill]
     grind[AHu,WN,ASl]
    grind
   grind
def Ta (ty:Nat->TypeId): ∀(ps:List (Nat×Operand)){af:List AVal},Sim E F O st w af a.tmps.toList->Sim E F O st w (Bg E ty af ps).1 a.tmps.toList/\Jj O w (Bg E ty af ps).2 (ps.map λp=>(p.1,a.eval p.2))/\∀b,AR b (Bg E ty af ps).1 a.tmps.toList+ASl b (Bg E ty af ps).2 (ps.map λp=>(p.1,a.eval p.2))=AR b af a.tmps.toList:=by intro ps;induction ps with|nil=>intro af hs;exact⟨hs,trivial,λb=>by simp[Bg,ASl]⟩|cons p ps e=>intro af hs;obtain⟨i,x⟩:=p;obtain⟨d,f,c⟩:=e (hs.stripAt x);refine⟨d,⟨rfl,hs.rd _ x,hs.rd_own _ x,f⟩,λb=>?_⟩;have:=c b;have:=hs.rd_cnt (ty i) x b;grind[Bg,ASl]
theorem AaN (hs:Sim E F O st w af a.tmps.toList){o:Oper}{t:TypeId}{ps:List (Nat×Operand)}{r:AVal} (D:o.op=.build t ⟨ps⟩) (h:V4 E t (Bg E (AQ E.P t) af ps).2=some r):∃L w' A O',AM E F O st w a o (Ae (Bg E (AQ E.P t) af ps).1 o.dst r) st L w' A O':=by
 obtain⟨B,R,s⟩:=Ta (AQ E.P t) ps hs;unfold V4 at h;split at h
 ·rename_i cs C j;obtain⟨i,y,hi,M,k⟩:=Mc C;have c:=KM O w _ _ k;obtain⟨arr,rfl⟩: ∃arr,y=.agg arr:=by have:=c.rep;cases this;simp
  cases hf:ABP (AZ E.P t) cs (Bg E (AQ E.P t) af ps).2 with
  |none=>grind
  | some cs'=>
   simp only[hf,aP,ah]at h;subst h;have g:=c.rep;cases g with
   | agg hr h1c=>
    obtain⟨arr',T,H,W,v,G⟩:=AVH hr (by have:=c.own;grind[VM.own]) h1c R hf;have V:E.P.built t (ps.map λp=>(p.1,a.eval p.2))=some arr':=by
     unfold Program.built;unfold Cu at j;rw[hi];split at j
     ·rename_i fs J;cases hm:fs.toList.mapM (λf=>(E.P.info? f.type).map λi=>(f.offset,i.size))with
      |none=>grind
      |some l=>
       have e:AZ E.P t=λi=>l[i]?:=by grind[AZ,Cu]
       simp_all[Value.cells]
     ·rename_i n e J;cases hie:E.P.info? e with
      |none=>grind
      |some q=>
       have U:AZ E.P t=λi=>some (i * q.size,q.size):=by grind[AZ,Cu]
       grind[Value.cells]
     grind
    have d:(Array.map (λx=>(x.fst,a.eval x.snd)) ⟨ps⟩).toList=ps.map λp=>(p.1,a.eval p.2):=fN;have m:=run_build w t (Array.map (λx=>(x.fst,a.eval x.snd)) ⟨ps⟩) arr' (by rw[d];omega);refine⟨.value (.agg arr'),w,a.put o.dst (.agg arr'),O,?_,λK Q I=>I,put_defers _ _ _,Ext.refl _ _ _,av _,?_⟩;·simp_all[execOp]
    ·refine B.put o.dst (.agg H v) (by grind[VM.own]) λb=>?_;have X:=G b;have S:=s b;have z:=c.cnt b;simp only[cnt]at z⊢;have:=hs.tok b;omega
 grind
def Ik (E:Env) (t:TypeId) (len:Nat) (ps:List (Nat×AVal)):Option AVal:=match KZ E.P t with|some (z,_)=>if len * z<=16777216/\len<=Ca/\ps.map (·.1)=List.range len/\(ps.all λp=>Ch p.2&&(Aa p.2).length==z)=true then some (.slice z (ps.map λp=>p.2.strip) true)else none|none=>none
def Aqr{z:Nat}: ∀ {ps:List (Nat×AVal)}{us:List (Nat×Value)}{k n:Nat}{pre rest:List Value}{arr:Array Value},arr.toList=pre++rest->pre.length=k * z->rest.length=n * z->ps.map (·.1)=List.range' k n->Jj O w ps us->(∀p,p∈ps->Ch p.2=true/\(Aa p.2).length=z)->∃arr' c,Instr.fill (λi=>some (i * z,z)) arr us=some arr'/\arr'.toList=pre++c/\RepS O z (ps.map λp=>p.2.strip) c/\c.length=n * z/\∀v,v∈c->v.oneCell'=true:=by
 intro ps;induction ps with
 |nil=>
  intro us k n pre rest arr d g l b hp h;have G:n=0:=by simp_all
  subst G;cases us with|nil=>have:rest=[]:=bC fM;subst this;exact⟨arr,[],rfl,d,.nil _ _,fN,fN⟩|cons u us=>grind[Jj]
 | cons p ps ih=>
  intro us k n pre rest arr d g l b hp h;obtain⟨i,x⟩:=p;cases us with
  |nil=>grind[Jj]
  | cons u us=>
   obtain⟨j,v⟩:=u;simp only[Jj]at hp;obtain⟨rfl,t,I,hp⟩:=hp;cases n with
   |zero=>grind
   | succ n=>
    simp only[aH,dc,dl]at b;obtain⟨rfl,b⟩:=b;obtain⟨e,A⟩:=h (i,x) fN;have y:=t.cellsOK e;have r:v.cells.size=z:=by rw[<-A,y.length,aE]
    have m:arr.size=(i+(n+1)) * z:=by grind[Array.length_toList,List.length_append,Nat.add_mul]
    have B:z<=rest.length:=by grind
    have f:(v.cells.zipIdx.foldl (λcs x=>cs.setIfInBounds (i * z+x.2) x.1) arr).toList=pre++v.cells.toList++rest.drop z:=by rw[<-eS,eB,ACT (i * z) v.cells.toList 0 arr,d,bW,<-g];grind[Kb,Array.length_toList]
    generalize C:v.cells.zipIdx.foldl (λcs x=>cs.setIfInBounds (i * z+x.2) x.1) arr=arr1 at f;obtain⟨arr',c,J,M,H,K,L⟩:=ih (k:=i+1) (n:=n) (pre:=pre++v.cells.toList) (rest:=rest.drop z) f (by grind) (by grind[List.length_drop,Nat.succ_mul]) b hp (λq D=>h q (aY _ D));refine⟨arr',v.cells.toList++c,?_,by grind,?_,by grind[List.length_append,Array.length_toList,Nat.succ_mul],?_⟩
    ·rw[Instr.fill];simp only;rw[aj];·grind
     ·simp only[r,eA,cQ,eF,bk,au,Nat.not_lt,m,cB,bH];omega
    ·exact .cons t.strip ⟨r,t.one e⟩ H
    ·intro u s;rcases aZ.1 s with s|s;·exact t.one e u s
     grind
theorem ACC (hs:Sim E F O st w af a.tmps.toList){o:Oper}{t:TypeId}{len:Nat}{ps:List (Nat×Operand)}{r:AVal} (B:o.op=.buildSlice t len ⟨ps⟩) (h:Ik E t len (Bg E (λ_=>AQ E.P t 0) af ps).2=some r):∃Y w' R O',AM E F O st w a o (Ae af o.dst r) st Y w' R O':=by
 obtain⟨h1,h2,h3⟩:=Ta (λ_=>AQ E.P t 0) ps hs;generalize L:(Bg E (λ_=>AQ E.P t 0) af ps).2=qs at *;unfold Ik at h;split at h
 ·rename_i z Z H;split at h
  ·rename_i S;obtain⟨hsz,A,q,g⟩:=S;simp only[ah]at h;subst h;obtain⟨e,i,J,X,hi,hz,hzs,his,W⟩:=M5 H;have s: ∀p,p∈qs->Ch p.2=true/\(Aa p.2).length=z:=by intro p hp;have:=aK.1 g p hp;simp_all
   have v:qs.length=len:=by have:=br List.length q;grind
   generalize b:(if len * z=0 then(#[]:Array Value)else J.cells)=zero;have d:=Aqr (O:=O) (w:=w) (z:=z) (ps:=qs) (us:=ps.map λp=>(p.1,a.eval p.2)) (k:=0) (n:=len) (pre:=[]) (rest:=((Array.range (len * z)).map (λj=>zero[j % zero.size]!)).toList) (arr:=(Array.range (len * z)).map (λj=>zero[j % zero.size]!)) fN fN fN (by grind[List.range_eq_range']) h2 s;obtain⟨arr',f,y,U,q3,q4,T⟩:=d;rw[bl]at U;have m:(execOp a.eval o).run E.P w=.ok (.value (.slice (some ⟨w.heap.size,0,none⟩) len len)) (w.alloc (.cells arr' e)):=by
    have C:(sizeOf e).run E.P w=.ok z w:=by simp_all[sizeOf,typeInfo]
    have c:(Array.map (λx=>(x.fst,a.eval x.snd)) ⟨ps⟩).toList=ps.map λp=>(p.1,a.eval p.2):=fN;have D:(zeroValue e).run E.P w=.ok J w:=by simp_all[zeroValue,typeInfo]
    have l: ¬(len * z>2^24):=fM;simp only[execOp,B,Instr.buildSlice];rw[aL,aL,aI X];simp only[aD];rw[aL,C];simp only[aD,l,aA];by_cases hlz:len * z=0;·rw[an hlz]at b;subst b;simp only[hlz,az,c];rw[hlz]at y;rw[aL,bz];simp only[aD,y];rfl
    ·rw[aj hlz]at b;subst b;simp only[hlz,aA,c];rw[aL,D];simp only[aD];rw[aL,bz];simp only[aD,y];rfl
   obtain⟨M,I,G⟩:=hs.newArr (cells:=arr') (e:=e) (pre:=f) (spare:=[]) (fz:=(0,0)) (by grind) T;refine⟨_,_,a.put o.dst _,_,m,λK Q V=>V,put_defers _ _ _,I,av _,?_⟩;refine M.put o.dst (.slice _ (cells:=f) (by simp[At.arr]) (by grind) ⟨av _,A⟩ (by rw[aN];exact q3.mono I.le) (λ_ h=>by simp_all)) ?_ ?_;·grind[VM.own,Lx]
   ·intro n;have:=G n;simp only[cnt,Lt,Nat.lt_irrefl,false_and,aA];omega
  grind
 grind
end
end Go.VM
