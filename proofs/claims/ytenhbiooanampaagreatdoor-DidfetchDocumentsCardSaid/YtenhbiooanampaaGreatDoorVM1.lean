import Derived.Calls
import Derived.Orders
import Derived.Tactics
import Derived.Deep.LoopGhost
import Derived.RowKit3
import Derived.StringKeys
import Derived.Laws.Strings
import Derived.Laws.Strings2
import Derived.Laws.StructEq
import Derived.Laws.Slices
import Derived.Laws.Tables
import Derived.Laws.Panics
import Derived.LaidEqlPtr
import Derived.Lib.Builder
import Derived.Laws.IdiomCopy
import Derived.Laws.Small
import Derived.Laws.BytesArg
import Derived.Laws.Runes
import Derived.Laws.Cover4
import Derived.Laws.Cells
import Derived.Laws.Append
import Derived.Laws.AppendOwn
set_option linter.defProp false
set_option linter.unusedSimpArgs false
set_option linter.unusedVariables false
namespace Go.VM
abbrev B8:=List UInt8
def fH{G:Prop}(h:G:=by omega):G:=h
def fI{G:Prop}(h:G:=by simp):G:=h
def fJ{G:Prop}(h:G:=by decide):G:=h
def fK{G:Prop}(h:G:=by simp;omega):G:=h
abbrev aa:=@Option.bind_some
abbrev ac:=@And.intro
abbrev ae:=@List.length_cons
abbrev ag:=@Option.some.injEq
abbrev ah:=@List.length_append
abbrev aj:=@if_neg
abbrev an:=@if_pos
abbrev ap:=@List.length_nil
abbrev aq:=@Bool.false_eq_true
abbrev au:=@decide_eq_true_eq
abbrev av:=@Nat.le_refl
abbrev aw:=@Bool.and_eq_true
abbrev az:=@if_false
abbrev aA:=@Prod.mk.injEq
abbrev aB:=@if_true
abbrev aC:=@Go.Result.andThen_ok
abbrev aD:=@Array.length_toList
abbrev aE:=@decide_eq_true
abbrev aF:=@List.map_cons
abbrev aG:=@Go.run_underlying
abbrev aH:=@List.append_assoc
abbrev aI:=@Go.Sem.run_bind
abbrev aJ:=@decide_eq_false
abbrev aK:=@Nat.zero_le
abbrev aL:=@List.all_eq_true
abbrev aM:=@List.mem_cons
abbrev aN:=@Option.map_some
abbrev aO:=@List.drop_zero
abbrev aP:=@List.length_drop
abbrev aQ:=@List.all_cons
abbrev aR:=@List.flatMap_cons
abbrev aS:=@List.getElem?_eq_getElem
abbrev aT:=@List.drop_drop
abbrev aU:=@Array.getElem?_eq_some_iff
abbrev aV:=@Option.map_eq_some_iff
abbrev aX:=@List.mem_cons_of_mem
abbrev aY:=@List.mem_singleton
abbrev aZ:=@List.mem_append
abbrev ba:=@List.take_of_length_le
abbrev bb:=@Nat.lt_or_ge
abbrev bc:=@List.takeWhile_cons
abbrev be:=@Bool.false_or
abbrev bf:=@beq_iff_eq
abbrev bg:=@List.length_take
abbrev bh:=@List.length_singleton
abbrev bk:=@List.mem_map
abbrev bl:=@List.takeWhile_append_dropWhile
abbrev bm:=@List.nil_append
abbrev bo:=@List.append_nil
abbrev br:=@congrArg
abbrev bu:=@Go.Sem.run_pure
abbrev bv:=@beq_eq_false_iff_ne
abbrev bw:=@List.eq_nil_of_length_eq_zero
abbrev bz:=@List.cons_append
abbrev bA:=@Bool.not_false
abbrev bB:=@Nat.sub_zero
abbrev bC:=@List.contains_cons
abbrev bD:=@Int.le_refl
abbrev bE:=@Bool.not_true
abbrev bF:=@Int.tdiv_eq_ediv_of_nonneg
abbrev bG:=@Nat.succ_mul
abbrev bH:=@Int.toNat_natCast
abbrev bI:=@Nat.zero_add
abbrev bJ:=@Nat.le_trans
abbrev bK:=@List.drop_of_length_le
abbrev bL:=@Nat.mul_le_mul_right
abbrev bM:=@List.take_append_drop
abbrev bN:=@List.drop_eq_getElem_cons
abbrev bO:=@Go.MapKept.run_getObj_map
abbrev bP:=@UInt8.ofNat_toNat
abbrev bQ:=@Bool.true_and
abbrev bR:=@List.length_pos_iff
abbrev bS:=@Option.map_none
abbrev bT:=@List.any_cons
abbrev bU:=@List.Sublist.refl
abbrev bV:=@List.getElem?_drop
abbrev bW:=@Nat.add_zero
abbrev bX:=@List.dropWhile_cons
abbrev bY:=@List.nodup_cons
abbrev bZ:=@List.length_set
abbrev b9:=@List.dropWhile_sublist
abbrev cc:=@List.getLast?_eq_some_getLast
abbrev cd:=@List.ext_getElem?
abbrev ce:=@Bool.or_eq_true
abbrev cf:=@List.set_cons_zero
abbrev ci:=@Option.isSome_some
abbrev cj:=@Option.getD_none
abbrev ck:=@List.getLast?_append
abbrev cm:=@List.getElem?_cons_zero
abbrev cn:=@List.getLast?_singleton
abbrev co:=@List.take_succ_cons
abbrev cp:=@List.length_map
abbrev cq:=@Nat.not_lt_zero
abbrev cr:=@List.length_replicate
abbrev cu:=@List.drop_append
abbrev cv:=@List.map_nil
abbrev cw:=@List.sum_cons
abbrev cx:=@List.mem_of_mem_drop
abbrev cy:=@List.drop_append_of_le_length
abbrev cA:=@Nat.add_mul
abbrev cB:=@List.Perm.swap
abbrev cC:=@List.Sublist.cons
abbrev cD:=@Option.some.inj
abbrev cE:=@List.map_append
abbrev cF:=@and_true
abbrev cG:=@Nat.add_assoc
abbrev cH:=@List.set_cons_succ
abbrev cI:=@List.Perm.cons
abbrev cJ:=@List.mem_append_right
abbrev cK:=@Array.getElem?_eq_getElem
abbrev cL:=@Go.MapKept.run_setObj_map
abbrev cM:=@List.sublist_append_right
abbrev cN:=@Bool.true_or
abbrev cO:=@not_true_eq_false
abbrev cP:=@List.getElem?_set_ne
abbrev cQ:=@List.mem_append_left
abbrev cR:=@List.dropLast_concat
abbrev cS:=@Bool.and_self
abbrev cT:=@List.set_comm
abbrev cU:=@List.eq_of_mem_replicate
abbrev cV:=@List.flatMap_append
abbrev cW:=@List.getD_cons_succ
abbrev cX:=@List.drop_left
abbrev cY:=@List.take_length
abbrev cZ:=@Option.some_or
abbrev c7:=@Option.bind_eq_some_iff
abbrev c8:=@List.range'_succ
abbrev c9:=@Go.mem_ready
abbrev da:=@Go.MapKept.run_checkKey
abbrev db:=@List.Perm.refl
abbrev dc:=@List.getElem?_take
abbrev de:=@Option.isNone_none
abbrev df:=@Go.MapKept.run_findKey
abbrev dg:=@List.cons.injEq
abbrev dh:=@Bool.and_true
abbrev di:=@Bool.or_false
abbrev dj:=@List.set_append_right
abbrev dk:=@List.eq_nil_or_concat
abbrev dl:=@List.getElem?_toArray
abbrev dm:=@List.getElem?_set
abbrev dn:=@List.size_toArray
abbrev dp:=@List.mem_of_mem_take
abbrev dq:=@List.isPrefixOf_iff_prefix
abbrev dr:=@List.take_zero
abbrev dt:=@Option.or_some
abbrev du:=@Nat.mod_eq_of_lt
abbrev dv:=@Nat.sub_self
abbrev dw:=@List.not_mem_nil
abbrev dx:=@List.filter_cons
abbrev dy:=@Option.getD_some
abbrev dz:=@List.perm_middle
abbrev dA:=@List.getLast?_eq_getElem?
abbrev dB:=@List.getElem?_eq_some_iff
abbrev dC:=@List.replicate_succ
abbrev dD:=@List.drop_succ_cons
abbrev dE:=@List.getD_cons_zero
abbrev dF:=@Go.run_firstCells_some
abbrev dG:=@Option.isSome_iff_exists
abbrev dH:=@UInt8.toNat_inj
abbrev dI:=@Ne.symm
abbrev dJ:=@Bool.true_eq_false
abbrev dK:=@List.mem_cons_self
abbrev dL:=@Option.isSome_none
abbrev dM:=@Go.run_loadCells_list
abbrev dN:=@List.map_replicate
abbrev dO:=@Nat.add_sub_cancel_left
abbrev dP:=@List.length_eq_zero_iff
abbrev dQ:=@of_decide_eq_true
abbrev dR:=@true_and
abbrev dS:=@List.all_nil
abbrev dT:=@Go.Value.slice.injEq
abbrev dU:=@List.singleton_append
abbrev dV:=@Go.run_convert_bytes_arg
abbrev dW:=@Array.getElem?_modify
abbrev dX:=@List.mem_flatMap
abbrev dY:=@beq_self_eq_true
abbrev dZ:=@List.isEmpty_iff
abbrev d5:=@Array.size_range
abbrev d6:=@Nat.le_of_not_lt
abbrev d7:=@List.mem_of_getElem?
abbrev d8:=@Bool.or_eq_false_iff
abbrev d9:=@Go.grownCap_ge
abbrev eb:=@List.range_eq_range'
abbrev ed:=@Go.MapKept.bytes_beq
abbrev ef:=@List.dropLast_concat_getLast
abbrev eg:=@Option.some_get
abbrev ek:=@ne_eq
abbrev eo:=@Array.toList_zipIdx
abbrev eu:=@List.mem_map_of_mem
abbrev ev:=@List.map_eq_nil_iff
abbrev ew:=@decide_false
abbrev ez:=@Nat.add_comm
abbrev eA:=@Nat.zero_mul
abbrev eB:=@List.mem_range
abbrev eC:=@Int.tmod_eq_emod_of_nonneg
abbrev eD:=@UInt8.toNat_ofNat'
abbrev eF:=@or_false
abbrev eG:=@List.take_left
abbrev eH:=@Int.toNat_zero
abbrev eI:=@List.getElem?_append_right
abbrev eJ:=@Go.growslice_fits
abbrev eK:=@Array.size_map
abbrev eL:=@Array.foldl_toList
abbrev eM:=@Nat.eq_zero_or_pos
abbrev eN:=@Go.run_findKey_eq
abbrev eO:=@List.mem_of_find?_eq_some
abbrev eP:=@List.mem_or_eq_of_mem_set
abbrev eQ:=@List.getElem?_append_left
abbrev eR:=@List.contains_nil
abbrev eS:=@Bool.not_eq_true'
abbrev eT:=@List.any_eq_false
abbrev eU:=@Array.size_append
abbrev eV:=@List.head?_dropWhile_not
abbrev eW:=@List.append_cancel_right
abbrev eX:=@List.prefix_iff_eq_take
abbrev eY:=@List.getLast_mem
abbrev eZ:=@Bool.not_eq_true
abbrev fa:=@Nat.lt_succ_self
abbrev fb:=@Go.World.size_alloc
abbrev fc:=@Nat.add_left_cancel_iff
abbrev fd:=@List.getElem?_cons_succ
abbrev fe:=@bne_iff_ne
abbrev ff:=@List.head?_eq_getElem?
abbrev fg:=@Go.wp_mono
abbrev fh:=@Nat.min_eq_left
abbrev fi:=@Nat.add_eq_left
abbrev fj:=@List.drop_left'
abbrev fk:=@Nat.le_of_ble_eq_true
abbrev fm:=@List.contains_iff_mem
abbrev fo:=@List.concat_eq_append
abbrev fp:=@List.getElem?_eq_none
abbrev fq:=@Array.getElem?_toList
abbrev fr:=@Nat.mul_le_mul
abbrev ft:=@decide_true
abbrev fu:=@List.take_take
abbrev fw:=@Option.map_map
abbrev fx:=@Go.strOfNums_data
abbrev fy:=@Go.getD_set_ne
abbrev fA:=@Nat.mul_one
abbrev fB:=@List.map_take
abbrev fC:=@Nat.mod_lt
abbrev fD:=@Bool.or_true
abbrev fE:=@List.map_map
abbrev fF:=@List.set_set
abbrev fG:=@not_or
def slr{α:Type}{l:List α}:List.Sublist l l:=bU l
def CX:Nat:=4611686018427387904
inductive AVal where|any|bool (b:Bool)|int (k:IntKind) (n:Int)|str (s:B8)|agg (cs:List AVal)|tuple (vs:List AVal)|slice (w:Nat) (xs:List AVal) (own:Bool)|ptr (i off:Nat)|nilp|cptr (cs:List AVal)|fn (f:Fn) (fst cap:List AVal)|nilFn|iface (t:TypeId) (v:AVal)|nilIface|iter (s:B8) (pos:Nat)|bsl (w i off len:Nat)|nself (i:Nat) (T:TypeId) (n:Nat)|buf (e:TypeId) (l:B8) (own:Bool)|bufp (e:TypeId) (l:B8) (own:Bool)|map (ks:List B8) (vs:List AVal)|slop (w:Nat) (xs:List AVal)|sh (i:Nat)|sptr (i w n:Nat)|gsl (w i len:Nat)|nmap|num (k:IntKind)|nbuf (e:TypeId)|trow (T:TypeId) (i len:Nat)|vec (w:Nat) (xs:List AVal)|vptr (i w n k:Nat)|hset (ks:List (B8×Int)) deriving Inhabited
mutual def AVal.strip:AVal->AVal|.agg cs=>.agg (stripL cs)|.tuple cs=>.tuple (stripL cs)|.slice w xs _=>.slice w xs false|.iter _ _=>.any|.map _ _=>.any|.slop _ _=>.any|.vec _ _=>.any|.hset _=>.any|.buf e l _=>.buf e l false|.bufp e l _=>.bufp e l false|v=>v def stripL:List AVal->List AVal|[]=>[]|x::xs=>x.strip::stripL xs end
def Kw (b:Nat):Value->Nat|.slice (some a) len cap=>if len<cap/\a.block=b then 1 else 0|_=>0
def Rs (b:Nat):Value->Nat|.pointer (some a)=>if a.block=b then 1 else 0|_=>0
def PK (b:Nat):Value->Nat|.map (some r)=>if r=b then 1 else 0|_=>0
def CO (b:Nat):Value->Nat|.slice (some a) _ _=>if a.block=b then 1 else 0|_=>0
theorem WH{b:Nat}{v:Value}:Kw b v<=CO b v:=by
 unfold Kw CO;split;·rename_i a len cap;split<;>simp_all
 omega
mutual def cnt (b:Nat):AVal->Value->Nat|.agg cs,.agg arr=>AP b cs arr.toList|.tuple cs,.tuple arr=>AP b cs arr.toList|.slice _ _ true,v=>Kw b v|.iter _ _,v=>Rs b v|.buf _ _ true,v=>CO b v|.bufp _ _ true,v=>Rs b v|.map _ _,v=>PK b v|.slop _ _,v=>CO b v|.vec _ _,v=>CO b v|.hset _,v=>PK b v|_,_=>0 def AP (b:Nat):List AVal->List Value->Nat|x::xs,v::vs=>cnt b x v+AP b xs vs|_,_=>0 end
structure Ghost where
  com:Nat->Option (List Value)
  bx:Nat->Option Nat
  bt:Nat->Option (TypeId×Nat)
  ct:Nat->Option TypeId
  sx:Nat->Option Value
def Ghost.le (O O':Ghost):Prop:=(∀b cs,O.com b=some cs->∃ds,O'.com b=some (cs++ds))/\(∀i b,O.bx i=some b->O'.bx i=some b)/\(∀i x,O.bt i=some x->O'.bt i=some x)/\(∀b e,O.ct b=some e->O'.ct b=some e)/\∀i v,O.sx i=some v->O'.sx i=some v
theorem Ghost.le_refl (O:Ghost):O.le O:=⟨λ_ cs h=>⟨[],by grind⟩,λ_ _ h=>h,λ_ _ h=>h,λ_ _ h=>h,λ_ _ h=>h⟩
theorem Ghost.le_trans{a b c:Ghost} (h:a.le b) (k:b.le c):a.le c:=⟨λn cs e=>by obtain⟨ds,e⟩:=h.1 n cs e;obtain⟨es,e⟩:=k.1 n _ e;grind,λi n e=>k.2.1 i n (h.2.1 i n e),λi n e=>k.2.2.1 i n (h.2.2.1 i n e),λi n e=>k.2.2.2.1 i n (h.2.2.2.1 i n e),λi n e=>k.2.2.2.2 i n (h.2.2.2.2 i n e)⟩
def u8s (l:B8):List AVal:=l.map λb=>.int .u8 b.toNat
def bufOK (O:Ghost) (e:TypeId):Value->Prop|.slice (some a) _ cap=>a.off=0/\a.spot=none/\cap≠0/\O.ct a.block=some e|.slice none len cap=>len=0/\cap=0|_=>False
theorem bufOK.mono{O O':Ghost} (le:O.le O'){e:TypeId}{v:Value} (h:bufOK O e v):bufOK O' e v:=by
 cases v with
 |slice p len cap=>cases p with|none=>exact h|some a=>exact⟨h.1,h.2.1,h.2.2.1,le.2.2.2.1 _ _ h.2.2.2⟩
 |_=>exact h
mutual inductive Rep (O:Ghost):AVal->Value->Prop|any (v:Value):Rep O .any v|bool (b:Bool):Rep O (.bool b) (.bool b)|int (k:IntKind) (n:Int):Rep O (.int k n) (.int k n)|str (b:ByteArray) (hn:b.data.toList.length<=CX):Rep O (.str b.data.toList) (.string b)|agg{cs:List AVal}{arr:Array Value} (h:RepL O cs arr.toList) (one: ∀v,v∈arr.toList->v.oneCell'=true):Rep O (.agg cs) (.agg arr)|tuple{cs:List AVal}{arr:Array Value} (h:RepL O cs arr.toList):Rep O (.tuple cs) (.tuple arr)|snil (w:Nat) (own:Bool) (a:Option Addr):Rep O (.slice w [] own) (.slice a 0 0)|slice{w:Nat}{xs:List AVal} (own:Bool){b off len cap:Nat}{cells:List Value} (hb:O.com b=some cells) (hl:xs.length=len) (hc:len<=cap/\len<=CX) (h:RepS O w xs (cells.drop off)) (hn:own=true->xs=[]->cap=0\/w=1):Rep O (.slice w xs own) (.slice (some ⟨b,off,none⟩) len cap)|ptr{i off b:Nat} (h:O.bx i=some b):Rep O (.ptr i off) (.pointer (some ⟨b,off,none⟩))|nilp:Rep O .nilp (.pointer none)|cptr{cs:List AVal}{b off:Nat}{cells vs rest:List Value} (hb:O.com b=some cells) (hd:cells.drop off=vs++rest) (h:RepL O cs vs) (ho: ∀v,v∈vs->v.oneCell'=true):Rep O (.cptr cs) (.pointer (some ⟨b,off,none⟩))|fn{f:Fn}{x y:List AVal}{p q:Array Value} (hx:RepL O x p.toList) (hy:RepL O y q.toList):Rep O (.fn f x y) (.func f p q)|nilFn:Rep O .nilFn .nilFunc|iface{t:TypeId}{x:AVal}{v:Value} (h:Rep O x v):Rep O (.iface t x) (.iface t v)|nilIface:Rep O .nilIface .nilIface|iter (s:B8) (pos:Nat) (v:Value):Rep O (.iter s pos) v|bsl{w i off off' len b cap:Nat} (h:O.bx i=some b) (ho:len=0\/off'=off) (hc:len<=cap/\len<=CX):Rep O (.bsl w i off len) (.slice (some ⟨b,off',none⟩) len cap)|nself{i n:Nat}{T:TypeId} (h:O.bt i=some (T,n)):Rep O (.nself i T n) (.pointer none)|buf{e:TypeId}{l:B8} (own:Bool){v:Value} (h:Rep O (.slice 1 (u8s l) own) v) (k:bufOK O e v):Rep O (.buf e l own) v|bnil (e:TypeId) (own:Bool):Rep O (.bufp e [] own) (.pointer none)|bufp{e:TypeId}{l:B8} (own:Bool){b:Nat}{cells:List Value} (hb:O.com b=some cells) (hc:O.ct b=some e) (h:RepS O 1 (u8s l) cells) (hl:l.length<=CX):Rep O (.bufp e l own) (.pointer (some ⟨b,0,none⟩))|map (ks:List B8) (vs:List AVal) (v:Value):Rep O (.map ks vs) v|slop{w:Nat}{xs:List AVal}{b off len cap:Nat}{cells:List Value} (hb:O.com b=some cells) (hl:xs.length+1=len) (hc:len<=cap/\len<=CX) (h:RepS O w xs (cells.drop off)):Rep O (.slop w xs) (.slice (some ⟨b,off,none⟩) len cap)|sh{i:Nat}{v:Value} (h:O.sx i=some v) (k:v.cells= #[v]/\v.oneCell'=true):Rep O (.sh i) v|nmap:Rep O .nmap (.map none)|num (k:IntKind) (n:Int):Rep O (.num k) (.int k n)|nbuf (e:TypeId):Rep O (.nbuf e) (.slice none 0 0)|trow{i len b cap n:Nat}{T:TypeId} (h:O.bx i=some b) (ht:O.bt i=some (T,n)) (hc:len<=cap/\len<=CX) (hz:cap=n):Rep O (.trow T i len) (.slice (some ⟨b,0,none⟩) len cap)|vec (w:Nat) (xs:List AVal) (v:Value):Rep O (.vec w xs) v|hset (ks:List (B8×Int)) (v:Value):Rep O (.hset ks) v|vptr{i w n k b off len cap:Nat} (h:O.sx i=some (.slice (some ⟨b,off,none⟩) len cap)):Rep O (.vptr i w n k) (.pointer (some ⟨b,off+(n * w+k),none⟩))|gsl{w i len b cap n:Nat}{T:TypeId} (h:O.bx i=some b) (ht:O.bt i=some (T,n)) (hc:len<=cap/\len<=CX) (hz:cap * w=n):Rep O (.gsl w i len) (.slice (some ⟨b,0,none⟩) len cap)|sptr{i w n b off len cap:Nat} (h:O.sx i=some (.slice (some ⟨b,off,none⟩) len cap)):Rep O (.sptr i w n) (.pointer (some ⟨b,off+n * w,none⟩)) inductive RepL (O:Ghost):List AVal->List Value->Prop|nil:RepL O [] []|cons{x:AVal}{v:Value}{xs:List AVal}{vs:List Value} (h:Rep O x v) (t:RepL O xs vs):RepL O (x::xs) (v::vs) inductive RepS (O:Ghost):Nat->List AVal->List Value->Prop|nil (w:Nat) (cs:List Value):RepS O w [] cs|cons{w:Nat}{x:AVal}{v:Value}{xs:List AVal}{cs:List Value} (h:Rep O x v) (hw:v.cells.size=w/\∀c,c∈v.cells.toList->c.oneCell'=true) (t:RepS O w xs cs):RepS O w (x::xs) (v.cells.toList++cs) end
theorem RepS.more{O:Ghost}{w:Nat}{xs:List AVal}{cs:List Value} (h:RepS O w xs cs) (ds:List Value):RepS O w xs (cs++ds):=by induction xs generalizing cs with|nil=>exact .nil _ _|cons x xs ih=>cases h with|cons h hw t=>rw[aH];exact .cons h hw (ih t)
mutual theorem Rep.mono{O O':Ghost} (le:O.le O'): {x:AVal}->{v:Value}->Rep O x v->Rep O' x v|_,_,.any v=>.any v|_,_,.bool b=>.bool b|_,_,.int k n=>.int k n|_,_,.str b h=>.str b h|_,_,.agg h o=>.agg (RepL.mono le h) o|_,_,.tuple h=>.tuple (RepL.mono le h)|_,_,.snil w o a=>.snil w o a|_,_,.slice o hb hl hc h hn=>by obtain⟨ds,hb'⟩:=le.1 _ _ hb;refine .slice o hb' hl hc ?_ hn;rw[cu];exact(RepS.mono le h).more _|_,_,.ptr h=>.ptr (le.2.1 _ _ h)|_,_,.nilp=>.nilp|_,_,.cptr (cells:=cells) (off:=off) (rest:=rest) hb hd h ho=>by obtain⟨ds,hb'⟩:=le.1 _ _ hb;exact .cptr (rest:=rest++ds.drop (off-cells.length)) hb' (by grind[List.drop_append]) (RepL.mono le h) ho|_,_,.fn h k=>.fn (RepL.mono le h) (RepL.mono le k)|_,_,.nilFn=>.nilFn|_,_,.iface h=>.iface (Rep.mono le h)|_,_,.nilIface=>.nilIface|_,_,.iter s p v=>.iter s p v|_,_,.bsl h ho hc=>.bsl (le.2.1 _ _ h) ho hc|_,_,.nself h=>.nself (le.2.2.1 _ _ h)|_,_,.buf o h k=>.buf o (Rep.mono le h) (k.mono le)|_,_,.bnil e o=>.bnil e o|_,_,.bufp o hb hc h hl=>by obtain⟨ds,hb'⟩:=le.1 _ _ hb;exact .bufp o hb' (le.2.2.2.1 _ _ hc) ((RepS.mono le h).more _) hl|_,_,.map ks vs v=>.map ks vs v|_,_,.slop hb hl hc h=>by obtain⟨ds,hb'⟩:=le.1 _ _ hb;refine .slop hb' hl hc ?_;rw[cu];exact(RepS.mono le h).more _|_,_,.sh h k=>.sh (le.2.2.2.2 _ _ h) k|_,_,.sptr h=>.sptr (le.2.2.2.2 _ _ h)|_,_,.nmap=>.nmap|_,_,.num k n=>.num k n|_,_,.nbuf e=>.nbuf e|_,_,.trow h ht hc hz=>.trow (le.2.1 _ _ h) (le.2.2.1 _ _ ht) hc hz|_,_,.vec w xs v=>.vec w xs v|_,_,.hset ks v=>.hset ks v|_,_,.vptr h=>.vptr (le.2.2.2.2 _ _ h)|_,_,.gsl h ht hc hz=>.gsl (le.2.1 _ _ h) (le.2.2.1 _ _ ht) hc hz theorem RepL.mono{O O':Ghost} (le:O.le O'): {xs:List AVal}->{vs:List Value}->RepL O xs vs->RepL O' xs vs|_,_,.nil=>.nil|_,_,.cons h t=>.cons (Rep.mono le h) (RepL.mono le t) theorem RepS.mono{O O':Ghost} (le:O.le O'): {w:Nat}->{xs:List AVal}->{cs:List Value}->RepS O w xs cs->RepS O' w xs cs|_,_,_,.nil w cs=>.nil w cs|_,_,_,.cons h hw t=>.cons (Rep.mono le h) hw (RepS.mono le t) end
mutual theorem Rep.strip{O:Ghost}: {x:AVal}->{v:Value}->Rep O x v->Rep O x.strip v|_,_,.any v=>.any v|_,_,.bool b=>.bool b|_,_,.int k n=>.int k n|_,_,.str b h=>.str b h|_,_,.agg h o=>by rw[AVal.strip];exact .agg (RepL.strip h) o|_,_,.tuple h=>by rw[AVal.strip];exact .tuple (RepL.strip h)|_,_,.snil w o a=>.snil w _ a|_,_,.slice o hb hl hc h hn=>.slice _ hb hl hc h (λh=>by cases h)|_,_,.ptr h=>.ptr h|_,_,.nilp=>.nilp|_,_,.cptr hb hd h ho=>.cptr hb hd h ho|_,_,.fn h k=>.fn h k|_,_,.nilFn=>.nilFn|_,_,.iface h=>.iface h|_,_,.nilIface=>.nilIface|_,_,.iter s p v=>by rw[AVal.strip];exact .any _|_,_,.bsl h ho hc=>.bsl h ho hc|_,_,.nself h=>.nself h|_,_,.buf o h k=>by have q:=Rep.strip h;rw[AVal.strip]at q;exact .buf _ q k|_,_,.bnil e o=>.bnil e _|_,_,.bufp o hb hc h hl=>.bufp _ hb hc h hl|_,_,.map ks vs v=>by rw[AVal.strip];exact .any _|_,_,.slop hb hl hc h=>by rw[AVal.strip];exact .any _|_,_,.sh h k=>.sh h k|_,_,.sptr h=>.sptr h|_,_,.gsl h ht hc hz=>.gsl h ht hc hz|_,_,.nmap=>.nmap|_,_,.num k n=>.num k n|_,_,.nbuf e=>.nbuf e|_,_,.trow h ht hc hz=>.trow h ht hc hz|_,_,.vec w xs v=>by rw[AVal.strip];exact .any _|_,_,.hset ks v=>by rw[AVal.strip];exact .any _|_,_,.vptr h=>.vptr h theorem RepL.strip{O:Ghost}: {xs:List AVal}->{vs:List Value}->RepL O xs vs->RepL O (stripL xs) vs|_,_,.nil=>by rw[stripL];exact .nil|_,_,.cons h t=>by rw[stripL];exact .cons (Rep.strip h) (RepL.strip t) end
mutual theorem Iw (b:Nat):(x:AVal)->(v:Value)->cnt b x.strip v=0|.agg cs,v=>by rw[AVal.strip];cases v<;>simp[cnt];exact Ig b cs _|.tuple cs,v=>by rw[AVal.strip];cases v<;>simp[cnt];exact Ig b cs _|.slice w xs o,v=>by grind[AVal.strip,cnt]|.any,_=>by simp[AVal.strip,cnt]|.bool _,_=>by simp[AVal.strip,cnt]|.int _ _,_=>by simp[AVal.strip,cnt]|.str _,_=>by simp[AVal.strip,cnt]|.ptr _ _,_=>by simp[AVal.strip,cnt]|.nilp,_=>by simp[AVal.strip,cnt]|.cptr _,_=>by simp[AVal.strip,cnt]|.fn _ _ _,_=>by simp[AVal.strip,cnt]|.nilFn,_=>by simp[AVal.strip,cnt]|.iface _ _,_=>by simp[AVal.strip,cnt]|.nilIface,_=>by simp[AVal.strip,cnt]|.iter _ _,_=>by simp[AVal.strip,cnt]|.bsl _ _ _ _,_=>by simp[AVal.strip,cnt]|.nself _ _ _,_=>by simp[AVal.strip,cnt]|.buf _ _ _,_=>by simp[AVal.strip,cnt]|.bufp _ _ _,_=>by simp[AVal.strip,cnt]|.map _ _,_=>by simp[AVal.strip,cnt]|.slop _ _,_=>by simp[AVal.strip,cnt]|.sh _,_=>by simp[AVal.strip,cnt]|.sptr _ _ _,_=>by simp[AVal.strip,cnt]|.gsl _ _ _,_=>by simp[AVal.strip,cnt]|.nmap,_=>by simp[AVal.strip,cnt]|.num _,_=>by simp[AVal.strip,cnt]|.nbuf _,_=>by simp[AVal.strip,cnt]|.trow _ _ _,_=>by simp[AVal.strip,cnt]|.vptr _ _ _ _,_=>by simp[AVal.strip,cnt]|.vec _ _,_=>by simp[AVal.strip,cnt]|.hset _,_=>by simp[AVal.strip,cnt] theorem Ig (b:Nat):(xs:List AVal)->(vs:List Value)->AP b (stripL xs) vs=0|[],_=>by simp[stripL,AP]|x::xs,[]=>by simp[stripL,AP]|x::xs,v::vs=>by rw[stripL,AP,Iw b x v,Ig b xs vs] end
def Km (O:Ghost) (w:World) (wd:Nat):Value->Prop|.slice (some a) len cap=>len<cap->∃arr e lo hi cells,w.heap[a.block]?=some (.cells arr e (lo,hi))/\(∀j,j<arr.size->¬(lo<=j/\j<hi))/\a.spot=none/\O.com a.block=some cells/\cells.length=a.off+len * wd/\a.off+cap * wd<=arr.size|_=>True
theorem Zd{O O':Ghost}{w w':World}{wd:Nat}{v:Value} (h:Km O w wd v) (k: ∀b,1<=Kw b v->w'.heap[b]?=w.heap[b]?/\O'.com b=O.com b):Km O' w' wd v:=by unfold Km at *;split<;>simp_all[Kw]
def AlX (w:World) (s:B8) (pos:Nat) (v:Value):Prop:= ∃b sb,v=.pointer (some ⟨b,0,none⟩)/\sb.data.toList=s/\w.heap[b]?=some (.stringIter sb pos)
theorem AWc{w w':World}{s:B8}{pos:Nat}{v:Value} (h:AlX w s pos v) (k: ∀b,1<=Rs b v->w'.heap[b]?=w.heap[b]?):AlX w' s pos v:=by obtain⟨b,sb,rfl,h1,h2⟩:=h;exact⟨b,sb,rfl,h1,by grind[Rs]⟩
def ABm (O:Ghost) (w:World) (c:Nat->Nat):Prop:= ∀b,1<=c b->(∃cells,O.com b=some cells)/\ ∃o,w.heap[b]?=some o
theorem Zp{O O':Ghost}{w w':World}{c:Nat->Nat} (h:ABm O w c) (k: ∀b,1<=c b->w'.heap[b]?=w.heap[b]?/\O'.com b=O.com b):ABm O' w' c:=λb hb=>by rw[(k b hb).1,(k b hb).2];exact h b hb
inductive RepK (O:Ghost):List B8->List AVal->List MapEntry->Prop|nil:RepK O [] [] []|cons{b:ByteArray}{x:AVal}{e:MapEntry}{ks:List B8}{vs:List AVal}{es:List MapEntry} (hk:e.key=.string b) (hv:Rep O x e.val) (t:RepK O ks vs es):RepK O (b.data.toList::ks) (x::vs) (e::es)
theorem RepK.mono{O O':Ghost} (le:O.le O'){ks:List B8}{vs:List AVal}{es:List MapEntry} (h:RepK O ks vs es):RepK O' ks vs es:=by induction h with|nil=>exact .nil|cons hk hv _ ih=>exact .cons hk (hv.mono le) ih
def AH8 (O:Ghost) (w:World) (ks:List B8) (vs:List AVal) (v:Value):Prop:= ∃b es clock,v=.map (some b)/\w.heap[b]?=some (.map es clock)/\RepK O ks vs es.toList
theorem AUy{O O':Ghost}{w w':World}{ks:List B8}{vs:List AVal}{v:Value} (h:AH8 O w ks vs v) (le:O.le O') (k: ∀b,1<=PK b v->w'.heap[b]?=w.heap[b]?):AH8 O' w' ks vs v:=by obtain⟨b,es,clock,rfl,h1,h2⟩:=h;exact⟨b,es,clock,rfl,by grind[PK],h2.mono le⟩
def Rq (O:Ghost) (w:World) (wd n:Nat):Value->Prop|.slice (some a) len cap=>∃arr e lo hi cells,w.heap[a.block]?=some (.cells arr e (lo,hi))/\(∀j,j<arr.size->¬(lo<=j/\j<hi))/\a.spot=none/\O.com a.block=some cells/\cells.length=a.off+n * wd/\a.off+cap * wd<=arr.size/\len=n+1|_=>False
theorem AH1{O O':Ghost}{w w':World}{wd n:Nat}{v:Value} (h:Rq O w wd n v) (k: ∀b,1<=CO b v->w'.heap[b]?=w.heap[b]?/\O'.com b=O.com b):Rq O' w' wd n v:=by
 unfold Rq at *;split;·rename_i a len cap;simp only[CO]at h k;obtain⟨h1,h2⟩:=k a.block fI;rw[h1,h2];exact h
 ·split at h<;>first|exact h.elim|(rename_i hx;exact absurd rfl (hx _ _ _))
inductive RepH:List (B8×Int)->List MapEntry->Prop|nil:RepH [] []|cons{b:ByteArray}{p:Int}{e:MapEntry}{ks:List (B8×Int)}{es:List MapEntry} (hn:b.data.toList.length<=CX) (hk:e.key=.agg #[.string b,.int .i64 p]) (hv:e.val=.bool true) (t:RepH ks es):RepH ((b.data.toList,p)::ks) (e::es)
def ArG (w:World) (ks:List (B8×Int)) (v:Value):Prop:= ∃b es clock,v=.map (some b)/\w.heap[b]?=some (.map es clock)/\RepH ks es.toList
def Tz (O:Ghost) (w:World) (wd:Nat) (xs:List AVal) (v:Value):Prop:=(xs=[]/\v=.slice none 0 0)\/∃b off cap arr e lo hi,v=.slice (some ⟨b,off,none⟩) xs.length cap/\w.heap[b]?=some (.cells arr e (lo,hi))/\(∀j,j<arr.size->¬(lo<=j/\j<hi))/\O.com b=some []/\xs.length<=cap/\xs.length<=CX/\off+cap * wd<=arr.size/\RepS O wd xs (arr.toList.drop off)
theorem AQE{O O':Ghost}{w w':World}{wd:Nat}{xs:List AVal}{v:Value} (h:Tz O w wd xs v) (le:O.le O') (k: ∀b,1<=CO b v->w'.heap[b]?=w.heap[b]?/\O'.com b=O.com b):Tz O' w' wd xs v:=by
 rcases h with h|⟨b,off,cap,arr,e,lo,hi,rfl,h1,h2,h3,h4,h5,h6,h7⟩;·exact .inl h
 ·obtain⟨k1,k2⟩:=k b (by simp[CO]);exact .inr ⟨b,off,cap,arr,e,lo,hi,rfl,by rw[k1];exact h1,h2,by rw[k2];exact h3,h4,h5,h6,h7.mono le⟩
mutual def own (O:Ghost) (w:World):AVal->Value->Prop|.agg cs,.agg arr=>ownL O w cs arr.toList|.tuple cs,.tuple arr=>ownL O w cs arr.toList|.slice wd _ true,v=>Km O w wd v|.iter s pos,v=>AlX w s pos v|.buf _ _ true,v=>Km O w 1 v/\ABm O w λb=>CO b v|.bufp _ _ true,v=>ABm O w λb=>Rs b v|.map ks vs,v=>AH8 O w ks vs v|.slop wd xs,v=>Rq O w wd xs.length v|.vec wd xs,v=>Tz O w wd xs v|.hset ks,v=>ArG w ks v|_,_=>True def ownL (O:Ghost) (w:World):List AVal->List Value->Prop|x::xs,v::vs=>own O w x v/\ownL O w xs vs|_,_=>True end
mutual theorem MO (O:Ghost) (w:World):(x:AVal)->(v:Value)->own O w x.strip v|.agg cs,v=>by rw[AVal.strip];cases v<;>simp only[own];exact J8 O w cs _|.tuple cs,v=>by rw[AVal.strip];cases v<;>simp only[own];exact J8 O w cs _|.slice _ _ o,v=>by grind[AVal.strip,own]|.any,_=>by simp[AVal.strip,own]|.bool _,_=>by simp[AVal.strip,own]|.int _ _,_=>by simp[AVal.strip,own]|.str _,_=>by simp[AVal.strip,own]|.ptr _ _,_=>by simp[AVal.strip,own]|.nilp,_=>by simp[AVal.strip,own]|.cptr _,_=>by simp[AVal.strip,own]|.fn _ _ _,_=>by simp[AVal.strip,own]|.nilFn,_=>by simp[AVal.strip,own]|.iface _ _,_=>by simp[AVal.strip,own]|.nilIface,_=>by simp[AVal.strip,own]|.iter _ _,_=>by simp[AVal.strip,own]|.bsl _ _ _ _,_=>by simp[AVal.strip,own]|.nself _ _ _,_=>by simp[AVal.strip,own]|.buf _ _ _,_=>by simp[AVal.strip,own]|.bufp _ _ _,_=>by simp[AVal.strip,own]|.map _ _,_=>by simp[AVal.strip,own]|.slop _ _,_=>by simp[AVal.strip,own]|.sh _,_=>by simp[AVal.strip,own]|.sptr _ _ _,_=>by simp[AVal.strip,own]|.gsl _ _ _,_=>by simp[AVal.strip,own]|.nmap,_=>by simp[AVal.strip,own]|.num _,_=>by simp[AVal.strip,own]|.nbuf _,_=>by simp[AVal.strip,own]|.trow _ _ _,_=>by simp[AVal.strip,own]|.vptr _ _ _ _,_=>by simp[AVal.strip,own]|.vec _ _,_=>by simp[AVal.strip,own]|.hset _,_=>by simp[AVal.strip,own] theorem J8 (O:Ghost) (w:World):(xs:List AVal)->(vs:List Value)->ownL O w (stripL xs) vs|[],_=>by simp[stripL,ownL]|x::xs,[]=>by simp[stripL,ownL]|x::xs,v::vs=>by rw[stripL,ownL];exact⟨MO O w x v,J8 O w xs vs⟩ end
mutual theorem ATk{O O':Ghost}{w w':World} (le:O.le O'):(x:AVal)->(v:Value)->own O w x v->(∀b,1<=cnt b x v->w'.heap[b]?=w.heap[b]?/\O'.com b=O.com b)->own O' w' x v|.agg cs,v,h,k=>by cases v<;>simp only[own,cnt]at *;exact Bv le cs _ h k|.tuple cs,v,h,k=>by cases v<;>simp only[own,cnt]at *;exact Bv le cs _ h k|.slice wd xs o,v,h,k=>by cases o<;>grind[own,cnt,Zd]|.any,_,_,_=>by simp[own]|.bool _,_,_,_=>by simp[own]|.int _ _,_,_,_=>by simp[own]|.str _,_,_,_=>by simp[own]|.ptr _ _,_,_,_=>by simp[own]|.nilp,_,_,_=>by simp[own]|.cptr _,_,_,_=>by simp[own]|.fn _ _ _,_,_,_=>by simp[own]|.nilFn,_,_,_=>by simp[own]|.iface _ _,_,_,_=>by simp[own]|.nilIface,_,_,_=>by simp[own]|.bsl _ _ _ _,_,_,_=>by simp[own]|.nself _ _ _,_,_,_=>by simp[own]|.buf _ _ o,v,h,k=>by cases o<;>grind[own,cnt,Zd,Nat.le_trans,WH,Zp]|.bufp _ _ o,v,h,k=>by cases o<;>grind[own,cnt,Zp]|.sh _,_,_,_=>by simp[own]|.sptr _ _ _,_,_,_=>by simp[own]|.gsl _ _ _,_,_,_=>by simp[own]|.nmap,_,_,_=>by simp[own]|.num _,_,_,_=>by simp[own]|.nbuf _,_,_,_=>by simp[own]|.trow _ _ _,_,_,_=>by simp[own]|.vptr _ _ _ _,_,_,_=>by simp[own]|.hset ks,v,h,k=>by simp only[own,cnt]at *;obtain⟨b,es,clock,rfl,h1,h2⟩:=h;exact⟨b,es,clock,rfl,by rw[(k b (by simp[PK])).1];exact h1,h2⟩|.vec wd xs,v,h,k=>by simp only[own,cnt]at *;exact AQE h le k|.map ks vs,v,h,k=>by grind[own,cnt,AUy]|.slop wd xs,v,h,k=>by grind[own,cnt,AH1]|.iter s p,v,h,k=>by grind[own,cnt,AWc] theorem Bv{O O':Ghost}{w w':World} (le:O.le O'):(xs:List AVal)->(vs:List Value)->ownL O w xs vs->(∀b,1<=AP b xs vs->w'.heap[b]?=w.heap[b]?/\O'.com b=O.com b)->ownL O' w' xs vs|[],_,_,_=>by simp[ownL]|x::xs,[],_,_=>by simp[ownL]|x::xs,v::vs,h,k=>by rw[ownL]at *;exact⟨ATk le x v h.1 (λb hb=>k b (by grind[AP])),Bv le xs vs h.2 (λb hb=>k b (by grind[AP]))⟩ end
end Go.VM
namespace Go.VM
structure Env where
  P:Program
  T:Nat->Option (List AVal)
structure St where
  m:List (Nat×List AVal)
  next:Nat
def Ag:List (Nat×List AVal)->Nat->Option (List AVal)|[],_=>none|(j,c)::m,i=>if i=j then some c else Ag m i
def A7:List (Nat×List AVal)->Nat->List AVal->List (Nat×List AVal)|[],_,_=>[]|(j,c)::m,i,x=>if i=j then(j,x)::m else(j,c)::A7 m i x
def Lj{m:List (Nat×List AVal)}{i:Nat}{c:List AVal} (h:Ag m i=some c):(i,c)∈m:=by induction m<;>grind[Ag,List.mem_cons_of_mem]
def AEd (m:List (Nat×List AVal)) (i:Nat) (x:List AVal):(A7 m i x).map (·.1)=m.map (·.1):=by induction m<;>grind[A7]
def hcells (w:World) (b:Nat):List Value:=match w.heap[b]? with|some (.cells arr _ _)=>arr.toList|_=>[]
def DK (O:Ghost) (w:World) (b:Nat) (p:Nat×List AVal):Nat:=match O.bx p.1 with|some k=>AP b p.2 (hcells w k)|none=>match O.sx p.1 with|some v=>AP b p.2 [v]|none=>0
def Ap (O:Ghost) (w:World) (b:Nat):List (Nat×List AVal)->Nat|[]=>0|p::m=>DK O w b p+Ap O w b m
structure BoxOK (O:Ghost) (w:World) (p:Nat×List AVal) (b:Nat) (arr:Array Value) (e:TypeId):Prop where
  bx:O.bx p.1=some b
  heap: ∃lo hi,w.heap[b]?=some (.cells arr e (lo,hi))/\ ∀j,j<arr.size-> ¬(lo<=j/\j<hi)
  rep:RepL O p.2 (arr.toList.take p.2.length)
  own:ownL O w p.2 arr.toList
  com:O.com b=none
  one: ∀v,v∈arr.toList.take p.2.length->v.oneCell'=true
  ty: ∀T n,O.bt p.1=some (T,n)->e=T/\arr.size=n
structure ShOK (O:Ghost) (w:World) (p:Nat×List AVal) (v:Value):Prop where
  sx:O.sx p.1=some v
  bx:O.bx p.1=none
  rep:RepL O p.2 [v]
  own:ownL O w p.2 [v]
theorem Nq (b:Nat): ∀(xs:List AVal) (vs:List Value),AP b xs (vs.take xs.length)=AP b xs vs|[],_=>by simp[AP]|x::xs,[]=>by simp|x::xs,v::vs=>by simp only[ae,co,AP,Nq b xs vs]
def Nt (O:Ghost) (w:World): ∀(xs:List AVal) (vs:List Value),ownL O w xs (vs.take xs.length)<->ownL O w xs vs|[],_=>by simp[ownL]|x::xs,[]=>by simp|x::xs,v::vs=>by simp only[ae,co,ownL,Nt O w xs vs]
theorem M6: ∀xs:List AVal,(stripL xs).length=xs.length|[]=>by simp[stripL]|x::xs=>by simp[stripL,M6 xs]
structure Sim (E:Env) (F:Nat->Nat) (O:Ghost) (st:St) (w:World) (af:List AVal) (tm:List Value):Prop where
  com_ok: ∀b cs,O.com b=some cs-> ∃arr e fz,w.heap[b]?=some (.cells arr e fz)/\(∃ds,arr.toList=cs++ds)/\ ∀T,O.ct b=some T->e=T
  box_ok: ∀p,p∈st.m->(∃b arr e,BoxOK O w p b arr e)\/ ∃v,ShOK O w p v
  sx_next: ∀i v,O.sx i=some v->i<st.next/\O.bx i=none
  keys:(st.m.map (·.1)).Nodup
  inj: ∀i j b,O.bx i=some b->O.bx j=some b->i=j
  bx_lt: ∀i b,O.bx i=some b->b<w.heap.size
  bx_next: ∀i b,O.bx i=some b->i<st.next
  tyd:(∀i x,O.bt i=some x-> ∃b,O.bx i=some b)/\ ∀b e,O.ct b=some e-> ∃cs,O.com b=some cs
  bx_F: ∀p b,p∈st.m->O.bx p.1=some b->F b=0
  F_lt: ∀b,w.heap.size<=b->F b=0
  glob: ∀g cs,E.T g=some cs->Rep O (.cptr cs) (.pointer (some ⟨g,0,none⟩))
  rep:RepL O af tm
  own:ownL O w af tm
  tok: ∀b,F b+AP b af tm+Ap O w b st.m<=1
structure Ext (F:Nat->Nat) (O:Ghost) (w:World) (O':Ghost) (w':World):Prop where
  le:O.le O'
  keep: ∀b,1<=F b->w'.heap[b]?=w.heap[b]?/\O'.com b=O.com b
  size:w.heap.size<=w'.heap.size
  os:w'.os=w.os
  output:w'.output=w.output
  tape:w'.tape=w.tape
def Ext.refl (F:Nat->Nat) (O:Ghost) (w:World):Ext F O w O w:=⟨O.le_refl,λ_ _=>⟨rfl,rfl⟩,av _,rfl,rfl,rfl⟩
theorem Ext.trans{F:Nat->Nat}{a b c:Ghost}{u v w:World} (h:Ext F a u b v) (k:Ext F b v c w):Ext F a u c w:=⟨Ghost.le_trans h.le k.le,λn hn=>⟨(k.keep n hn).1.trans (h.keep n hn).1,(k.keep n hn).2.trans (h.keep n hn).2⟩,bJ h.size k.size,k.os.trans h.os,k.output.trans h.output,k.tape.trans h.tape⟩
def Ext.less{F G:Nat->Nat}{a b:Ghost}{u v:World} (h:Ext F a u b v) (le: ∀n,G n<=F n):Ext G a u b v:=⟨h.le,λn hn=>h.keep n (bJ hn (le n)),h.size,h.os,h.output,h.tape⟩
abbrev APost:=Exit->List AVal->St->Prop
def lift (E:Env) (F:Nat->Nat) (O:Ghost) (w:World) (n:Nat) (Q:APost):Exit->Act->World->Prop:=λe a' w'=>(match e with|.normal|.exit _|.ret=>True|_=>False)/\a'.defers=[]/\∃O' af' st',Ext F O w O' w'/\n<=st'.next/\Sim E F O' st' w' af' a'.tmps.toList/\Q e af' st'
structure AWp (E:Env) (c:Code) (Q:APost) (af:List AVal) (st:St):Prop where go: ∀(F:Nat->Nat) (O:Ghost) (w:World) (a:Act),a.defers=[]->Sim E F O st w af a.tmps.toList->c.wp E.P (lift E F O w st.next Q) a w
structure ACall (E:Env) (f:FuncId) (args:List AVal) (st:St) (Q:AVal->St->Prop):Prop where go: ∀(F:Nat->Nat) (O:Ghost) (w:World) (cargs:Array Value),Sim E F O st w args cargs.toList->Calls E.P f cargs w λe w'=>∃v,e=.returned v/\∃O' r st',Ext F O w O' w'/\st.next<=st'.next/\Sim E F O' st' w' [r] [v]/\Q r st'
def ACall.mono{E:Env}{f:FuncId}{args:List AVal}{st:St}{Q Q':AVal->St->Prop} (h:ACall E f args st Q) (hq: ∀r st',st.next<=st'.next->Q r st'->Q' r st'):ACall E f args st Q':=⟨λF O w cargs hs=>(h.go F O w cargs hs).mono λ_ _ ⟨v,he,O',r,st',h1,h2,h3,h4⟩=>⟨v,he,O',r,st',h1,h2,h3,hq r st' h2 h4⟩⟩
def AWp.mono{E:Env}{c:Code}{Q Q':APost}{af:List AVal}{st:St} (h:AWp E c Q af st) (hq: ∀e af' st',st.next<=st'.next->Q e af' st'->Q' e af' st'):AWp E c Q' af st:=⟨λF O w a hd hs=>fg (h.go F O w a hd hs) λ_ _ _ ⟨h0,h1,O',af',st',h2,h3,h4,h5⟩=>⟨h0,h1,O',af',st',h2,h3,h4,hq _ _ _ h3 h5⟩⟩
def Wx{E:Env}{F:Nat->Nat}{O O₁:Ghost}{w w₁:World}{n n₁:Nat}{Q:APost} (hx:Ext F O w O₁ w₁) (hn:n<=n₁){e:Exit}{a':Act}{w':World} (h:lift E F O₁ w₁ n₁ Q e a' w'):lift E F O w n Q e a' w':=by obtain⟨h0,h1,O',af',st',h2,h3,h4,h5⟩:=h;exact⟨h0,h1,O',af',st',hx.trans h2,bJ hn h3,h4,h5⟩
section rules
variable{E:Env}{Q:APost}{af:List AVal}{st:St}
def AS6 (h:Q .normal af st):AWp E .skip Q af st:=⟨λF O w a hd hs=>wp_skip ⟨trivial,hd,O,af,st,Ext.refl _ _ _,av _,hs,h⟩⟩
def Acs{l:Nat} (h:Q .normal af st):AWp E (.label l) Q af st:=⟨λF O w a hd hs=>wp_label ⟨trivial,hd,O,af,st,Ext.refl _ _ _,av _,hs,h⟩⟩
def AZ6 (h:Q .ret af st):AWp E .ret Q af st:=⟨λF O w a hd hs=>wp_ret ⟨trivial,hd,O,af,st,Ext.refl _ _ _,av _,hs,h⟩⟩
def AUs{id:Nat} (h:Q (.exit id) af st):AWp E (.exit id) Q af st:=⟨λF O w a hd hs=>wp_exit ⟨trivial,hd,O,af,st,Ext.refl _ _ _,av _,hs,h⟩⟩
def Apk (E:Env) (y:Code) (Q:APost):APost:=λe af st=>match e with|.normal=>AWp E y Q af st|e=>Q e af st
def Va{x y:Code} (h:AWp E x (Apk E y Q) af st):AWp E (.seq x y) Q af st:=by constructor;intro F O w a hd hs;refine wp_seq (fg (h.go F O w a hd hs) ?_);intro e a' w' hq;cases e with|normal=>obtain⟨_,h1,O',af',st',h2,h3,h4,h5⟩:=hq;exact fg (h5.go F O' w' a' h1 h4) λ_ _ _ q=>Wx h2 h3 q|_=>exact hq
def AFj{id:Nat}{c:Code} (h:AWp E c (λe af st=>match e with|.exit id'=>if id'=id then Q .normal af st else Q (.exit id') af st|e=>Q e af st) af st):AWp E (.block id c) Q af st:=by
 constructor;intro F O w a hd hs;refine wp_block (fg (h.go F O w a hd hs) ?_);intro e a' w' hq;cases e with
 |exit id'=>
  obtain⟨_,h1,O',af',st',h2,h3,h4,h5⟩:=hq;simp only[Exit.inBlock];simp only at h5;split;·rename_i he;rw[an he]at h5;exact⟨trivial,h1,O',af',st',h2,h3,h4,h5⟩
  ·rename_i he;rw[aj he]at h5;exact⟨trivial,h1,O',af',st',h2,h3,h4,h5⟩
 |_=>exact hq
end rules
end Go.VM
namespace Go.VM
def JA (P:Program) (t:TypeId):Nat:=match P.underlying t with|some (.slice e)=>((P.info? e).map (·.size)).getD 0|_=>0
def Q9:Value->AVal|.bool b=>.bool b|.int k n=>.int k n|.string s=>if s.data.toList.length<=CX then .str s.data.toList else .any|.pointer none=>.nilp|.slice none 0 0=>.slice 0 [] true|.nilFunc=>.nilFn|.nilIface=>.nilIface|_=>.any
def AWn (O:Ghost) (v:Value):Rep O (Q9 v) v:=by unfold Q9;split<;>(try split)<;>constructor<;>assumption
def AVg (O:Ghost) (W:World) (v:Value):own O W (Q9 v) v:=by unfold Q9;split<;>(try split)<;>simp[own,Km]
def AYC (v:Value) (b:Nat):cnt b (Q9 v) v=0:=by unfold Q9;split<;>(try split)<;>simp[cnt,Kw]
def Z8 (O:Ghost): ∀vs:List Value,RepL O (vs.map Q9) vs|[]=>.nil|v::vs=>.cons (AWn O v) (Z8 O vs)
theorem Zz (O:Ghost) (W:World): ∀vs:List Value,ownL O W (vs.map Q9) vs|[]=>by simp[ownL]|v::vs=>by rw[aF,ownL];exact⟨AVg O W v,Zz O W vs⟩
theorem Z7 (b:Nat): ∀vs:List Value,AP b (vs.map Q9) vs=0|[]=>by simp[AP]|v::vs=>by rw[aF,AP,AYC,Z7 b vs]
def KJ (w:Nat):Value->AVal|.agg arr=>if arr.toList.all Value.oneCell'=true then .agg (arr.toList.map Q9)else .any|.bool b=>.bool b|.int k n=>.int k n|.string s=>if s.data.toList.length<=CX then .str s.data.toList else .any|.pointer none=>.nilp|.slice none 0 0=>.slice w [] true|.nilFunc=>.nilFn|.nilIface=>.nilIface|_=>.any
def AYd (O:Ghost) (w:Nat) (v:Value):Rep O (KJ w v) v:=by
 unfold KJ;split
 ·split;·rename_i arr h;exact .agg (Z8 O _) λv hv=>aL.1 h v hv
  ·exact .any _
 all_goals ((try split)<;>constructor<;>assumption)
def AWr (O:Ghost) (W:World) (w:Nat) (v:Value):own O W (KJ w v) v:=by unfold KJ;grind[own,Zz,Km]
theorem AYx (w:Nat) (v:Value) (b:Nat):cnt b (KJ w v) v=0:=by unfold KJ;grind[cnt,Z7,Kw]
def rd (E:Env) (af:List AVal) (t:TypeId):Operand->AVal
 |.tmp i=>af.getD i .any
 |.const v=>KJ (JA E.P t) v
 |.global g=>match E.T g with|some cs=>.cptr cs|none=>.any
 |.func f=>.fn (.func f) [] []
def stripAt (af:List AVal):Operand->List AVal|.tmp i=>af.set i (af.getD i .any).strip|_=>af
def RepL.length{O:Ghost}{xs:List AVal}{vs:List Value} (h:RepL O xs vs):xs.length=vs.length:=by induction xs generalizing vs with|nil=>cases h;rfl|cons x xs ih=>cases h with|cons h t=>grind
def RepL.get{O:Ghost}{xs:List AVal}{vs:List Value} (h:RepL O xs vs) (i:Nat) (d:Value):Rep O (xs.getD i .any) (vs.getD i d):=by induction xs generalizing vs i with|nil=>simp;exact .any _|cons x xs ih=>cases h with|cons h t=>cases i with|zero=>grind|succ i=>simp_all
def RepL.set{O:Ghost}{xs:List AVal}{vs:List Value} (h:RepL O xs vs) (i:Nat){x:AVal}{v:Value} (hx:Rep O x v):RepL O (xs.set i x) (vs.set i v):=by induction xs generalizing vs i with|nil=>cases h;simpa using RepL.nil|cons y xs ih=>cases h with|cons h t=>cases i with|zero=>simpa using .cons hx t|succ i=>simpa using .cons h (ih t i)
def RepL.setStrip{O:Ghost}{xs:List AVal}{vs:List Value} (h:RepL O xs vs) (i:Nat):RepL O (xs.set i (xs.getD i .any).strip) vs:=by induction xs generalizing vs i with|nil=>grind|cons y xs ih=>cases h with|cons h t=>cases i with|zero=>simpa using .cons h.strip t|succ i=>simpa using .cons h (ih t i)
def ownL.get{O:Ghost}{w:World}{xs:List AVal}{vs:List Value} (h:ownL O w xs vs) (hl:xs.length=vs.length) (i:Nat) (d:Value):own O w (xs.getD i .any) (vs.getD i d):=by induction xs generalizing vs i with|nil=>simp[own]|cons x xs ih=>cases vs with|nil=>grind|cons v vs=>rw[ownL]at h;cases i with|zero=>grind|succ i=>simp_all
def ownL.set{O:Ghost}{w:World}{xs:List AVal}{vs:List Value} (h:ownL O w xs vs) (i:Nat){x:AVal}{v:Value} (hx:own O w x v):ownL O w (xs.set i x) (vs.set i v):=by induction xs generalizing vs i with|nil=>simp[ownL]|cons y xs ih=>cases vs with|nil=>cases i<;>simp[ownL]|cons u vs=>rw[ownL]at h;cases i with|zero=>grind[ownL]|succ i=>grind[ownL]
def ownL.setStrip{O:Ghost}{w:World}{xs:List AVal}{vs:List Value} (h:ownL O w xs vs) (i:Nat):ownL O w (xs.set i (xs.getD i .any).strip) vs:=by induction xs generalizing vs i with|nil=>grind|cons y xs ih=>cases vs with|nil=>cases i<;>simp[ownL]|cons u vs=>rw[ownL]at h;cases i with|zero=>simp only[cf,ownL];exact⟨MO _ _ _ _,h.2⟩|succ i=>simp only[cH,ownL,cW];exact⟨h.1,ih h.2 i⟩
theorem H6 (b:Nat) (xs:List AVal) (vs:List Value) (i:Nat) (x:AVal) (v:Value):AP b (xs.set i x) (vs.set i v)<=AP b xs vs+cnt b x v:=by induction xs generalizing vs i with|nil=>simp[AP]|cons y xs ih=>cases vs with|nil=>cases i<;>simp[AP]|cons u vs=>cases i with|zero=>grind[AP]|succ i=>grind[AP]
def M4 (b:Nat) (xs:List AVal) (vs:List Value) (i:Nat) (d:Value) (hl:xs.length=vs.length):AP b (xs.set i (xs.getD i .any).strip) vs+cnt b (xs.getD i .any) (vs.getD i d)=AP b xs vs:=by induction xs generalizing vs i with|nil=>simp[AP,cnt]|cons y xs ih=>cases vs with|nil=>grind|cons u vs=>cases i with|zero=>simp only[cf,AP,dE,Iw];omega|succ i=>simp only[cH,AP,cW];have:=ih vs i (by simpa using hl);omega
def Held (O:Ghost) (w:World) (b:Nat):Prop:=(∃cs,O.com b=some cs)\/(∃s p,w.heap[b]?=some (.stringIter s p))\/ ∃es clock,w.heap[b]?=some (.map es clock)
def AVl{O:Ghost}{w:World}{wd:Nat}{v:Value}{b:Nat} (h:Km O w wd v) (hc:1<=Kw b v):b<w.heap.size/\Held O w b:=by
 unfold Kw at hc;split at hc
 ·rename_i a len cap;split at hc;·rename_i hh;obtain⟨hlt,rfl⟩:=hh;obtain⟨arr,e,lo,hi,cells,h1,_,_,h2,_⟩:=h hlt;refine⟨?_,.inl ⟨cells,h2⟩⟩;grind
  omega
 omega
mutual theorem Apc{O:Ghost}{w:World}{b:Nat}:(x:AVal)->(v:Value)->own O w x v->1<=cnt b x v->b<w.heap.size/\Held O w b
 |.agg cs,v,h,k=>by
  cases v<;>simp only[own,cnt]at * <;>try omega
  exact Bw cs _ h k
 |.tuple cs,v,h,k=>by
  cases v<;>simp only[own,cnt]at * <;>try omega
  exact Bw cs _ h k
 |.slice wd xs o,v,h,k=>by
  cases o;·grind[cnt]
  ·simp only[own,cnt]at *;exact AVl h k
 |.any,_,_,k=>by grind[cnt]
 |.bool _,_,_,k=>by grind[cnt]
 |.int _ _,_,_,k=>by grind[cnt]
 |.str _,_,_,k=>by grind[cnt]
 |.ptr _ _,_,_,k=>by grind[cnt]
 |.nilp,_,_,k=>by grind[cnt]
 |.bsl _ _ _ _,_,_,k=>by grind[cnt]
 |.nself _ _ _,_,_,k=>by grind[cnt]
 |.buf _ _ o,v,h,k=>by
  cases o;·grind[cnt]
  ·simp only[own,cnt]at *;obtain⟨hc,o,ho⟩:=h.2 _ k;exact⟨(aU.1 ho).1,.inl hc⟩
 |.bufp _ _ o,v,h,k=>by
  cases o;·grind[cnt]
  ·simp only[own,cnt]at *;obtain⟨hc,o,ho⟩:=h _ k;exact⟨(aU.1 ho).1,.inl hc⟩
 |.cptr _,_,_,k=>by grind[cnt]
 |.fn _ _ _,_,_,k=>by grind[cnt]
 |.nilFn,_,_,k=>by grind[cnt]
 |.iface _ _,_,_,k=>by grind[cnt]
 |.nilIface,_,_,k=>by grind[cnt]
 |.sh _,_,_,k=>by grind[cnt]
 |.sptr _ _ _,_,_,k=>by grind[cnt]
 |.gsl _ _ _,_,_,k=>by grind[cnt]
 |.nmap,_,_,k=>by grind[cnt]
 |.num _,_,_,k=>by grind[cnt]
 |.nbuf _,_,_,k=>by grind[cnt]
 |.trow _ _ _,_,_,k=>by grind[cnt]
 |.vptr _ _ _ _,_,_,k=>by grind[cnt]
 | .vec wd xs,v,h,k=>by
  simp only[own,cnt]at *;rcases h with⟨_,rfl⟩|⟨b',off,cap,arr,e,lo,hi,rfl,h1,_,h3,_⟩;·simp[CO]at k
  ·have e':b'=b:=by
    simp only[CO]at k;split at k;·assumption
    ·omega
   subst e';exact⟨(aU.1 h1).1,.inl ⟨_,h3⟩⟩
 |.map ks vs,v,h,k=>by
  simp only[own,cnt]at *;obtain⟨b',es,clock,rfl,h1,h2⟩:=h;have e:b'=b:=by grind[PK]
  subst e;exact⟨(aU.1 h1).1,.inr (.inr ⟨_,_,h1⟩)⟩
 |.hset ks,v,h,k=>by
  simp only[own,cnt]at *;obtain⟨b',es,clock,rfl,h1,h2⟩:=h;have e:b'=b:=by grind[PK]
  subst e;exact⟨(aU.1 h1).1,.inr (.inr ⟨_,_,h1⟩)⟩
 | .slop wd xs,v,h,k=>by
  simp only[own,cnt]at *;unfold CO at k;split at k
  ·rename_i a len cap;split at k;·rename_i e;obtain⟨arr,e',lo,hi,cells,h1,_,_,h2,_⟩:=h;rw[e]at h1 h2;exact⟨(aU.1 h1).1,.inl ⟨_,h2⟩⟩
   omega
  omega
 |.iter s p,v,h,k=>by
  simp only[own,cnt]at *;obtain⟨b',sb,rfl,h1,h2⟩:=h;have e:b'=b:=by grind[Rs]
  subst e;exact⟨(aU.1 h2).1,.inr (.inl ⟨_,_,h2⟩)⟩ theorem Bw{O:Ghost}{w:World}{b:Nat}:(xs:List AVal)->(vs:List Value)->ownL O w xs vs->1<=AP b xs vs->b<w.heap.size/\Held O w b
 |[],_,_,k=>by grind[AP]
 |x::xs,[],_,k=>by grind[AP]
 |x::xs,v::vs,h,k=>by
  rw[ownL]at h;rw[AP]at k;rcases bb 0 (cnt b x v)with c|c;·exact Apc x v h.1 c
  ·exact Bw xs vs h.2 fH end
section
variable{E:Env}{F:Nat->Nat}{O:Ghost}{st:St}{w:World}{af:List AVal}{a:Act}
theorem Array.getD_toList' (xs:Array Value) (i:Nat) (d:Value):xs.getD i d=xs.toList.getD i d:=by simp[Array.getD,List.getD];split<;>simp_all
theorem Sim.rd (h:Sim E F O st w af a.tmps.toList) (t:TypeId) (x:Operand):Rep O (rd E af t x) (a.eval x):=by
 cases x with
 |tmp i=>simp only[VM.rd,Act.eval,Array.getD_toList'];exact h.rep.get i _
 |const v=>exact AYd _ _ _
 |global g=>
  simp only[VM.rd,Act.eval];split;·rename_i cs e;exact h.glob g cs e
  ·exact .any _
 |func f=>exact .fn .nil .nil
theorem Sim.rd_own (h:Sim E F O st w af a.tmps.toList) (t:TypeId) (x:Operand):VM.own O w (VM.rd E af t x) (a.eval x):=by cases x with|tmp i=>simp only[VM.rd,Act.eval,Array.getD_toList'];exact h.own.get h.rep.length i _|const v=>exact AWr _ _ _ _|global g=>simp only[VM.rd];split<;>simp[VM.own]|func f=>simp[VM.rd,VM.own]
theorem Sim.rd_cnt (h:Sim E F O st w af a.tmps.toList) (t:TypeId) (x:Operand) (b:Nat):AP b (stripAt af x) a.tmps.toList+cnt b (VM.rd E af t x) (a.eval x)=AP b af a.tmps.toList:=by cases x with|tmp i=>simp only[VM.rd,Act.eval,stripAt,Array.getD_toList'];exact M4 b _ _ i _ h.rep.length|const v=>grind[VM.rd,stripAt,Act.eval,AYx]|global g=>simp only[VM.rd,stripAt,fi];split<;>simp[cnt]|func f=>simp[VM.rd,stripAt,cnt]
theorem Sim.stripAt (h:Sim E F O st w af a.tmps.toList) (x:Operand):Sim E F O st w (stripAt af x) a.tmps.toList:=by
 refine {h with rep:=?_,own:=?_,tok:=?_};·cases x<;>first|exact h.rep|exact h.rep.setStrip _
 ·cases x<;>first|exact h.own|exact h.own.setStrip _
 ·intro b;have:=h.rd_cnt 0 x b;have:=h.tok b;omega
def Ac (af:List AVal) (dst:Option Tmp) (r:AVal):List AVal:=match dst with|some d=>af.set d r|none=>af
theorem Wq (a:Act) (d:Tmp) (v:Value):(a.put (some d) v).tmps.toList=a.tmps.toList.set d v:=by simp[Act.put]
theorem Sim.put (h:Sim E F O st w af a.tmps.toList) (dst:Option Tmp){r:AVal}{v:Value} (hr:Rep O r v) (ho:VM.own O w r v) (ht: ∀b,F b+AP b af a.tmps.toList+cnt b r v+Ap O w b st.m<=1):Sim E F O st w (Ac af dst r) (a.put dst v).tmps.toList:=by cases dst with|none=>exact h|some d=>rw[Wq];refine {h with rep:=h.rep.set d hr,own:=h.own.set d ho,tok:=?_};grind[H6,Ac]
theorem Sim.putStrip (h:Sim E F O st w af a.tmps.toList) (dst:Option Tmp){r:AVal}{v:Value} (hr:Rep O r v):Sim E F O st w (Ac af dst r.strip) (a.put dst v).tmps.toList:=h.put dst hr.strip (MO _ _ _ _) (λb=>by rw[Iw];exact h.tok b)
end
end Go.VM
namespace Go.VM
def AZ:AVal->List AVal|.agg cs=>cs|x=>[x]
def Rep.slice_cells{O:Ghost}{w:Nat}{xs:List AVal}{o:Bool}{v:Value} (h:Rep O (.slice w xs o) v):v.cells= #[v]:=by cases h<;>rfl
theorem Rep.cells{O:Ghost}{x:AVal}{v:Value} (h:Rep O x v) (hw:(AZ x).length=v.cells.size):RepL O (AZ x) v.cells.toList:=by
 cases h with
 |any v=>simp only[AZ,ae,ap,bI]at hw;obtain⟨⟨l⟩⟩: ∃a:Array Value,a=v.cells:=⟨_,rfl⟩;generalize hc:v.cells=c at *;obtain⟨l⟩:=c;match l,hw with|[c],_=>exact .cons (.any _) .nil
 |agg h _=>exact h
 |iter s pos v=>simp only[AZ,ae,ap,bI]at hw;generalize v.cells=c at *;obtain⟨l⟩:=c;match l,hw with|[c],_=>exact .cons (.iter _ _ _) .nil
 |map ks vs v=>simp only[AZ,ae,ap,bI]at hw;generalize v.cells=c at *;obtain⟨l⟩:=c;match l,hw with|[c],_=>exact .cons (.map _ _ _) .nil
 |hset ks v=>simp only[AZ,ae,ap,bI]at hw;generalize v.cells=c at *;obtain⟨l⟩:=c;match l,hw with|[c],_=>exact .cons (.hset _ _) .nil
 |vec w xs v=>simp only[AZ,ae,ap,bI]at hw;generalize v.cells=c at *;obtain⟨l⟩:=c;match l,hw with|[c],_=>exact .cons (.vec _ _ _) .nil
 |sh h k=>rw[k.1];exact .cons (.sh h k) .nil
 |buf o h k=>rw[show v.cells= #[v]from h.slice_cells];exact .cons (.buf _ h k) .nil
 |_=>exact .cons (by constructor<;>assumption) .nil
def Kt (op:BinOp) (k:IntKind) (a b:Int):Option AVal:=match op with|.add=>some (.int k (k.wrap (a+b)))|.sub=>some (.int k (k.wrap (a-b)))|.mul=>some (.int k (k.wrap (a * b)))|.quo=>if b=0 then none else some (.int k (k.wrap (a.tdiv b)))|.rem=>if b=0 then none else some (.int k (a.tmod b))|.and=>some (.int k (k.wrap (BitVec.ofInt k.bits a&&&BitVec.ofInt k.bits b).toNat))|.or=>some (.int k (k.wrap (BitVec.ofInt k.bits a|||BitVec.ofInt k.bits b).toNat))|.xor=>some (.int k (k.wrap (BitVec.ofInt k.bits a^^^BitVec.ofInt k.bits b).toNat))|.andNot=>some (.int k (k.wrap (BitVec.ofInt k.bits a&&& ~~~ BitVec.ofInt k.bits b).toNat))|.eql=>some (.bool (a==b))|.neq=>some (.bool (a !=b))|.lss=>some (.bool (decide (a<b)))|.leq=>some (.bool (decide (a<=b)))|.gtr=>some (.bool (decide (a>b)))|.geq=>some (.bool (decide (a>=b)))|_=>none
def ABp (op:BinOp) (k:IntKind) (x y:Int):Option AVal:=if y<0 then none else match op with|.shl=>some (.int k (k.wrap (x * 2^min y.toNat k.bits)))|.shr=>some (.int k (x.fdiv (2^min y.toNat k.bits)))|_=>none
def ABJ (op:BinOp) (a b:B8):Option AVal:=match op with|.add=>if a.length+b.length<=CX then some (.str (a++b))else none|.eql=>some (.bool (a==b))|.neq=>some (.bool (!(a==b)))|.lss=>some (.bool (Op.bytesLess a b))|.leq=>some (.bool (Op.bytesLess a b||a==b))|.gtr=>some (.bool (!(Op.bytesLess a b||a==b)))|.geq=>some (.bool (!(Op.bytesLess a b)))|_=>none
def APF (op:BinOp) (a b:Bool):Option AVal:=match op with|.eql=>some (.bool (a==b))|.neq=>some (.bool (!(a==b)))|_=>none
def Yc (P:Program) (t:TypeId):Bool:=match P.underlying t with|some .bool=>true|_=>false
def eqA (P:Program):Nat->TypeId->AVal->AVal->Option Bool
  |0,_,_,_=>none
  | d + 1, t, x,y=>
    match P.underlying t,x,y with
    |some .bool,.bool a,.bool b=>some (a==b)
    |some (.int _),.int k a,.int k' b=>if k=k' then some (a==b)else none
    |some .string,.str a,.str b=>some (a==b)
    | some (.struct fs),.agg xs,.agg ys=>
      if P.stoodInHeld t then none else
      fs.toList.foldr (λf acc=>
        if f.name ≠ "_" then
          match P.underlying f.type with
          |some (.array _ _)=>none
          | some (.struct _)=>
            match(P.info? f.type).map (·.size)with
            | some z=>
              match eqA P d f.type (.agg ((xs.drop f.offset).take z)) (.agg ((ys.drop f.offset).take z)),acc with
              |some a,some b=>some (a&&b)
              |_,_=>none
            |none=>none
          | _=>
            match xs[f.offset]?,ys[f.offset]? with
            | some x,some y=>
              match eqA P d f.type x y,acc with
              |some a,some b=>some (a&&b)
              |_,_=>none
            |_,_=>none
        else acc) (some true)
    |_,_,_=>none
def Su (P:Program) (t:TypeId):Bool:=match P.underlying t with|some (.pointer e)=>(P.info? e).isSome|_=>false
def AEa:AVal->AVal->Option Bool|.nilp,.nilp=>some true|.nself _ _ _,.nilp=>some true|.nilp,.nself _ _ _=>some true|.ptr _ _,.nilp=>some false|.nilp,.ptr _ _=>some false|.ptr i o,.ptr j p=>if i=j/\o=p then some true else none|_,_=>none
def Rz (op:BinOp) (g:Bool) (e:Option Bool):Option AVal:=match op,g,e with|.eql,true,some b=>some (.bool b)|.neq,true,some b=>some (.bool (!b))|_,_,_=>none
def ABk (P:Program) (t:TypeId):Bool:=match P.underlying t with|some (.func _ _ _)=>true|_=>false
def Zc (op:BinOp) (g b:Bool):Option AVal:=if g=true then(match op with|.eql=>some (.bool b)|.neq=>some (.bool (!b))|_=>none)else none
def FO (E:Env) (op:BinOp) (t:TypeId) (x y:AVal):Option AVal:=match x,y with
 |.int k a,.int k' b=>match op with|.shl|.shr=>ABp op k a b|_=>if k=k' then Kt op k a b else none
 |.str a,.str b=>ABJ op a b
 |.bool a,.bool b=>if Yc E.P t then APF op a b else none
 |.agg xs,.agg ys=>if E.P.eqGuardType E.P.depth t then none else match op,eqA E.P 10000 t (.agg xs) (.agg ys)with|.eql,some b=>some (.bool b)|.neq,some b=>some (.bool (!b))|_,_=>none
 |.fn _ _ _,.nilFn=>Zc op (ABk E.P t) false
 |.nilFn,.nilFn=>Zc op (ABk E.P t) true
 |.any,_=>none
 |x,y=>Rz op (Su E.P t) (AEa x y)
section
variable{E:Env}{O:Ghost}{w:World}
def Pk{tp te:TypeId}{j:TypeInfo} (p q:Option Addr) (h:(p=none)\/(q=none)) (hp:E.P.underlying tp=some (.pointer te)) (hte:E.P.info? te=some j):(binOp .eql tp (.pointer p) (.pointer q)).run E.P w=.ok (.bool (decide (p=q))) w/\(binOp .neq tp (.pointer p) (.pointer q)).run E.P w=.ok (.bool (!decide (p=q))) w:=by
 have k: ∀d:Nat,(Op.equalIn (d+1) tp (.pointer p) (.pointer q)).run E.P w=.ok (decide (p=q)) w:=λd=>by
  rcases h with rfl|rfl;·cases q<;>simp[Op.equalIn,aG hp]
  ·cases p<;>simp[Op.equalIn,aG hp]
 constructor<;>(simp_all[binOp,Op.equal,Op.maxDepth])
def ART{op:BinOp}{t:TypeId}{x y r:AVal}{vx vy:Value} (hx:Rep O x vx) (hy:Rep O y vy) (h:Rz op (Su E.P t) (AEa x y)=some r):(∃v,(binOp op t vx vy).run E.P w=.ok v w/\Rep O r v)/\∃p q,vx=.pointer p/\vy=.pointer q:=by
 unfold Rz at h;have main: ∀b,Su E.P t=true->AEa x y=some b->((binOp .eql t vx vy).run E.P w=.ok (.bool b) w/\(binOp .neq t vx vy).run E.P w=.ok (.bool (!b)) w)/\∃p q,vx=.pointer p/\vy=.pointer q:=by
  intro b hg hb;obtain⟨te,j,hp,hte⟩: ∃te j,E.P.underlying t=some (.pointer te)/\E.P.info? te=some j:=by grind[Su,Option.isSome_iff_exists]
  unfold AEa at hb;split at hb;·cases hx;cases hy;cases hb;exact⟨by simpa using Pk (w:=w) none none (.inl rfl) hp hte,_,_,rfl,rfl⟩
  ·cases hx;cases hy;cases hb;exact⟨by simpa using Pk (w:=w) none none (.inl rfl) hp hte,_,_,rfl,rfl⟩
  ·cases hx;cases hy;cases hb;exact⟨by simpa using Pk (w:=w) none none (.inl rfl) hp hte,_,_,rfl,rfl⟩
  ·cases hx;cases hy;cases hb;exact⟨by simpa using Pk (w:=w) (some _) none (.inr rfl) hp hte,_,_,rfl,rfl⟩
  ·cases hx;cases hy;cases hb;exact⟨by simpa using Pk (w:=w) none (some _) (.inl rfl) hp hte,_,_,rfl,rfl⟩
  ·split at hb;·rename_i hij;obtain⟨rfl,rfl⟩:=hij;cases hb;cases hx with|ptr h1=>cases hy with|ptr h2=>rw[h1]at h2;cases h2;exact⟨⟨run_eql_ptr_same w _ hp hte,Go.Lib.run_neq_ptr_same w _ hp hte⟩,_,_,rfl,rfl⟩
   grind
  grind
 split at h;·rename_i b hg he;cases h;obtain⟨⟨k1,k2⟩,k3⟩:=main b hg he;exact⟨⟨_,k1,.bool _⟩,k3⟩
 ·rename_i b hg he;cases h;obtain⟨⟨k1,k2⟩,k3⟩:=main b hg he;exact⟨⟨_,k2,.bool _⟩,k3⟩
 grind
def AJe{t:TypeId}{op:BinOp}{k:IntKind}{a b:Int}{r:AVal} (h1:op≠ .shl) (h2:op≠ .shr) (h:Kt op k a b=some r): ∃v,(binOp op t (.int k a) (.int k b)).run E.P w=.ok v w/\Rep O r v:=by
 cases op<;>simp only[Kt,reduceCtorEq]at h h1 h2<;>first|(exact absurd rfl h1)|(exact absurd rfl h2)|(simp only[ag]at h;subst h;exact⟨_,by simp only[binOp,ek,cO,az,Op.intArith,Op.intBits,Op.intCmp];exact bu ..,by constructor⟩)|
  (
   split at h;·cases h
   ·rename_i hb;simp only[ag]at h;subst h;exact⟨_,by simp only[binOp,ek,cO,az,Op.intDiv,hb];exact bu ..,by constructor⟩)
def Zu{t:TypeId}{op:BinOp}{k k':IntKind}{a b:Int}{r:AVal} (h0:op=.shl\/op=.shr) (h:ABp op k a b=some r): ∃v,(binOp op t (.int k a) (.int k' b)).run E.P w=.ok v w/\Rep O r v:=by
 unfold ABp at h;split at h;·cases h
 ·rename_i hb;rcases h0 with rfl|rfl<;>(simp only[ag]at h;subst h;exact⟨_,by simp only[binOp,Op.shift,hb,az];exact bu ..,by constructor⟩)
def AHg{t:TypeId}{op:BinOp}{a b:ByteArray}{r:AVal} (h:ABJ op a.data.toList b.data.toList=some r): ∃v,(binOp op t (.string a) (.string b)).run E.P w=.ok v w/\Rep O r v:=by
 cases op<;>simp only[ABJ,reduceCtorEq]at h;case add=>
  split at h
  ·rename_i hb;simp only[ag]at h;subst h;have hl: ¬((a.size+b.size:Nat):Int)>IntKind.i64.max:=by have e1:a.size=a.data.toList.length:=fI;have e2:b.size=b.data.toList.length:=fI;have e3:IntKind.i64.max=9223372036854775807:=fJ;grind[CX]
   refine⟨.string (a++b),by simp_all[binOp,Op.stringOp],?_⟩;have e:a.data.toList++b.data.toList=(a++b).data.toList:=fI;rw[e];exact .str _ (by grind)
  grind
 all_goals (simp only[ag]at h;subst h;exact⟨_,by simp only[binOp,Op.stringOp,ByteArray.toList_eq];exact bu ..,by constructor⟩)
def AEK{t:TypeId}{op:BinOp}{a b:Bool}{r:AVal} (ht:Yc E.P t=true) (h:APF op a b=some r): ∃v,(binOp op t (.bool a) (.bool b)).run E.P w=.ok v w/\Rep O r v:=by
 have hu:E.P.underlying t=some .bool:=by unfold Yc at ht;split at ht<;>simp_all
 cases op<;>simp only[APF,reduceCtorEq,ag]at h<;>subst h;·exact⟨_,run_eql_bool w t a b hu,.bool _⟩
 ·exact⟨_,run_neq_bool w t a b hu,.bool _⟩
def AV6{d:Nat}{t:TypeId}{x y:AVal}{vx vy:Value}{b:Bool} (hs: ∀fs,E.P.underlying t≠some (.struct fs)) (hx:Rep O x vx) (hy:Rep O y vy) (h:eqA E.P d t x y=some b):(Op.equalIn d t vx vy).run E.P w=.ok b w:=by
 cases d with
 |zero=>simp[eqA]at h
 |succ d=>
  unfold eqA at h;split at h;·rename_i a b hu;cases hx;cases hy;grind[Option.some.injEq,run_equalIn_bool']
  ·rename_i k a k' b hu;cases hx;cases hy;grind[Option.some.injEq,run_equalIn_int]
  ·rename_i hu;cases hx;cases hy;grind[Option.some.injEq,run_equalIn_string,ByteArray.toList_eq]
  ·grind
  grind
def RepL.get?{O:Ghost}{xs:List AVal}{vs:List Value} (h:RepL O xs vs){i:Nat}{x:AVal} (hx:xs[i]?=some x): ∃v,vs[i]?=some v/\Rep O x v:=by induction xs generalizing vs i with|nil=>grind|cons y xs ih=>cases h with|cons h t=>cases i with|zero=>simp_all|succ i=>grind
def Vy{t:TypeId}{cs:Array Value}{off:Nat}{v:Value} (hs: ∀fs,E.P.underlying t≠some (.struct fs)) (ha: ∀n e,E.P.underlying t≠some (.array n e)) (hu:E.P.underlying t≠none) (hv:cs[off]?=some v):(part t cs off).run E.P w=.ok v w:=by
 cases hd:E.P.underlying t with
 |none=>grind
 |some d=>
  have:(isAgg t).run E.P w=.ok false w:=by cases d<;>first|exact absurd hd (hs _)|exact absurd hd (ha _ _)|simp[isAgg,aG hd]
  simp_all[part]
def RepL.dropP: ∀ {xs:List AVal}{vs:List Value} (n:Nat),RepL O xs vs->RepL O (xs.drop n) (vs.drop n)|_,_,0,h=>h|_,_,_+1,.nil=>.nil|_,_,n+1,.cons _ t=>RepL.dropP n t
def RepL.takeP: ∀ {xs:List AVal}{vs:List Value} (n:Nat),RepL O xs vs->RepL O (xs.take n) (vs.take n)|_,_,0,_=>.nil|_,_,_+1,.nil=>.nil|_,_,n+1,.cons h t=>.cons h (RepL.takeP n t)
def Te{t:TypeId}{cs:Array Value}{off z:Nat}{fs:Array Field} (hs:E.P.underlying t=some (.struct fs)) (hz:(E.P.info? t).map (·.size)=some z):(part t cs off).run E.P w=.ok (.agg (cs.extract off (off+z))) w:=by
 have h1:(isAgg t).run E.P w=.ok true w:=by simp[isAgg,aG hs]
 have h2:(sizeOf t).run E.P w=.ok z w:=by obtain⟨i,hi,rfl⟩:=aV.1 hz;simp[sizeOf,typeInfo,hi]
 simp_all[part]
theorem ACW{d:Nat} (IH: ∀ {t:TypeId}{xs ys:List AVal}{ax ay:Array Value}{b:Bool},RepL O xs ax.toList->RepL O ys ay.toList->eqA E.P d t (.agg xs) (.agg ys)=some b->(Op.equalIn d t (.agg ax) (.agg ay)).run E.P w=.ok b w){xs ys:List AVal}{ax ay:Array Value} (hx:RepL O xs ax.toList) (hy:RepL O ys ay.toList) (fs:List Field){b:Bool}
    (h:fs.foldr (λf acc=>
        if f.name ≠ "_" then
          match E.P.underlying f.type with
          |some (.array _ _)=>none
          | some (.struct _)=>
            match(E.P.info? f.type).map (·.size)with
            | some z=>
              match eqA E.P d f.type (.agg ((xs.drop f.offset).take z)) (.agg ((ys.drop f.offset).take z)),acc with
              |some a,some b=>some (a&&b)
              |_,_=>none
            |none=>none
          | _=>
            match xs[f.offset]?,ys[f.offset]? with
            | some x,some y=>
              match eqA E.P d f.type x y,acc with
              |some a,some b=>some (a&&b)
              |_,_=>none
            |_,_=>none
        else acc) (some true)=some b):(Op.eqFields d ax ay fs).run E.P w=.ok b w:=by
  induction fs generalizing b with
  |nil=>simp at h;simp_all[Op.eqFields]
  | cons f fs ih=>
    rw[List.foldr_cons]at h
    generalize hacc:List.foldr _ _ fs=acc at h
    rw[Op.eqFields]
    split at h
    . rename_i hn
      rw[an hn]
      split at h
      . cases h
      . rename_i fs' hs
        split at h
        . rename_i z hz
          split at h
          . rename_i a b' ea
            simp only[ag]at h;subst h
            have p1:=Te (E:=E) (w:=w) (cs:=ax) (off:=f.offset) hs hz
            have p2:=Te (E:=E) (w:=w) (cs:=ay) (off:=f.offset) hs hz
            have e: ∀as:Array Value,(as.extract f.offset (f.offset+z)).toList=(as.toList.drop f.offset).take z:=λas=>by simp
            have p3:=IH (ax:=ax.extract f.offset (f.offset+z)) (ay:=ay.extract f.offset (f.offset+z)) (by rw[e];exact(hx.dropP _).takeP _) (by rw[e];exact(hy.dropP _).takeP _) ea
            have p4:=ih hacc
            simp only[aI,p1,p2,p3,aC]
            cases a
            . simp
            grind
          grind
        grind
      . rename_i h2 h1
        split at h
        . rename_i x y ex ey
          split at h
          . rename_i a b' ea
            simp only[ag]at h;subst h
            obtain⟨vx,e1,r1⟩:=hx.get? ex
            obtain⟨vy,e2,r2⟩:=hy.get? ey
            have hu:E.P.underlying f.type≠none:=by
              intro hu
              cases d with
              |zero=>simp[eqA]at ea
              |succ d=>simp[eqA,hu]at ea
            have p1:=Vy (E:=E) (w:=w) (λfs e=>h1 fs e) (λn e' e=>h2 n e' e) hu (by simpa using e1)
            have p2:=Vy (E:=E) (w:=w) (λfs e=>h1 fs e) (λn e' e=>h2 n e' e) hu (by simpa using e2)
            have p3:=AV6 (w:=w) (λfs e=>h1 fs e) r1 r2 ea
            have p4:=ih hacc
            simp only[aI,p1,p2,p3,aC]
            cases a
            . simp
            grind
          grind
        grind
    . rename_i hn
      rw[aj hn]
      grind
def ZO: ∀ {d:Nat}{t:TypeId}{xs ys:List AVal}{ax ay:Array Value}{b:Bool} (hx:RepL O xs ax.toList) (hy:RepL O ys ay.toList) (h:eqA E.P d t (.agg xs) (.agg ys)=some b),(Op.equalIn d t (.agg ax) (.agg ay)).run E.P w=.ok b w:=by
 intro d;induction d with
 |zero=>simp_all[eqA]
 |succ d IH=>
  intro t xs ys ax ay b hx hy h;unfold eqA at h;split at h<;>try (rename_i e1 e2;cases e1;done)
  ·rename_i fs xs' ys' hu e1 e2;cases e1;cases e2;grind[Program.fieldsOf,run_equalIn_struct,ACW]
  grind
def Zf{op:BinOp}{t:TypeId}{ox oy:Operand}{b:Bool}{r:AVal}{vx:Value} (hv:((∃f p q,vx=.func f p q)/\b=false)\/(vx=.nilFunc/\b=true)) (h:Zc op (ABk E.P t) b=some r):∃v,(do eqGuard op t ox oy vx .nilFunc;binOp op t vx .nilFunc:Sem Value).run E.P w=.ok v w/\Rep O r v:=by
 unfold Zc at h;split at h
 ·rename_i hg;obtain⟨x1,x2,x3,hu⟩: ∃x1 x2 x3,E.P.underlying t=some (.func x1 x2 x3):=by grind[ABk]
  have hq:(eqGuard op t ox oy vx .nilFunc).run E.P w=.ok () w:=by rcases hv with⟨⟨f,p,q,rfl⟩,_⟩|⟨rfl,_⟩<;>cases op<;>simp[eqGuard]
  have hk: ∀d:Nat,(Op.equalIn (d+1) t vx .nilFunc).run E.P w=.ok b w:=λd=>by rcases hv with⟨⟨f,p,q,rfl⟩,rfl⟩|⟨rfl,rfl⟩<;>simp[Op.equalIn,aG hu]
  simp only[aI,hq,aC];split at h;·simp only[ag]at h;subst h;exact⟨.bool b,by simp_all[binOp,Op.equal,Op.maxDepth],.bool _⟩
  ·simp only[ag]at h;subst h;exact⟨.bool (!b),by simp_all[binOp,Op.equal,Op.maxDepth],.bool _⟩
  grind
 grind
def AWt{op:BinOp}{t:TypeId}{ox oy:Operand}{x y r:AVal}{vx vy:Value} (hx:Rep O x vx) (hy:Rep O y vy) (h:FO E op t x y=some r):∃v,(do eqGuard op t ox oy vx vy;binOp op t vx vy:Sem Value).run E.P w=.ok v w/\Rep O r v:=by
 unfold FO at h;split at h
 ·rename_i k a k' b;cases hx;cases hy;have hg:(eqGuard op t ox oy (.int k a) (.int k' b)).run E.P w=.ok () w:=by cases op<;>simp[eqGuard]
  simp only[aI,hg,aC];split at h;·exact Zu (.inl rfl) h
  ·exact Zu (.inr rfl) h
  ·rename_i h1 h2;split at h;·rename_i e;subst e;exact AJe h1 h2 h
   grind
 ·rename_i a b;cases hx;cases hy;rename_i a _ b _;have hg:(eqGuard op t ox oy (.string a) (.string b)).run E.P w=.ok () w:=by cases op<;>simp[eqGuard]
  simp only[aI,hg,aC];exact AHg h
 ·rename_i a b;cases hx;cases hy;have hg:(eqGuard op t ox oy (.bool a) (.bool b)).run E.P w=.ok () w:=by cases op<;>simp[eqGuard]
  simp only[aI,hg,aC];split at h;·rename_i ht;exact AEK ht h
  grind
 ·rename_i xs ys;cases hx with
  | agg hx _=>
   cases hy with
   | agg hy _=>
    rename_i ax _ ay _;split at h;·cases h
    ·rename_i hm;have hg:=run_eqGuard_agg w op t ox oy ax ay (by simpa using hm);simp only[aI,hg,aC];split at h;·rename_i b hb;simp only[ag]at h;subst h;refine⟨.bool b,?_,.bool _⟩;rw[run_eql_struct,ZO hx hy hb];rfl
     ·rename_i b hb;simp only[ag]at h;subst h;refine⟨.bool (!b),?_,.bool _⟩;rw[run_neq_struct,ZO hx hy hb];rfl
     grind
 ·cases hx;cases hy;exact Zf (.inl ⟨⟨_,_,_,rfl⟩,rfl⟩) h
 ·cases hx;cases hy;exact Zf (.inr ⟨rfl,rfl⟩) h
 ·cases h
 ·rename_i h1 h2 h3 h4 h5;obtain⟨⟨v,k1,k2⟩,p,q,rfl,rfl⟩:=ART (w:=w) hx hy h;simp_all[eqGuard]
end
end Go.VM
namespace Go.VM
def BN (P:Program) (t:TypeId):Bool:=match P.underlying t with|some (.struct _)|some (.array _ _)=>true|_=>false
def Ah (P:Program) (t:TypeId):Bool:=(P.underlying t).isSome
def BS (P:Program) (t:TypeId):Option Nat:=(P.info? t).map (·.size)
def AU (P:Program) (s:TypeId) (f:Nat):Option (Nat×Nat×Bool):=
  match P.underlying s with
  | some (.struct fs)=>
    match fs[f]? with
    | some fl=>
      match BS P fl.type with
      |some z=>if Ah P fl.type&&z≠0 then some (fl.offset,z,BN P fl.type)else none
      |none=>none
    |none=>none
  |_=>none
def Bj (P:Program) (t:TypeId):Option Nat:=match P.underlying t with|some (.slice e)=>BS P e|_=>none
def NY (P:Program) (t:TypeId):Option (Nat×Nat×Bool):=match P.underlying t with|some (.array n e)=>if Ah P e then(BS P e).map λz=>(n,z,BN P e)else none|_=>none
def DX (P:Program) (t:TypeId):Bool:=match P.underlying t with|some .string=>true|_=>false
def BZ (P:Program) (t:TypeId):Bool:=match P.underlying t with|some (.slice _)=>true|_=>false
def Ih (P:Program) (t:TypeId):Option IntKind:=match P.underlying t with|some (.int k)=>some k|_=>none
def unA (op:UnOp) (x:AVal):Option AVal:=match op,x with|.neg,.int k n=>some (.int k (k.wrap (0-n)))|.xor,.int k n=>some (.int k (k.wrap (BitVec.ofInt k.bits (if k.signed then-1 else k.max)^^^BitVec.ofInt k.bits n).toNat))|.not,.bool b=>some (.bool !b)|_,_=>none
def AaN (E:Env) (s d:TypeId) (x:AVal):Option AVal:=match x with
 |.int _ n=>if Ah E.P s then(match Ih E.P d with|some k=>some (.int k (k.wrap n))|none=>none)else none
 |.str l=>if Ah E.P s&&DX E.P d then some (.str l)else none
 |_=>none
def FQ (n:Int):UInt8:=UInt8.ofNat n.toNat
def AJ (b:UInt8):Int:=b.toNat
def bytesOf:List AVal->Option B8|[]=>some []|.int .u8 n::xs=>(bytesOf xs).map (FQ n:: ·)|_=>none
def u8T (P:Program) (t:TypeId):Bool:=match P.underlying t with|some (.slice e)=>(match P.underlying e with|some (.int .u8)=>true|_=>false)|_=>false
def strOf (g:Bool) (x:Option B8):Option AVal:=match g,x with|true,some l=>some (.str l)|_,_=>none
def Ik (n:Int):B8:=(Utf8.encode n).data.toList
def Sk (E:Env) (s d:TypeId) (x:AVal):Option AVal:=match x with|.slice _ xs _=>strOf (u8T E.P s&&DX E.P d) (bytesOf xs)|.int k n=>if(Ah E.P s&&DX E.P d)=true then some (.str (Ik n))else AaN E s d (.int k n)|x=>AaN E s d x
def O4 (E:Env) (s:TypeId) (x:AVal) (f:Nat):Option AVal:=match AU E.P s f with
 |some (off,_,_)=>match x with|.ptr i o=>some (.ptr i (o+off))|.cptr cs=>some (.cptr (cs.drop off))|.vptr i w n k=>some (.vptr i w n (k+off))|_=>none
 |none=>none
def V6 (cs:List AVal) (off z:Nat) (agg:Bool):Option AVal:=if agg then(if off+z<=cs.length then some (.agg ((cs.drop off).take z))else none)else cs[off]?
def Wd (E:Env) (s:TypeId) (x:AVal) (f:Nat):Option AVal:=match AU E.P s f,x with|some (off,z,g),.agg cs=>V6 cs off z g|_,_=>none
def DR (E:Env) (t:TypeId) (x i:AVal):Option AVal:=match x,i with
 |.slice w xs _,.int _ n=>if Bj E.P t=some w/\0<=n then match xs[n.toNat]? with|some y=>if(AZ y).length=w then some (.cptr (AZ y))else none|none=>none else none
 |.bsl w i off len,.int _ n=>if Bj E.P t=some w/\0<=n/\n<len then some (.ptr i (off+n.toNat * w))else none
 |.gsl w i len,.int _ n=>if Bj E.P t=some w/\0<=n/\n<len then some (.ptr i (n.toNat * w))else none
 |.ptr j o,.int _ n=>match NY E.P t with|some (len,z,_)=>if 0<=n/\n<len then some (.ptr j (o+n.toNat * z))else none|none=>none
 |.cptr cs,.int _ n=>match NY E.P t with|some (len,z,_)=>if 0<=n/\n<len then some (.cptr (cs.drop (n.toNat * z)))else none|none=>none
 |_,_=>none
def UU (E:Env) (t:TypeId) (x i:AVal):Option AVal:=match x,i with
 |.str s,.int _ n=>if DX E.P t/\0<=n then match s[n.toNat]? with|some b=>some (.int .u8 b.toNat)|none=>none else none
 |.agg cs,.int _ n=>match NY E.P t with|some (len,z,g)=>if 0<=n/\n<len then V6 cs (n.toNat * z) z g else none|none=>none
 |_,_=>none
def rdo (E:Env) (af:List AVal):Option Operand->Option (Option Int)|none=>some none|some x=>match rd E af 0 x with|.int _ n=>some (some n)|_=>none
def GD (E:Env) (t:TypeId) (x:AVal) (lo hi mx:Option Int):Option AVal:=
  match x with
  | .str s=>
    let h:=hi.getD s.length
    let l:=lo.getD 0
    if DX E.P t/\mx=none/\0<=l/\l<=h/\h<=s.length then some (.str ((s.drop l.toNat).take (h.toNat-l.toNat)))else none
  | .slice w xs _=>
    let h:=hi.getD xs.length
    let l:=lo.getD 0
    if Bj E.P t=some w/\(mx=none\/(mx=some h/\hi≠none))/\0<=l/\l<=h/\h<=xs.length then some (.slice w ((xs.drop l.toNat).take (h.toNat-l.toNat)) mx.isSome)else none
  | .bsl w i off len=>
    let h:=hi.getD len
    let l:=lo.getD 0
    if Bj E.P t=some w/\mx=none/\0<=l/\l<=h/\h<=len then some (.bsl w i (off+l.toNat * w) (h.toNat-l.toNat))else none
  | .gsl w i len=>
    let h:=hi.getD len
    if Bj E.P t=some w/\mx=none/\lo=none/\0<=h/\h<=len then some (.gsl w i h.toNat)else none
  | .trow T i len=>
    let h:=hi.getD len
    if Bj E.P t=some 1/\mx=none/\lo=none/\0<=h/\h<=len then some (.trow T i h.toNat)else none
  | .ptr i off=>
    match NY E.P t with
    | some (len,z,_)=>
      let h:=hi.getD len
      let l:=lo.getD 0
      if mx=none/\0<=l/\l<=h/\h<=len/\len<=CX then some (.bsl z i (off+l.toNat * z) (h.toNat-l.toNat))else none
    |none=>none
  |_=>none
def Rx (E:Env) (t:TypeId) (x:AVal):Option AVal:=match x with|.str s=>if DX E.P t then some (.int .i64 s.length)else none|.slice _ xs _=>if BZ E.P t then some (.int .i64 xs.length)else none|.bsl _ _ _ len=>if BZ E.P t then some (.int .i64 len)else none|.gsl _ _ len=>if BZ E.P t then some (.int .i64 len)else none|.nbuf _=>if BZ E.P t then some (.int .i64 0)else none|.buf _ l _=>if BZ E.P t then some (.int .i64 l.length)else none|_=>none
def Afm (x y:AVal):Option AVal:=match x,y with|.int k a,.int _ b=>some (.int k (if b<a then b else a))|_,_=>none
def AeL (x y:AVal):Option AVal:=match x,y with|.int k a,.int _ b=>some (.int k (if b>a then b else a))|_,_=>none
def AiE (E:Env) (t:TypeId) (x:AVal):Option AVal:=match x with|.nbuf _=>if BZ E.P t then some (.int .i64 0)else none|_=>none
def Aau (E:Env) (t:TypeId) (x y:AVal):Option AVal:=match x,y with|.trow _ _ 0,.nbuf _=>if Bj E.P t=some 1 then some (.int .i64 0)else none|_,_=>none
def Nh (x:AVal):Option AVal:=match x with|.ptr i o=>some (.ptr i o)|.cptr cs=>some (.cptr cs)|.fn (.func f) p q=>some (.fn (.func f) p q)|_=>none
def Dv (E:Env) (o:Oper) (af:List AVal):Option AVal:=match o.op with
 |.pick c x y=>match rd E af 0 c with|.bool t=>some (if t then rd E af o.type x else rd E af o.type y)|_=>none
 |.nilCheck x=>Nh (rd E af 0 x)
 |.binOp op t x y _=>FO E op t (rd E af t x) (rd E af t y)
 |.unOp op _ x=>unA op (rd E af 0 x)
 |.convert s d x=>Sk E s d (rd E af s x)
 |.makeFunc f p q=>some (.fn f (p.toList.map (rd E af 0)) (q.toList.map (rd E af 0)))
 |.fieldAddr s x f=>O4 E s (rd E af 0 x) f
 |.field s x f=>Wd E s (rd E af s x) f
 |.indexAddr t x i=>DR E t (rd E af t x) (rd E af 0 i)
 |.index t x i=>UU E t (rd E af t x) (rd E af 0 i)
 |.call {callee:=.builtin .len,args:=⟨[x]⟩,argTypes:=⟨t::_⟩}=>Rx E t (rd E af t x)
 |.call {callee:=.builtin .min,args:=⟨[x,y]⟩,argTypes:=_}=>Afm (rd E af 0 x) (rd E af 0 y)
 |.call {callee:=.builtin .max,args:=⟨[x,y]⟩,argTypes:=_}=>AeL (rd E af 0 x) (rd E af 0 y)
 |.call {callee:=.builtin .cap,args:=⟨[x]⟩,argTypes:=⟨t::_⟩}=>AiE E t (rd E af t x)
 |.call {callee:=.builtin .copy,args:=⟨[x,y]⟩,argTypes:=⟨[t,s]⟩}=>Aau E t (rd E af t x) (rd E af s y)
 |_=>none
section
variable{E:Env}{O:Ghost}{w:World}
theorem CW{P:Program}{t:TypeId} (h:DX P t=true):P.underlying t=some .string:=by unfold DX at h;split at h<;>simp_all
def Yd{P:Program}{t:TypeId}{k:IntKind} (h:Ih P t=some k):P.underlying t=some (.int k):=by unfold Ih at h;split at h<;>simp_all
def Cv{P:Program}{t:TypeId} (h:Ah P t=true): ∃d,P.underlying t=some d:=dG.1 h
def Bp{P:Program}{t:TypeId}{z:Nat} (h:Bj P t=some z): ∃e,P.underlying t=some (.slice e)/\BS P e=some z:=by grind[Bj]
def DN{t:TypeId}{z:Nat} (h:BS E.P t=some z):(sizeOf t).run E.P w=.ok z w:=by unfold BS at h;cases hi:E.P.info? t with|none=>grind|some i=>simp_all[sizeOf,typeInfo]
theorem Q8{t:TypeId} (h:Ah E.P t=true):(isAgg t).run E.P w=.ok (BN E.P t) w:=by obtain⟨d,hd⟩:=Cv h;unfold BN;rw[hd];cases d<;>simp[isAgg,aG hd]
def Z5{P:Program}{s:TypeId}{f off z:Nat}{g:Bool} (h:AU P s f=some (off,z,g)):∃fs fl,P.underlying s=some (.struct fs)/\fs[f]?=some fl/\fl.offset=off/\BS P fl.type=some z/\z≠0/\Ah P fl.type=true/\BN P fl.type=g:=by
 unfold AU at h;split at h
 ·rename_i fs hu;split at h
  ·rename_i fl hf;split at h
   ·rename_i z' hz;split at h;·rename_i hk;simp only[ag,aA]at h;obtain⟨rfl,rfl,rfl⟩:=h;simp only[aw,au]at hk;exact⟨fs,fl,hu,hf,rfl,hz,hk.2,hk.1,rfl⟩
    ·cases h
   grind
  grind
 grind
def Rh{P:Program}{t:TypeId}{n z:Nat}{g:Bool} (h:NY P t=some (n,z,g)): ∃e,P.underlying t=some (.array n e)/\BS P e=some z/\Ah P e=true/\BN P e=g:=by
 unfold NY at h;split at h
 ·rename_i n' e hu;split at h;·rename_i hk;cases hz:BS P e with|none=>grind|some z'=>simp_all
  grind
 grind
theorem addr_add (b off n:Nat):(⟨b,off,none⟩:Addr).add n=⟨b,off+n,none⟩:=by grind[Addr.add]
def AeQ{op:UnOp}{x r:AVal}{v:Value} (hx:Rep O x v) (h:unA op x=some r): ∃u,(Op.unary op v).run E.P w=.ok u w/\Rep O r u:=by unfold unA at h;split at h<;>first|cases h;done|(cases hx;simp only[ag]at h;subst h;exact⟨_,by simp only[Op.unary,Op.intArith,Op.intBits];exact bu ..,by constructor⟩)
def Z9{s d:TypeId}{x r:AVal}{v:Value} (hx:Rep O x v) (h:AaN E s d x=some r): ∃u,(convert s d v).run E.P w=.ok u w/\Rep O r u:=by
 unfold AaN at h;split at h
 ·rename_i k0 n0;cases hx;split at h
  ·rename_i hk;obtain⟨ds,hs⟩:=Cv hk;split at h;·rename_i k hd;simp only[ag]at h;subst h;exact⟨.int k (k.wrap n0),by simp[convert,aG hs,aG (Yd hd),Conv.intToInt],.int _ _⟩
   grind
  grind
 ·cases hx;split at h;·rename_i hk;simp only[aw]at hk;obtain⟨ds,hs⟩:=Cv hk.1;simp only[ag]at h;subst h;rename_i l _;exact⟨.string l,by simp[convert,aG hs,aG (CW hk.2)],.str _ fH⟩
  grind
 grind
def RepL.drop{O:Ghost}{xs:List AVal}{vs:List Value} (h:RepL O xs vs) (n:Nat):RepL O (xs.drop n) (vs.drop n):=by induction n generalizing xs vs with|zero=>grind|succ n ih=>cases h with|nil=>simpa using RepL.nil|cons h t=>grind
def RepL.take{O:Ghost}{xs:List AVal}{vs:List Value} (h:RepL O xs vs) (n:Nat):RepL O (xs.take n) (vs.take n):=by induction n generalizing xs vs with|zero=>simpa using RepL.nil|succ n ih=>cases h with|nil=>simpa using RepL.nil|cons h t=>simpa using .cons h (ih t)
def AEY{cs:List AVal}{b off n:Nat} (h:Rep O (.cptr cs) (.pointer (some ⟨b,off,none⟩))):Rep O (.cptr (cs.drop n)) (.pointer (some ⟨b,off+n,none⟩)):=by cases h with|cptr hb hd h ho=>rename_i cells vs rest;refine .cptr (vs:=vs.drop n) (rest:=rest.drop (n-vs.length)) hb ?_ (h.drop n) (λv hv=>ho v (cx hv));rw[<-aT,hd,cu]
def Za{s:TypeId}{x r:AVal}{v:Value}{f:Nat} (hx:Rep O x v) (h:O4 E s x f=some r): ∃u,(Instr.fieldAt s v f).run E.P w=.ok u w/\Rep O r u:=by
 unfold O4 at h;split at h
 ·rename_i off z g hf;obtain⟨fs,fl,h1,h2,h3,h4,h5,h6,h7⟩:=Z5 hf;have key: ∀b o,(Instr.fieldAt s (.pointer (some ⟨b,o,none⟩)) f).run E.P w=.ok (.pointer (some ⟨b,o+off,none⟩)) w:=by intro b o;simp[Instr.fieldAt,aG h1,h2,Instr.sureAddr,fieldPlace,DN h4,h5,addr_add,h3]
  split at h;·cases hx;simp only[ag]at h;subst h;exact⟨_,key _ _,.ptr fH⟩
  ·cases hx;simp only[ag]at h;subst h;exact⟨_,key _ _,AEY (.cptr fH fH fH fH)⟩
  ·simp only[ag]at h;subst h;cases hx with|vptr hsx=>refine⟨_,key _ _,?_⟩;rw[cG,cG];exact .vptr hsx
  grind
 grind
def AAC{t:TypeId}{cs:List AVal}{arr:Array Value}{off z:Nat}{g:Bool}{r:AVal} (hk:Ah E.P t=true) (hg:BN E.P t=g) (hz:BS E.P t=some z) (hx:RepL O cs arr.toList) (ho: ∀v,v∈arr.toList->v.oneCell'=true) (h:V6 cs off z g=some r): ∃u,(part t arr off).run E.P w=.ok u w/\Rep O r u:=by
 unfold V6 at h;have ha:(isAgg t).run E.P w=.ok g w:=by grind[Q8]
 cases g with
 | true=>
  simp only[aB]at h;split at h
  ·simp only[ag]at h;subst h;have e:(arr.extract off (off+z)).toList=(arr.toList.drop off).take z:=by simp
   refine⟨.agg (arr.extract off (off+z)),by simp[part,ha,DN hz],.agg ?_ ?_⟩;·rw[e];exact(hx.drop _).take _
   grind
  grind
 |false=>simp only[aq,az]at h;obtain⟨v,hv,hr⟩:=hx.get? h;simp_all[part]
def AJp{s:TypeId}{x r:AVal}{v:Value}{f:Nat} (hx:Rep O x v) (h:Wd E s x f=some r): ∃u,(Instr.field s v f).run E.P w=.ok u w/\Rep O r u:=by
 unfold Wd at h;split at h;·rename_i off z g cs hf;obtain⟨fs,fl,h1,h2,h3,h4,h5,h6,h7⟩:=Z5 hf;cases hx with|agg hx ho=>rename_i arr;obtain⟨u,hu,hr⟩:=AAC (w:=w) h6 h7 h4 hx ho h;exact⟨u,by simp[Instr.field,aG h1,h2,asAgg,h3,hu],hr⟩
 grind
def RepS.get{O:Ghost}{wd:Nat}{xs:List AVal}{cs:List Value} (h:RepS O wd xs cs){i:Nat}{y:AVal} (hy:xs[i]?=some y): ∃v rest,cs.drop (i * wd)=v.cells.toList++rest/\Rep O y v/\v.cells.size=wd/\∀c,c∈v.cells.toList->c.oneCell'=true:=by induction xs generalizing cs i with|nil=>grind|cons x xs ih=>cases h with|cons h hw t=>rename_i v cs;cases i with|zero=>simp at hy;subst hy;exact⟨v,cs,fI,h,hw⟩|succ i=>obtain⟨u,rest,e1,e2,e3⟩:=ih t (by simpa using hy);refine⟨u,rest,?_,e2,e3⟩;rw[<-e1,bG,ez,<-aT,fj (by grind)]
def RepS.drop{O:Ghost}{wd:Nat}{xs:List AVal}{cs:List Value} (h:RepS O wd xs cs) (n:Nat):RepS O wd (xs.drop n) (cs.drop (n * wd)):=by
 induction n generalizing xs cs with
 |zero=>grind
 | succ n ih=>
  cases h with
  |nil=>simpa using RepS.nil _ _
  |cons h hw t=>
   rename_i x u xs cs';have e:(u.cells.toList++cs').drop ((n+1) * wd)=cs'.drop (n * wd):=by rw[bG,ez,<-aT,fj (by grind)]
   grind
def RepS.take{O:Ghost}{wd:Nat}{xs:List AVal}{cs:List Value} (h:RepS O wd xs cs) (n:Nat):RepS O wd (xs.take n) cs:=by induction n generalizing xs cs with|zero=>simpa using RepS.nil _ _|succ n ih=>cases h with|nil=>simpa using RepS.nil _ _|cons h hw t=>exact .cons h hw (ih t)
def RepS.len{O:Ghost}{wd:Nat}{xs:List AVal}{cs:List Value} (h:RepS O wd xs cs):xs.length * wd<=cs.length:=by induction xs generalizing cs with|nil=>simp|cons x xs ih=>cases h with|cons h hw t=>grind[List.length_cons,List.length_append,Array.length_toList,Nat.succ_mul]
def Vw{t e:TypeId}{len z b o:Nat}{k:IntKind}{n:Int} (hu:E.P.underlying t=some (.array len e)) (hz:BS E.P e=some z) (h1:0<=n) (h2:n<len):(Instr.indexAt t (.pointer (some ⟨b,o,none⟩)) (.int k n)).run E.P w=.ok (.pointer (some ⟨b,o+n.toNat * z,none⟩)) w:=by simp[Instr.indexAt,asIntOf,aG hu,Instr.sureAddr,h1,h2,DN hz,addr_add]
def ZH {t:TypeId}{x i r:AVal}{v vi:Value} (hx:Rep O x v) (hi:Rep O i vi) (h:DR E t x i=some r): ∃u,(Instr.indexAt t v vi).run E.P w=.ok u w/\Rep O r u:=by
 unfold DR at h;split at h
 ·rename_i wd xs o k n;cases hi;split at h
  ·rename_i hc;obtain⟨hs,hn⟩:=hc;obtain⟨e,hu,hz⟩:=Bp hs;split at h
   ·rename_i y hy;split at h
    ·rename_i hl;simp only[ag]at h;subst h;cases hx with
     |snil=>grind
     |slice _ hb hlen hcap hS hnn=>
      rename_i b off len cap cells;have hlt:n.toNat<len:=by grind
      obtain⟨u,rest,e1,e2,e3⟩:=hS.get hy;refine⟨.pointer (some ⟨b,off+n.toNat * wd,none⟩),?_,?_⟩;·have h2:n<(len:Int):=fH;simp[Instr.indexAt,asIntOf,aG hu,hn,h2,DN hz,addr_add]
      ·refine .cptr hb (by rw[<-aT];omega) (e2.cells fH) e3.2
    grind
   grind
  grind
 ·rename_i wd j off len k n;cases hi;cases hx with
  |bsl hbx ho hcap=>
   rename_i off' b cap;split at h;·rename_i hc;obtain⟨hs,h0,h1⟩:=hc;obtain⟨e,hu,hz⟩:=Bp hs;simp only[ag]at h;subst h;have ho':off'=off:=fH;subst ho';refine⟨.pointer (some ⟨b,off'+n.toNat * wd,none⟩),?_,.ptr hbx⟩;simp[Instr.indexAt,asIntOf,aG hu,h0,h1,DN hz,addr_add]
   grind
 ·rename_i wd j len k n;cases hi;cases hx with
  |gsl hbx ht hcap hcz=>
   rename_i b cap sz T;split at h;·rename_i hc;obtain⟨hs,h0,h1⟩:=hc;obtain⟨e,hu,hz⟩:=Bp hs;simp only[ag]at h;subst h;refine⟨.pointer (some ⟨b,0+n.toNat * wd,none⟩),?_,by rw[bI];exact .ptr hbx⟩;simp[Instr.indexAt,asIntOf,aG hu,h0,h1,DN hz,addr_add]
   grind
 ·rename_i j o k n;cases hi;cases hx;split at h
  ·rename_i b hbx _ len z g ha;obtain⟨e,hu,hz,_,_⟩:=Rh ha;split at h;·rename_i hc;simp only[ag]at h;subst h;exact⟨_,Vw hu hz hc.1 hc.2,.ptr hbx⟩
   grind
  grind
 ·rename_i cs k n;cases hi;split at h
  ·rename_i len z g ha;obtain⟨e,hu,hz,_,_⟩:=Rh ha;split at h;·rename_i hc;simp only[ag]at h;subst h;have hx':=hx;cases hx with|cptr hb hd hR=>exact⟨_,Vw hu hz hc.1 hc.2,AEY hx'⟩
   grind
  grind
 grind
def Abf (s:ByteArray) (i:Nat):s[i]?=s.data.toList[i]?:=by
 by_cases h:i<s.size
 ·rw[ByteArray.getElem?_lt' s i h];have:i<s.data.toList.length:=by simp_all
  rw[aS this];rfl
 simp_all
def AJY{t:TypeId}{x i r:AVal}{v vi:Value} (hx:Rep O x v) (hi:Rep O i vi) (h:UU E t x i=some r): ∃u,(Instr.index t v vi).run E.P w=.ok u w/\Rep O r u:=by
 unfold UU at h;split at h
 ·cases hi;cases hx with
  |str s hsn=>
   split at h
   ·rename_i k n hc;split at h
    ·rename_i b hb;simp only[ag]at h;subst h;have hb':s.data[n.toNat]?=some b:=by grind
     exact⟨.int .u8 b.toNat,by simp[Instr.index,asIntOf,aG (CW hc.1),hc.2,Abf,hb'],.int _ _⟩
    grind
   grind
 ·cases hi;cases hx with
  |agg hx ho=>
   split at h
   ·rename_i k n len z g ha;obtain⟨e,hu,hz,hk,hg⟩:=Rh ha;split at h;·rename_i hc;obtain⟨u,hr,hR⟩:=AAC (w:=w) hk hg hz hx ho h;exact⟨u,by simp[Instr.index,asIntOf,aG hu,hc.1,hc.2,DN hz,hr],hR⟩
    grind
   grind
 grind
def QZ{F:Nat->Nat}{st:St}{af:List AVal}{a:Act} (hs:Sim E F O st w af a.tmps.toList){x:Option Operand}{y:Option Int} (h:rdo E af x=some y):∃k,x.map a.eval=y.map (λn=>Value.int k n):=by
 unfold rdo at h;split at h;·simp only[ag]at h;subst h;simp
 ·rename_i o;have hr:=hs.rd 0 o;split at h;·rename_i k n e;simp only[ag]at h;subst h;rw[e]at hr;cases hr':a.eval o<;>rw[hr']at hr<;>cases hr;grind
  grind
def Ij{isSlice:Bool}{len cap:Nat}{kl kh km:IntKind}{lo hi mx:Option Int}{l h m:Int} (el:lo.getD 0=l) (eh:hi.getD len=h) (em:mx.getD cap=m) (h0:0<=l) (h1:l<=h) (h2:h<=m) (h3:m<=cap) (hm:mx.isSome=true->hi.isSome=true):(Instr.sliceBounds isSlice len cap (lo.map λn=>Value.int kl n) (hi.map λn=>Value.int kh n) (mx.map λn=>Value.int km n)).run E.P w=.ok (l.toNat,h.toNat,m.toNat) w:=by
 cases lo<;>cases hi<;>cases mx<;>simp only[cj,dy,dL,ci,forall_const,aq]at el eh em hm;all_goals subst el;subst eh;subst em
 all_goals (try simp only[bH]at *)
 all_goals simp only[Instr.sliceBounds,bS,aN,aI,bu,aC,dL,ci,aB,aq,az]
 all_goals (try simp only[run_sliceBound_if])
 all_goals (try rw[an ⟨fH,fH⟩])
 all_goals grind[Result.andThen_ok]
 all_goals (try rw[an ⟨fH,fH⟩])
 all_goals grind[Result.andThen_ok]
 all_goals (try rw[an ⟨fH,fH⟩])
 all_goals simp
 all_goals rfl
theorem AL0{t:TypeId}{x r:AVal}{v:Value}{lo hi mx:Option Int}{kl kh km:IntKind} (hx:Rep O x v) (h:GD E t x lo hi mx=some r):∃u,(Instr.sliceAt t v (lo.map λn=>Value.int kl n) (hi.map λn=>Value.int kh n) (mx.map λn=>Value.int km n)).run E.P w=.ok u w/\Rep O r u/\(∀b,cnt b r u=0)/\own O w r u:=by
 unfold GD at h;split at h
 ·cases hx with
  |str s hsn=>
   simp only at h;split at h
   ·rename_i hc;obtain⟨ht,hm,h0,h1,h2⟩:=hc;simp only[ag]at h;subst h;subst hm;have hu:=CW ht;have hl:s.data.toList.length=s.size:=fI;rw[hl]at *;have key:=Ij (E:=E) (w:=w) (isSlice:=false) (len:=s.size) (cap:=s.size) (kl:=kl) (kh:=kh) (km:=km) (lo:=lo) (hi:=hi) (mx:=none) rfl rfl rfl h0 h1 h2 fI fI;refine⟨.string (s.extract (lo.getD 0).toNat (hi.getD s.size).toNat),?_,?_,λb=>by simp[cnt],by simp[own]⟩;·simp only[bS]at key;simp[Instr.sliceAt,aG hu,Instr.slice,key]
    ·have e:((s.data.toList.drop (lo.getD 0).toNat).take ((hi.getD s.size).toNat-(lo.getD 0).toNat))=(s.extract (lo.getD 0).toNat (hi.getD s.size).toNat).data.toList:=by simp
     rw[e];exact .str _ (by grind)
   grind
 ·rename_i wd xs o;simp only at h;split at h
  ·rename_i hc;obtain⟨ht,hm,h0,h1,h2⟩:=hc;obtain⟨e,hu,hz⟩:=Bp ht;simp only[ag]at h;subst h;obtain⟨base,len,cap,rfl,hlen,hcap⟩: ∃base len cap,v=.slice base len cap/\xs.length=len/\len<=cap:=by cases hx with|snil=>exact⟨_,0,0,rfl,rfl,av _⟩|slice _ hb hl hc hS hnn=>exact⟨_,_,_,rfl,hl,hc.1⟩
   subst hlen;have hmm:mx.getD cap=mx.getD cap:=rfl;have key:=Ij (E:=E) (w:=w) (isSlice:=true) (len:=xs.length) (cap:=cap) (kl:=kl) (kh:=kh) (km:=km) (lo:=lo) (hi:=hi) (mx:=mx) rfl rfl rfl h0 h1 (by rcases hm with rfl|⟨rfl,_⟩<;>simp<;>omega) (by rcases hm with rfl|⟨rfl,_⟩<;>simp<;>omega) (by rcases hm with rfl|⟨rfl,h⟩<;>simp;cases hi<;>simp_all);generalize hl':lo.getD 0=l at *;generalize hh':hi.getD xs.length=hh at *;generalize hm':(mx.getD cap).toNat=m at *;refine⟨.slice (if m=l.toNat then base else base.map (·.add (l.toNat * wd))) (hh.toNat-l.toNat) (m-l.toNat),?_,?_,?_,?_⟩;·simp[Instr.sliceAt,aG hu,Instr.slice,key,DN hz]
   ·have hle:hh.toNat<=m:=by rcases hm with rfl|⟨rfl,_⟩<;>simp at hm'<;>omega
    cases hx with
    |snil=>
     have hh0:hh.toNat=0:=fH;have hl0:l.toNat=0:=fH;have hm0:m=0:=by rcases hm with rfl|⟨rfl,_⟩<;>simp at hm'<;>omega
     rw[hh0,hl0,hm0];simp only[List.take_nil,List.drop_nil,aB,dv];exact .snil _ _ _
    | slice _ hb hl hc hS hnn=>
     rename_i b off cells;have hlen:((xs.drop l.toNat).take (hh.toNat-l.toNat)).length=hh.toNat-l.toNat:=by grind
     by_cases hml:m=l.toNat;·have h00:hh.toNat-l.toNat=0:=fH;rw[an hml,h00,hml];simp only[dr,dv];exact .slice _ hb rfl ⟨av _,aK _⟩ (.nil _ _) (λ_ _=>.inl rfl)
     ·rw[aj hml];simp only[aN,addr_add];refine .slice _ hb hlen ⟨fH,fH⟩ ?_ ?_;rotate_left;·grind
      rw[<-aT];exact(hS.drop _).take _
   ·intro b;cases hmx:mx with
    |none=>simp[cnt]
    |some z=>
     have:m=hh.toNat:=by rcases hm with h|⟨h,_⟩<;>simp_all
     simp only[ci,cnt];unfold Kw;split;·rename_i e;simp only[dT]at e;rw[aj];omega
     ·rfl
   ·cases hmx:mx with
    |none=>simp[own]
    |some z=>
     have:m=hh.toNat:=by rcases hm with h|⟨h,_⟩<;>simp_all
     simp only[ci,own];unfold Km;grind
  grind
 ·rename_i wd i off len;simp only at h;split at h
  ·rename_i hc;obtain⟨ht,hm,h0,h1,h2⟩:=hc;obtain⟨e,hu,hz⟩:=Bp ht;simp only[ag]at h;subst h;subst hm;cases hx with
   | bsl hbx ho hcap=>
    rename_i off' b cap;have key:=Ij (E:=E) (w:=w) (isSlice:=true) (len:=len) (cap:=cap) (kl:=kl) (kh:=kh) (km:=km) (lo:=lo) (hi:=hi) (mx:=none) rfl rfl rfl h0 h1 (by grind) fI fI;simp only[cj,bS,bH]at key;generalize hl':lo.getD 0=l at *;generalize hh':hi.getD (len:Int)=hh at *;refine⟨.slice (some (if cap=l.toNat then⟨b,off',none⟩else⟨b,off'+l.toNat * wd,none⟩)) (hh.toNat-l.toNat) (cap-l.toNat),?_,?_,λb=>by simp[cnt],by simp[own]⟩;·simp only[bS,Instr.sliceAt,aG hu,Instr.slice,key,DN hz,aI,aC,bu];split<;>simp[addr_add]
    ·split;·exact .bsl hbx (.inl fH) ⟨fH,fH⟩
     ·refine .bsl hbx ?_ ⟨fH,fH⟩;omega
  grind
 ·rename_i wd i len;simp only at h;split at h;·rename_i hc;obtain⟨ht,hm,hlo,h1,h2⟩:=hc;obtain⟨e,hu,hz⟩:=Bp ht;simp only[ag]at h;subst h;subst hm;subst hlo;cases hx with|gsl hbx hbt hcap hcz=>rename_i b cap sz T;have key:=Ij (E:=E) (w:=w) (isSlice:=true) (len:=len) (cap:=cap) (kl:=kl) (kh:=kh) (km:=km) (lo:=none) (hi:=hi) (mx:=none) rfl rfl rfl fI (by grind) (by grind) fI fI;simp only[cj,bS,bH,eH]at key;generalize hh':hi.getD (len:Int)=hh at *;refine⟨.slice (some ⟨b,0,none⟩) hh.toNat cap,?_,.gsl hbx hbt ⟨fH,fH⟩ hcz,λb=>by simp[cnt],by simp[own]⟩;simp only[bS,Instr.sliceAt,aG hu,Instr.slice,key,DN hz,aI,aC,bu];split<;>simp[addr_add]
  grind
 ·rename_i T0 i len;simp only at h;split at h;·rename_i hc;obtain⟨ht,hm,hlo,h1,h2⟩:=hc;obtain⟨e,hu,hz⟩:=Bp ht;simp only[ag]at h;subst h;subst hm;subst hlo;cases hx with|trow hbx hbt hcap hcz=>rename_i b cap sz;have key:=Ij (E:=E) (w:=w) (isSlice:=true) (len:=len) (cap:=cap) (kl:=kl) (kh:=kh) (km:=km) (lo:=none) (hi:=hi) (mx:=none) rfl rfl rfl fI (by grind) (by grind) fI fI;simp only[cj,bS,bH,eH]at key;generalize hh':hi.getD (len:Int)=hh at *;refine⟨.slice (some ⟨b,0,none⟩) hh.toNat cap,?_,.trow hbx hbt ⟨fH,fH⟩ hcz,λb=>by simp[cnt],by simp[own]⟩;simp only[bS,Instr.sliceAt,aG hu,Instr.slice,key,DN hz,aI,aC,bu];split<;>simp[addr_add]
  grind
 ·rename_i i off;split at h
  ·rename_i len z g ha;obtain⟨e,hu,hz,_,_⟩:=Rh ha;simp only at h;split at h
   ·rename_i hc;obtain⟨hm,h0,h1,h2,h3⟩:=hc;simp only[ag]at h;subst h;subst hm;cases hx with
    | ptr hbx=>
     rename_i b;have key:=Ij (E:=E) (w:=w) (isSlice:=false) (len:=len) (cap:=len) (kl:=kl) (kh:=kh) (km:=km) (lo:=lo) (hi:=hi) (mx:=none) rfl rfl rfl h0 h1 (by grind) fI fI;simp only[cj,bS,bH]at key;generalize hl':lo.getD 0=l at *;generalize hh':hi.getD (len:Int)=hh at *;refine⟨.slice (some (if len=l.toNat then⟨b,off,none⟩else⟨b,off+l.toNat * z,none⟩)) (hh.toNat-l.toNat) (len-l.toNat),?_,?_,λb=>by simp[cnt],by simp[own]⟩;·simp only[bS,Instr.sliceAt,Instr.sureAddr,aG hu,key,DN hz,aI,aC,bu];split<;>simp[addr_add]
     ·split;·exact .bsl hbx (.inl fH) ⟨fH,fH⟩
      ·exact .bsl hbx (.inr rfl) ⟨fH,fH⟩
   grind
  grind
 grind
def AYs{t ty:TypeId}{ts:List TypeId}{x r:AVal}{v:Value} (hx:Rep O x v) (h:Rx E t x=some r): ∃u,(Builtin.len_ ⟨t::ts⟩ ty #[v]).run E.P w=.ok u w/\Rep O r u:=by
 unfold Rx at h;split at h
 ·cases hx with
  |str s hsn=>
   split at h;·rename_i ht;simp only[ag]at h;subst h;have e:(s.data.toList.length:Int)=s.size:=fI;rw[e];exact⟨.int .i64 s.size,by simp[Builtin.len_,aG (CW ht),goInt],.int _ _⟩
   grind
 ·rename_i wd xs o;split at h
  ·rename_i ht;obtain⟨e,hu⟩: ∃e,E.P.underlying t=some (.slice e):=by unfold BZ at ht;split at ht<;>simp_all
   simp only[ag]at h;subst h;obtain⟨base,len,cap,rfl,hlen⟩: ∃base len cap,v=.slice base len cap/\xs.length=len:=by cases hx with|snil=>simp|slice _ hb hl hc hS hnn=>simp_all
   rw[hlen];exact⟨.int .i64 len,by simp[Builtin.len_,aG hu,goInt],.int _ _⟩
  grind
 ·rename_i wd i off len;split at h
  ·rename_i ht;obtain⟨e,hu⟩: ∃e,E.P.underlying t=some (.slice e):=by unfold BZ at ht;split at ht<;>simp_all
   simp only[ag]at h;subst h;cases hx with|bsl hbx ho hcap=>exact⟨.int .i64 len,by simp[Builtin.len_,aG hu,goInt],.int _ _⟩
  grind
 ·rename_i wd i len;split at h
  ·rename_i ht;obtain⟨e,hu⟩: ∃e,E.P.underlying t=some (.slice e):=by unfold BZ at ht;split at ht<;>simp_all
   simp only[ag]at h;subst h;cases hx with|gsl hbx hbt hcap hcz=>exact⟨.int .i64 len,by simp[Builtin.len_,aG hu,goInt],.int _ _⟩
  grind
 ·split at h
  ·rename_i ht;obtain⟨e,hu⟩: ∃e,E.P.underlying t=some (.slice e):=by unfold BZ at ht;split at ht<;>simp_all
   simp only[ag]at h;subst h;cases hx;exact⟨.int .i64 0,by simp[Builtin.len_,aG hu,goInt],.int _ _⟩
  grind
 ·rename_i el l o;split at h
  ·rename_i ht;obtain⟨e,hu⟩: ∃e,E.P.underlying t=some (.slice e):=by unfold BZ at ht;split at ht<;>simp_all
   simp only[ag]at h;subst h;obtain⟨base,len,cap,rfl,hlen⟩: ∃base len cap,v=.slice base len cap/\l.length=len:=by
    cases hx with
    |buf o' hx k=>
     have hl:(u8s l).length=l.length:=by simp[u8s]
     generalize u8s l=xs at hx hl;cases hx with|snil=>simp_all|slice _ hb hl' hc hS hnn=>simp_all
   rw[hlen];exact⟨.int .i64 len,by simp[Builtin.len_,aG hu,goInt],.int _ _⟩
  grind
 grind
theorem RepL.map_rd{F:Nat->Nat}{st:St}{af:List AVal}{a:Act} (hs:Sim E F O st w af a.tmps.toList) (t:TypeId) (l:List Operand):RepL O (l.map (rd E af t)) (l.map a.eval):=by induction l with|nil=>exact .nil|cons x l ih=>exact .cons (hs.rd t x) ih
theorem Xa{O:Ghost}: ∀ {xs:List AVal}{l:B8}{cs:List Value},bytesOf xs=some l->RepS O 1 xs cs->∃ns:List Int,ns.length=xs.length/\(∀j,j<ns.length->cs[j]?=some (.int .u8 (ns.getD j 0)))/\l=ns.map FQ
 |[],l,cs,h,_=>by simp[bytesOf]at h;subst h;exact⟨[],rfl,fI,rfl⟩
 | x::xs,l,cs,h,hr=>by
  cases hr with
  |cons hx hw t=>
   rename_i v cs;unfold bytesOf at h;split at h;·grind
   ·rename_i n xs' e;cases e;cases hx;cases hb:bytesOf xs with|none=>grind|some l'=>simp[hb]at h;subst h;obtain⟨ns,h1,h2,h3⟩:=Xa hb t;refine⟨n::ns,by grind,?_,by grind⟩;intro j hj;have ec:(Value.int IntKind.u8 n).cells.toList=[.int .u8 n]:=rfl;grind
   grind
def Xi{P:Program}{t:TypeId} (h:u8T P t=true): ∃e,P.underlying t=some (.slice e)/\P.underlying e=some (.int .u8):=by grind[u8T]
def ATn{F:Nat->Nat}{st:St}{af:List AVal}{a:Act}{s d:TypeId}{o:Operand}{r:AVal} (hs:Sim E F O st w af a.tmps.toList) (h:Sk E s d (rd E af s o)=some r): ∃u,(convert s d (a.eval o)).run E.P w=.ok u w/\Rep O r u:=by
 have hx:=hs.rd s o;generalize rd E af s o=x at *;generalize a.eval o=v at *;unfold Sk at h;split at h
 ·rename_i wd xs ow;unfold strOf at h;split at h
  ·rename_i l hg hb;simp only[aw]at hg;simp only[ag]at h;subst h;obtain⟨e,h1,h2⟩:=Xi hg.1;have h3:=CW hg.2;cases hx with
   |snil _ _ ad=>simp[bytesOf]at hb;subst hb;cases ad with|some ad=>have hl:(loadCells ad 0).run E.P w=.ok (([]:List Int).map (Value.int .u8)).toArray w:=dM (P:=E.P) w ad [] (λj v hj=>by grind);refine⟨.string ByteArray.empty,?_,Rep.str (O:=O) ByteArray.empty (aK _)⟩;rw[run_convert_bytes_string w s d e (some ad) 0 0 h1 h2 h3,run_bytesToString w ad 0 0 [] hl];rfl|none=>exact⟨_,run_convert_bytes_nil w s e h1 h2 0 0 d h3,Rep.str (O:=O) ByteArray.empty (aK _)⟩
   | slice _ hb' hl hc hr hnn=>
    rename_i b off len cap cells;have hr0:=hr;have hwd:wd=1\/xs=[]:=by
     generalize cells.drop off=cs0 at hr;cases xs with
     |nil=>simp
     | cons x xs=>
      cases hr with
      |cons hx hw t=>
       unfold bytesOf at hb;split at hb;·grind
       ·rename_i n xs' e';cases e';cases hx;exact .inl hw.1.symm
       grind
    have hr1:RepS O 1 xs (cells.drop off):=by
     rcases hwd with rfl|rfl;·omega
     ·exact .nil _ _
    obtain⟨ns,n1,n2,n3⟩:=Xa hb hr1;obtain⟨arr,e',fz,hh,⟨ds,hds⟩,_⟩:=hs.com_ok _ _ hb';have hcell: ∀i,i<len->w.cell? ⟨b,off+i,none⟩=some (.int .u8 (ns.getD i 0)):=by
     intro i hi;have q:=n2 i fH;have q1:cells[off+i]?=some (.int .u8 (ns.getD i 0)):=by grind
     have q2:arr.toList[off+i]?=some (.int .u8 (ns.getD i 0)):=by grind
     grind[World.cell?]
    have key:=dV w s e h1 h2 b off len cap ns fH hcell d h3;refine⟨_,key,?_⟩;have hsz:(strOfNums ns).data.toList=l:=by rw[fx,n3];rfl
    rw[<-hsz];exact .str _ (by grind)
  grind
 ·rename_i k n;split at h;·rename_i hg;simp only[aw]at hg;simp only[ag]at h;subst h;cases hx;refine⟨_,run_convert_int_string w s d k n (by grind[Ah]) (CW hg.2),?_⟩;exact .str _ (by grind[Utf8.encode,CX])
  ·exact Z9 hx h
 ·exact Z9 hx h
def ADT{F:Nat->Nat}{st:St}{af:List AVal}{a:Act}{o:Oper}{r:AVal} (hs:Sim E F O st w af a.tmps.toList) (h:Dv E o af=some r):∃v,(execOp a.eval o).run E.P w=.ok (.value v) w/\Rep O r v:=by
 unfold Dv at h;split at h
 ·rename_i c x y hop;have hc:=hs.rd 0 c;split at h
  ·rename_i t e;rw[e]at hc;simp only[ag]at h;subst h;cases hc':a.eval c<;>rw[hc']at hc<;>cases hc;refine⟨if t then a.eval x else a.eval y,by simp_all[execOp,asBool],?_⟩;cases t;·exact hs.rd _ y
   ·exact hs.rd _ x
  grind
 ·rename_i x hop;have hx:=hs.rd 0 x;generalize hv:a.eval x=v at hx;unfold Nh at h;split at h;·rename_i e;rw[e]at hx;simp only[ag]at h;subst h;refine⟨v,?_,hx⟩;cases hx;simp_all[execOp]
  ·rename_i e;rw[e]at hx;simp only[ag]at h;subst h;refine⟨v,?_,hx⟩;cases hx;simp_all[execOp]
  ·rename_i e;rw[e]at hx;simp only[ag]at h;subst h;refine⟨v,?_,hx⟩;cases hx;simp_all[execOp]
  grind
 ·rename_i op t x y u hop;obtain⟨v,hv,hr⟩:=AWt (w:=w) (ox:=x) (oy:=y) (hs.rd t x) (hs.rd t y) h;refine⟨v,?_,hr⟩;simp only[execOp,hop];rw[aI,hv];rfl
 ·rename_i op t x hop;obtain⟨v,hv,hr⟩:=AeQ (w:=w) (E:=E) (hs.rd 0 x) h;simp_all[execOp]
 ·rename_i s d x hop;obtain⟨v,hv,hr⟩:=ATn (w:=w) hs h;simp_all[execOp]
 ·rename_i f p q hop;simp only[ag]at h;subst h;refine⟨.func f (p.map a.eval) (q.map a.eval),by simp[execOp,hop,Instr.makeFunc],.fn ?_ ?_⟩<;>grind[execOp,Instr.makeFunc,Array.toList_map,RepL.map_rd]
 ·rename_i s x f hop;obtain⟨v,hv,hr⟩:=Za (w:=w) (hs.rd 0 x) h;simp_all[execOp]
 ·rename_i s x f hop;obtain⟨v,hv,hr⟩:=AJp (w:=w) (hs.rd s x) h;simp_all[execOp]
 ·rename_i t x i hop;obtain⟨v,hv,hr⟩:=ZH (w:=w) (hs.rd t x) (hs.rd 0 i) h;simp_all[execOp]
 ·rename_i t x i hop;obtain⟨v,hv,hr⟩:=AJY (w:=w) (hs.rd t x) (hs.rd 0 i) h;simp_all[execOp]
 ·rename_i x t ts hop;obtain⟨v,hv,hr⟩:=AYs (w:=w) (ty:=o.type) (ts:=ts) (hs.rd t x) h;simp_all[Array.map,execOp,resolve,invoke,builtin]
 ·rename_i x y ts hop;have hx:=hs.rd 0 x;have hy:=hs.rd 0 y;unfold Afm at h;split at h;·rename_i k p k' q e1 e2;rw[e1]at hx;rw[e2]at hy;simp only[ag]at h;subst h;cases hx':a.eval x<;>rw[hx']at hx<;>cases hx;cases hy':a.eval y<;>rw[hy']at hy<;>cases hy;refine⟨.int k (if q<p then q else p),?_,.int _ _⟩;have e:(Array.map a.eval #[x,y])= #[a.eval x,a.eval y]:=fI;simp[execOp,hop,resolve,invoke,builtin,e,hx',hy',run_min_int2]
  grind
 ·rename_i x y ts hop;have hx:=hs.rd 0 x;have hy:=hs.rd 0 y;unfold AeL at h;split at h;·rename_i k p k' q e1 e2;rw[e1]at hx;rw[e2]at hy;simp only[ag]at h;subst h;cases hx':a.eval x<;>rw[hx']at hx<;>cases hx;cases hy':a.eval y<;>rw[hy']at hy<;>cases hy;refine⟨.int k (if q>p then q else p),?_,.int _ _⟩;have e:(Array.map a.eval #[x,y])= #[a.eval x,a.eval y]:=fI;simp[execOp,hop,resolve,invoke,builtin,e,hx',hy',run_max_int2]
  grind
 ·rename_i x t ts hop;have hx:=hs.rd t x;unfold AiE at h;split at h
  ·rename_i el e1;rw[e1]at hx;split at h
   ·rename_i ht;obtain⟨e,hu⟩: ∃e,E.P.underlying t=some (.slice e):=by unfold BZ at ht;split at ht<;>simp_all
    simp only[ag]at h;subst h;cases hx':a.eval x<;>rw[hx']at hx<;>cases hx;refine⟨.int .i64 0,?_,.int _ _⟩;have e:(Array.map a.eval #[x])= #[a.eval x]:=fI;simp[execOp,hop,resolve,invoke,builtin,e,hx',Builtin.cap_,aG hu,goInt]
   grind
  grind
 ·rename_i x y t s hop;have hx:=hs.rd t x;have hy:=hs.rd s y;unfold Aau at h;split at h
  ·rename_i w0 i0 el e1 e2;rw[e1]at hx;rw[e2]at hy;split at h
   ·rename_i ht;obtain⟨e,hu,hsz⟩:=Bp ht;simp only[ag]at h;subst h;cases hy':a.eval y<;>rw[hy']at hy<;>cases hy;generalize hx':a.eval x=vx at hx;cases hx with
    |trow hb hbt hc hz=>
     have hss:(E.P.info? e).map (·.size)=some 1:=by grind[BS]
     refine⟨.int .i64 0,?_,.int _ _⟩;have e:(Array.map a.eval #[x,y])= #[a.eval x,a.eval y]:=fI;simp only[execOp,hop,resolve,invoke,builtin,e,hx',hy',aI,bu,aC];rw[run_copy_none w t s o.type _ _ _ 0 _ 0 0 hu hss rfl];rfl
   grind
  grind
 grind
end
end Go.VM
namespace Go.VM
section
variable{E:Env}{F:Nat->Nat}{O:Ghost}{st:St}{w:World}{af:List AVal}{a:Act}
theorem Yw{O':Ghost}{w':World}{b:Nat}{p:Nat×List AVal} (h1:O'.bx p.1=O.bx p.1) (h2: ∀k,O.bx p.1=some k->w'.heap[k]?=w.heap[k]?) (hsx:O'.sx p.1=O.sx p.1:=by rfl):DK O' w' b p=DK O w b p:=by grind[DK,hcells]
def Ff{O':Ghost}{w':World}{b:Nat}{m:List (Nat×List AVal)} (h: ∀p,p∈m->O'.bx p.1=O.bx p.1/\∀k,O.bx p.1=some k->w'.heap[k]?=w.heap[k]?) (hsx: ∀p,p∈m->O'.sx p.1=O.sx p.1:=by intros;rfl):Ap O' w' b m=Ap O w b m:=by induction m with|nil=>rfl|cons p m ih=>rw[Ap,Ap,Yw (h p fI).1 (h p fI).2 (hsx p fI),ih (λq hq=>h q (aX _ hq)) (λq hq=>hsx q (aX _ hq))]
def ShOK.keep{O':Ghost}{w':World}{p:Nat×List AVal}{v:Value} (h:ShOK O w p v) (le:O.le O') (hb:O'.bx p.1=none) (k: ∀b,1<=AP b p.2 [v]->w'.heap[b]?=w.heap[b]?/\O'.com b=O.com b):ShOK O' w' p v:=⟨le.2.2.2.2 _ _ h.sx,hb,h.rep.mono le,Bv le _ _ h.own k⟩
theorem ShOK.cnt{p:Nat×List AVal}{v:Value} (h:ShOK O w p v) (b:Nat):DK O w b p=AP b p.2 [v]:=by simp only[DK,h.bx,h.sx]
def X5{b:Nat}{p:Nat×List AVal}{m:List (Nat×List AVal)} (h:p∈m):DK O w b p<=Ap O w b m:=by
 induction m with
 |nil=>grind
 |cons q m ih=>
  rw[Ap];rcases aM.1 h with rfl|h;·omega
  grind
def APA{b:Nat}{o:Obj} (h:w.heap[b]?=some o):b<w.heap.size:=by grind
def alloc_old (o:Obj){k:Nat} (h:k<w.heap.size):(w.alloc o).heap[k]?=w.heap[k]?:=by show(w.heap.push o)[k]?=_;grind
def Nv (o:Obj):(w.alloc o).heap[w.heap.size]?=some o:=by show(w.heap.push o)[w.heap.size]?=_;simp
def Ghost.box (O:Ghost) (i b:Nat) (x:TypeId×Nat):Ghost:= {O with bx:=λj=>if j=i then some b else O.bx j,bt:=λj=>if j=i then some x else O.bt j}
def Ghost.arr (O:Ghost) (b:Nat) (cs:List Value) (e:TypeId):Ghost:= {O with com:=λk=>if k=b then some cs else O.com k,ct:=λk=>if k=b then some e else O.ct k}
def Sim.bx_none (hs:Sim E F O st w af a.tmps.toList):O.bx st.next=none:=by cases h:O.bx st.next with|none=>rfl|some b=>exact absurd (hs.bx_next _ _ h) fH
def Sim.com_lt{tm:List Value} (hs:Sim E F O st w af tm){b:Nat}{cs:List Value} (h:O.com b=some cs):b<w.heap.size:=by obtain⟨arr,e,fz,h1,_⟩:=hs.com_ok b cs h;grind
def Sim.com_none{tm:List Value} (hs:Sim E F O st w af tm){b:Nat} (hb:w.heap.size<=b):O.com b=none:=by cases h:O.com b with|none=>rfl|some cs=>have:=hs.com_lt h;omega
def Sim.key_lt{tm:List Value} (hs:Sim E F O st w af tm){p:Nat×List AVal} (hp:p∈st.m):p.1<st.next:=by
 rcases hs.box_ok p hp with⟨b,arr,e,h⟩|⟨v,h⟩;·exact hs.bx_next _ _ h.bx
 ·exact(hs.sx_next _ _ h.sx).1
def Sim.F_of{tm:List Value} (hs:Sim E F O st w af tm){b:Nat} (h:1<=F b):b<w.heap.size:=by
 rcases bb b w.heap.size with h'|h';·omega
 ·have:=hs.F_lt b h';omega
def Sim.le_box{tm:List Value} (hs:Sim E F O st w af tm) (x:TypeId×Nat):O.le (O.box st.next w.heap.size x):=by
 have hn:O.bx st.next=none:=by cases h:O.bx st.next with|none=>rfl|some b=>exact absurd (hs.bx_next _ _ h) fH
 refine⟨λb cs h=>⟨[],by grind[Ghost.box]⟩,λi b h=>?_,λi x h=>?_,λ_ _ h=>h,λ_ _ h=>h⟩
 ·simp only[Ghost.box];rw[aj];·exact h
  grind
 ·simp only[Ghost.box];rw[aj];·exact h
  ·intro hi;subst hi;obtain⟨b,hb⟩:=hs.tyd.1 _ _ h;grind
def Sim.newBox (hs:Sim E F O st w af a.tmps.toList){cells:Array Value}{e:TypeId}{cs:List AVal}{fz:Nat×Nat} (hfz: ∀j,j<cells.size->¬(fz.1<=j/\j<fz.2)) (hr:RepL (O.box st.next w.heap.size (e,cells.size)) cs (cells.toList.take cs.length)) (ho:ownL O w cs cells.toList) (h1: ∀v,v∈cells.toList.take cs.length->v.oneCell'=true) (ht: ∀b,F b+AP b af a.tmps.toList+AP b cs cells.toList+Ap O w b st.m<=1):Sim E F (O.box st.next w.heap.size (e,cells.size)) {m:=(st.next,cs)::st.m,next:=st.next+1} (w.alloc (.cells cells e fz)) af a.tmps.toList/\Ext F O w (O.box st.next w.heap.size (e,cells.size)) (w.alloc (.cells cells e fz))/\Rep (O.box st.next w.heap.size (e,cells.size)) (.ptr st.next 0) (.pointer (some ⟨w.heap.size,0,none⟩)):=by
 have hn:=hs.bx_none;have hle:O.le (O.box st.next w.heap.size (e,cells.size)):=hs.le_box _;have keep: ∀b,b<w.heap.size->(w.alloc (.cells cells e fz)).heap[b]?=w.heap[b]?/\(O.box st.next w.heap.size (e,cells.size)).com b=O.com b:=λb hb=>⟨alloc_old _ hb,rfl⟩;have old: ∀p,p∈st.m->(O.box st.next w.heap.size (e,cells.size)).bx p.1=O.bx p.1/\∀k,O.bx p.1=some k->(w.alloc (.cells cells e fz)).heap[k]?=w.heap[k]?:=by intro p hp;have h3:=hs.key_lt hp;exact⟨by simp only[Ghost.box];grind,λk hk=>alloc_old _ (hs.bx_lt _ _ hk)⟩
 refine⟨?_,⟨hle,λb hb=>⟨alloc_old _ (hs.F_of hb),rfl⟩,fI,rfl,rfl,rfl⟩,.ptr (by simp[Ghost.box])⟩;refine {com_ok:=?_,box_ok:=?_,sx_next:=?_,keys:=?_,inj:=?_,bx_lt:=?_,bx_next:=?_,tyd:=?_,bx_F:=?_,F_lt:=?_,glob:=?_,rep:=hs.rep.mono hle,own:=?_,tok:=?_};·intro b cs h;obtain⟨arr,e',fz,h1,h2⟩:=hs.com_ok b cs h;exact⟨arr,e',fz,by grind,h2⟩
 ·intro p hp;rcases aM.1 hp with rfl|hp;·refine .inl ⟨w.heap.size,cells,e,by simp[Ghost.box],⟨fz.1,fz.2,Nv _,hfz⟩,hr,?_,hs.com_none (av _),h1,λT n h=>by grind[Ghost.box]⟩;exact Bv hle _ _ ho λb hb=>keep b (Bw _ _ ho hb).1
  ·rcases hs.box_ok p hp with⟨b,arr,e',hb⟩|⟨v,hv⟩;rotate_left;·exact .inr ⟨v,hv.keep hle (by rw[(old p hp).1];exact hv.bx) λb hb=>keep b (Bw _ _ hv.own hb).1⟩
   obtain⟨lo,hi,h3,h4⟩:=hb.heap;have:=hs.bx_lt _ _ hb.bx;refine .inl ⟨b,arr,e',by rw[(old p hp).1];exact hb.bx,⟨lo,hi,by grind,h4⟩,hb.rep.mono hle,?_,hb.com,hb.one,λT n h=>hb.ty T n (by have h3:=hs.key_lt hp;simp only[Ghost.box]at h;rw[aj fH]at h;exact h)⟩;exact Bv hle _ _ hb.own λb hb'=>keep b (Bw _ _ hb.own hb').1
 ·intro i v h;obtain⟨h1,h2⟩:=hs.sx_next i v h;refine⟨by grind,?_⟩;simp only[Ghost.box];rw[aj fH];omega
 ·simp only[aF,bY];refine⟨λhm=>?_,hs.keys⟩;obtain⟨p,hp,e⟩:=bk.1 hm;have h3:=hs.key_lt hp;omega
 ·intro i j b hi hj;simp only[Ghost.box]at hi hj;split at hi<;>split at hj;·omega
  ·simp only[ag]at hi;subst hi;have:=hs.bx_lt _ _ hj;omega
  ·simp only[ag]at hj;subst hj;have:=hs.bx_lt _ _ hi;omega
  ·exact hs.inj i j b hi hj
 ·intro i b hi;simp only[Ghost.box]at hi;simp only[fb];split at hi;·grind
  ·have:=hs.bx_lt _ _ hi;omega
 ·intro i b hi;simp only[Ghost.box]at hi;split at hi;·grind
  ·have:=hs.bx_next _ _ hi;grind
 ·refine⟨λi x h=>?_,hs.tyd.2⟩;simp only[Ghost.box]at h⊢;split;·simp
  ·rename_i hi;rw[aj hi]at h;exact hs.tyd.1 i x h
 ·intro p b hp hb;simp only[Ghost.box]at hb;rcases aM.1 hp with rfl|hp;·simp only[aB,ag]at hb;subst hb;exact hs.F_lt _ (av _)
  ·have h3:=hs.key_lt hp;rw[aj fH]at hb;exact hs.bx_F p b hp hb
 ·intro b hb;simp only[fb]at hb;exact hs.F_lt b fH
 ·intro g cs h;exact(hs.glob g cs h).mono hle
 ·exact Bv hle _ _ hs.own λb hb=>keep b (Bw _ _ hs.own hb).1
 ·intro b;rw[Ap,Ff old];have hc:DK (O.box st.next w.heap.size (e,cells.size)) (w.alloc (.cells cells e fz)) b (st.next,cs)=AP b cs cells.toList:=by simp only[DK,Ghost.box,aB,hcells,Nv]
  grind
def Sim.newArr (hs:Sim E F O st w af a.tmps.toList){cells:Array Value}{e:TypeId}{pre spare:List Value}{fz:Nat×Nat} (hc:cells.toList=pre++spare) (h1: ∀v,v∈pre->v.oneCell'=true):Sim E F (O.arr w.heap.size pre e) st (w.alloc (.cells cells e fz)) af a.tmps.toList/\Ext F O w (O.arr w.heap.size pre e) (w.alloc (.cells cells e fz))/\(∀b,AP b af a.tmps.toList+Ap (O.arr w.heap.size pre e) (w.alloc (.cells cells e fz)) b st.m+F b+(if b=w.heap.size then 1 else 0)<=1):=by
 have hn:=hs.com_none (av _);have hle:O.le (O.arr w.heap.size pre e):=by
  refine⟨λb cs h=>⟨[],?_⟩,λi b h=>h,λi x h=>h,λb x h=>?_,λ_ _ h=>h⟩;·have:=hs.com_lt h;simp only[Ghost.arr];rw[aj fH];grind
  ·obtain⟨cs,hc⟩:=hs.tyd.2 _ _ h;have:=hs.com_lt hc;simp only[Ghost.arr];rw[aj fH];exact h
 have keep: ∀b,b<w.heap.size->(w.alloc (.cells cells e fz)).heap[b]?=w.heap[b]?/\(O.arr w.heap.size pre e).com b=O.com b:=λb hb=>⟨alloc_old _ hb,by simp only[Ghost.arr];grind⟩;have old: ∀p,p∈st.m->(O.arr w.heap.size pre e).bx p.1=O.bx p.1/\∀k,O.bx p.1=some k->(w.alloc (.cells cells e fz)).heap[k]?=w.heap[k]?:=by intro p hp;exact⟨rfl,λk hk=>alloc_old _ (hs.bx_lt _ _ hk)⟩
 have tok: ∀b,F b+AP b af a.tmps.toList+Ap (O.arr w.heap.size pre e) (w.alloc (.cells cells e fz)) b st.m<=1:=by intro b;rw[Ff old];exact hs.tok b
 refine⟨?_,⟨hle,λb hb=>keep b (hs.F_of hb),fI,rfl,rfl,rfl⟩,?_⟩
 ·refine {com_ok:=?_,box_ok:=?_,sx_next:=hs.sx_next,keys:=hs.keys,inj:=hs.inj,bx_lt:=?_,bx_next:=hs.bx_next,tyd:=?_,bx_F:=hs.bx_F,F_lt:=?_,glob:=?_,rep:=hs.rep.mono hle,own:=?_,tok:=tok}
  ·intro b cs h;simp only[Ghost.arr]at h;split at h;·rename_i hb;subst hb;simp only[ag]at h;subst h;exact⟨cells,e,fz,Nv _,⟨spare,hc⟩,λT h=>by grind[Ghost.arr]⟩
   ·rename_i hbn;obtain⟨arr,e',fz',h1,h2,h3⟩:=hs.com_ok b cs h;exact⟨arr,e',fz',by grind,h2,λT h=>h3 T (by simp_all[Ghost.arr])⟩
  ·intro p hp;rcases hs.box_ok p hp with⟨b,arr,e',hb⟩|⟨v,hv⟩;rotate_left;·exact .inr ⟨v,hv.keep hle hv.bx λb hb=>keep b (Bw _ _ hv.own hb).1⟩
   obtain⟨lo,hi,h3,h4⟩:=hb.heap;have:=hs.bx_lt _ _ hb.bx;refine .inl ⟨b,arr,e',hb.bx,⟨lo,hi,by grind,h4⟩,hb.rep.mono hle,?_,by rw[(keep b this).2];exact hb.com,hb.one,hb.ty⟩;exact Bv hle _ _ hb.own λb hb'=>keep b (Bw _ _ hb.own hb').1
  ·intro i b hi;have:=hs.bx_lt _ _ hi;grind
  ·refine⟨hs.tyd.1,λb x h=>?_⟩;simp only[Ghost.arr]at h⊢;split;·simp
   ·rename_i hi;rw[aj hi]at h;exact hs.tyd.2 b x h
  ·intro b hb;simp only[fb]at hb;exact hs.F_lt b fH
  ·intro g cs h;exact(hs.glob g cs h).mono hle
  ·exact Bv hle _ _ hs.own λb hb=>keep b (Bw _ _ hs.own hb).1
 ·intro b;split
  ·rename_i hb;subst hb;have e1:F w.heap.size=0:=hs.F_lt _ (av _);have e2:AP w.heap.size af a.tmps.toList=0:=by
    rcases bb 0 (AP w.heap.size af a.tmps.toList)with h|h;·have:=(Bw _ _ hs.own h).1;omega
    omega
   have e3:Ap (O.arr w.heap.size pre e) (w.alloc (.cells cells e fz)) w.heap.size st.m=0:=by
    rw[Ff old];have: ∀m,(∀p,p∈m->p∈st.m)->Ap O w w.heap.size m=0:=by
     intro m;induction m with
     |nil=>intro _;rfl
     | cons p m ih=>
      intro hm;rw[Ap,ih (λq hq=>hm q (aX _ hq))];rcases hs.box_ok p (hm p fI)with⟨b,arr,e',hb⟩|⟨v,hv⟩;rotate_left
      ·rw[hv.cnt];rcases bb 0 (AP w.heap.size p.2 [v])with h|h;·have:=(Bw _ _ hv.own h).1;omega
       omega
      obtain⟨lo,hi,h3,h4⟩:=hb.heap;have hc':DK O w w.heap.size p=AP w.heap.size p.2 arr.toList:=by simp[DK,hb.bx,hcells,h3]
      rcases bb 0 (AP w.heap.size p.2 arr.toList)with h|h;·have:=(Bw _ _ hb.own h).1;omega
      omega
    grind
   omega
  grind
def Ce:AVal->Bool|.iter _ _=>false|.any=>false|.tuple _=>false|.map _ _=>false|.slop _ _=>false|.vec _ _=>false|.hset _=>false|_=>true
def Rep.slice_one{w:Nat}{xs:List AVal}{o:Bool}{v:Value} (h:Rep O (.slice w xs o) v):v.oneCell'=true:=by cases h<;>rfl
def Rep.one{x:AVal}{v:Value} (h:Rep O x v) (hx:Ce x=true): ∀c,c∈v.cells.toList->c.oneCell'=true:=by cases h<;>first|(simp[Ce]at hx;done)|assumption|(rename_i h1 h2;rw[h1.slice_cells];intro c hc;simp only[aM,dw,eF]at hc;subst hc;exact h1.slice_one)|(rename_i h1 h2;rw[h2.1];intro c hc;simp only[aM,dw,eF]at hc;subst hc;exact h2.2)|(intro c hc;simp only[Value.cells,aM,dw,eF]at hc;subst hc;rfl)
def Rep.cellsOK{x:AVal}{v:Value} (h:Rep O x v) (hx:Ce x=true):RepL O (AZ x) v.cells.toList:=by cases h<;>first|(simp[Ce]at hx;done)|assumption|(rename_i h1 h2;rw[h1.slice_cells];exact .cons (.buf _ h1 h2) .nil)|(rename_i h1 h2;rw[h2.1];exact .cons (.sh h1 h2) .nil)|exact .cons (by constructor<;>assumption) .nil
def VF{x:AVal}{v:Value} (h:Rep O x v) (hx:Ce x=true) (ho:own O w x v):ownL O w (AZ x) v.cells.toList:=by cases h<;>first|(simp[Ce]at hx;done)|exact ho|(rename_i h1 h2;rw[h1.slice_cells];exact⟨ho,by simp[ownL]⟩)|(rename_i h1 h2;rw[h2.1];simp[AZ,ownL,VM.own])|exact⟨ho,by simp[ownL]⟩
theorem VH{x:AVal}{v:Value} (h:Rep O x v) (hx:Ce x=true) (b:Nat):AP b (AZ x) v.cells.toList=cnt b x v:=by
 have key: ∀(y:AVal) (u:Value),AP b [y] [u]=cnt b y u:=λy u=>by simp[AP]
 cases h<;>first|(simp[Ce]at hx;done)|exact key _ _|(rename_i h1 h2;rw[h1.slice_cells];exact key _ _)|(rename_i h1 h2;rw[h2.1];exact key _ _)|simp[cnt,AZ,Value.cells]
mutual def E8:AVal->Value->Bool|.bool a,.bool b=>a==b|.int k n,.int k' m=>decide (k=k')&&n==m|.str s,.string b=>s==b.data.toList&&decide (s.length<=CX)|.nilp,.pointer none=>true|.slice _ [] true,.slice none 0 0=>true|.nilFn,.nilFunc=>true|.nilIface,.nilIface=>true|.nmap,.map none=>true|.agg cs,.agg arr=>Gb cs arr.toList|_,_=>false def Gb:List AVal->List Value->Bool|[],[]=>true|x::xs,v::vs=>E8 x v&&v.oneCell'&&Gb xs vs|_,_=>false end
structure RepC (O:Ghost) (w:World) (x:AVal) (v:Value):Prop where
  rep:Rep O x v
  own:own O w x v
  cnt: ∀b,cnt b x v=0
  ok:Ce x=true
mutual theorem Jj (O:Ghost) (w:World):(x:AVal)->(v:Value)->E8 x v=true->RepC O w x v
 |x,v,h=>by
  unfold E8 at h;split at h;·simp at h;subst h;exact⟨.bool _,by simp[own],λb=>by simp[cnt],rfl⟩
  ·simp at h;obtain⟨rfl,rfl⟩:=h;exact⟨.int _ _,by simp[own],λb=>by simp[cnt],rfl⟩
  ·rename_i s b;simp at h;obtain⟨rfl,hn⟩:=h;exact⟨.str _ fH,by simp[own],λb=>by simp[cnt],rfl⟩
  ·exact⟨.nilp,by simp[own],λb=>by simp[cnt],rfl⟩
  ·exact⟨.snil _ _ none,by simp[own,Km],λb=>by simp[cnt,Kw],rfl⟩
  ·exact⟨.nilFn,by simp[own],λb=>by simp[cnt],rfl⟩
  ·exact⟨.nilIface,by simp[own],λb=>by simp[cnt],rfl⟩
  ·exact⟨.nmap,by simp[own],λb=>by simp[cnt],rfl⟩
  ·rename_i cs arr;obtain⟨h1,h2,h3,h4⟩:=Tg O w cs arr.toList h;exact⟨.agg h1 h2,by grind[own],λb=>by grind[cnt],rfl⟩
  grind theorem Tg (O:Ghost) (w:World):(xs:List AVal)->(vs:List Value)->Gb xs vs=true->RepL O xs vs/\(∀v,v∈vs->v.oneCell'=true)/\ownL O w xs vs/\∀b,AP b xs vs=0|[],[],_=>⟨.nil,fI,by simp[ownL],λb=>by simp[AP]⟩|[],_::_,h=>by grind[Gb]|_::_,[],h=>by grind[Gb]|x::xs,v::vs,h=>by simp only[Gb,aw]at h;obtain⟨h1,h2,h3,h4⟩:=Tg O w xs vs h.2;have h0:=Jj O w x v h.1.1;refine⟨.cons h0.rep h1,?_,by rw[ownL];exact⟨h0.own,h3⟩,λb=>by rw[AP,h0.cnt b,h4 b]⟩;simp_all end
def Alb (P:Program):Nat->TypeId->AVal|0,_=>.any|d+1,t=>match P.underlying t with|some .bool=>.bool false|some (.int k)=>.int k 0|some .string=>.str []|some (.pointer _)=>.nilp|some (.map _ _)=>.nmap|some (.slice e)=>.slice ((BS P e).getD 0) [] true|some (.struct fs)=>.agg (fs.toList.flatMap λf=>AZ (Alb P d f.type))|some (.array n e)=>.agg (List.replicate n (AZ (Alb P d e))).flatten|some (.func _ _ _)=>.nilFn|some (.interface _)=>.nilIface|_=>.any
def Ct (P:Program) (t:TypeId):Option AVal:=match P.info? t with
 |some i=>match i.zero with|some v=>let z:=Alb P 20 t;if E8 z v then some z else none|none=>none
 |none=>none
theorem Lg{P:Program}{t:TypeId}{z:AVal} (h:Ct P t=some z): ∃i v,P.info? t=some i/\i.zero=some v/\E8 z v=true:=by grind[Ct]
theorem Rk{t:TypeId}{z:AVal} (h:Ct E.P t=some z): ∃v,(zeroValue t).run E.P w=.ok v w/\RepC O w z v:=by
 unfold Ct at h;split at h
 ·rename_i i hi;split at h
  ·rename_i v hv;simp only at h;split at h;·rename_i hc;simp only[ag]at h;subst h;exact⟨v,by simp_all[zeroValue,typeInfo],Jj O w _ v hc⟩
   grind
  grind
 grind
structure Stepped (E:Env) (F:Nat->Nat) (O:Ghost) (st:St) (w:World) (a:Act) (o:Oper) (af':List AVal) (st':St) (nx:Next) (w':World) (a':Act) (O':Ghost):Prop where
  run:(execOp a.eval o).run E.P w=.ok nx w'
  upon: ∀K Q,K a' w'->o.upon E.P a K Q (.ok nx w')
  defers:a'.defers=a.defers
  ext:Ext F O w O' w'
  next:st.next<=st'.next
  sim:Sim E F O' st' w' af' a'.tmps.toList
theorem put_defers (a:Act) (dst:Option Tmp) (v:Value):(a.put dst v).defers=a.defers:=by cases dst<;>rfl
def AyT (P:Program):Nat->TypeId->Option TypeId
  |0,_=>none
  | d+1,t=>
    match P.underlying t with
    | some (.struct fs)=>
      match fs.toList with
      |[f]=>AyT P d f.type
      | [f,g]=>
        match P.underlying f.type,P.underlying g.type with
        |some (.pointer _),some (.slice e)=>some e
        |_,_=>none
      |_=>none
    |_=>none
def Co (P:Program) (t:TypeId) (n:Nat):Option (List AVal):=match Ct P t with
 |some z=>match AyT P 3 t,z with|some e,.agg [.nilp,.slice 1 [] true]=>some [.nself n t 2,.buf e [] true]|_,z=>some (AZ z)
 |none=>none
def WM (P:Program) (t:TypeId) (n:Nat):Option (List AVal):=match Co P t n with|some [.nself i T k,.buf e [] true]=>some [.nself i T k,.nbuf e]|_=>none
theorem AQa (hs:Sim E F O st w af a.tmps.toList){o:Oper}{x:AVal}{v:Value}{t:TypeId}{af1:List AVal} (hs1:Sim E F O st w af1 a.tmps.toList) (hr:Rep O x v) (ho:own O w x v) (hx:Ce x=true) (hc: ∀b,F b+AP b af1 a.tmps.toList+cnt b x v+Ap O w b st.m<=1) (hrun:(execOp a.eval o).run E.P w=.ok (.value (.pointer (some ⟨w.heap.size,0,none⟩))) (w.alloc (.cells v.cells t))):∃nx w' a' O',Stepped E F O st w a o (Ac af1 o.dst (.ptr st.next 0)) {m:=(st.next,AZ x)::st.m,next:=st.next+1} nx w' a' O':=by have hR:=hr.cellsOK hx;have hT:v.cells.toList.take (AZ x).length=v.cells.toList:=ba (by rw[hR.length];omega);obtain⟨h1,h2,h3⟩:=hs1.newBox (e:=t) (cells:=v.cells) (cs:=AZ x) (fz:=(0,0)) fI (by rw[hT];exact hR.mono (hs1.le_box _)) (VF hr hx ho) (by rw[hT];exact hr.one hx) (λb=>by grind[VH]);refine⟨_,_,_,_,hrun,λK Q hk=>hk,put_defers _ _ _,h2,fI,?_⟩;refine h1.put o.dst h3 (by simp[own]) λb=>?_;have:=h1.tok b;grind[cnt]
theorem AWo (hs:Sim E F O st w af a.tmps.toList){o:Oper}{t:TypeId}{cs:List AVal} (hop:o.op=.alloc t) (hz:Co E.P t st.next=some cs):∃nx w' a' O',Stepped E F O st w a o (Ac af o.dst (.ptr st.next 0)) {m:=(st.next,cs)::st.m,next:=st.next+1} nx w' a' O':=by
 unfold Co at hz;split at hz
 ·rename_i z hz0;obtain⟨v,hv,hc⟩:=Rk (O:=O) (w:=w) hz0;have hrun:(execOp a.eval o).run E.P w=.ok (.value (.pointer (some ⟨w.heap.size,0,none⟩))) (w.alloc (.cells v.cells t)):=by simp_all[execOp,Instr.alloc,newVar,newRow]
  split at hz
  ·rename_i e hb;cases hz;obtain⟨v',hv',h2⟩: ∃v',v=v'/\E8 (.agg [.nilp,.slice 1 [] true]) v'=true:=by obtain⟨i,v1,q1,q2,q3⟩:=Lg hz0;have:=hv;simp[zeroValue,typeInfo,q1,q2]at this;exact⟨v,rfl,by rw[<-this];exact q3⟩
   subst hv';have hcell:v.cells.toList=[.pointer none,.slice none 0 0]:=by
    cases v<;>simp[E8]at h2;rename_i arr;obtain⟨l⟩:=arr;simp only[Value.cells];match l,h2 with
    |[],h2=>grind[Gb]
    |[_],h2=>grind[Gb]
    |[p,q],h2=>
     simp[Gb]at h2;obtain⟨⟨h3,_⟩,⟨h4,_⟩⟩:=h2;have e3:p=.pointer none:=by unfold E8 at h3;split at h3<;>simp_all
     have e4:q=.slice none 0 0:=by unfold E8 at h4;split at h4<;>simp_all
     grind
    |_::_::_::_,h2=>grind[Gb]
   have hsz:v.cells.size=2:=by grind[Array.length_toList]
   obtain⟨h1,h2,h3⟩:=hs.newBox (e:=t) (cells:=v.cells) (cs:=[.nself st.next t 2,.buf e [] true]) (fz:=(0,0)) fI (by rw[hcell,hsz];refine .cons (.nself (by simp[Ghost.box])) (.cons (.buf _ (.snil _ _ _) ⟨rfl,rfl⟩) .nil)) (by rw[hcell];simp only[ownL,VM.own,Km,dR,cF];intro b hb;grind[CO]) (by rw[hcell];intro u hu;simp at hu;rcases hu with rfl|rfl<;>rfl) (λb=>by rw[hcell];have:=hs.tok b;grind[AP,cnt,CO]);refine⟨_,_,_,_,hrun,λK Q hk=>hk,put_defers _ _ _,h2,fI,?_⟩;refine h1.put o.dst h3 (by simp[own]) λb=>?_;have:=h1.tok b;grind[cnt]
  ·cases hz;exact AQa hs hs hc.rep hc.own hc.ok (λb=>by rw[hc.cnt b];have:=hs.tok b;omega) (t:=t) hrun
 grind
theorem ARG{i k:Nat}{T e:TypeId}{z:AVal}{v:Value} (h:E8 z v=true) (hz:AZ z=[.nself i T k,.buf e [] true]):False:=by cases z<;>simp[AZ]at hz;subst hz;cases v<;>simp[E8]at h;rename_i arr;obtain⟨l⟩:=arr;cases l<;>simp[Gb,E8]at h
theorem AQW (hs:Sim E F O st w af a.tmps.toList){o:Oper}{t:TypeId}{cs:List AVal} (hop:o.op=.alloc t) (hz:WM E.P t st.next=some cs):∃nx w' a' O',Stepped E F O st w a o (Ac af o.dst (.ptr st.next 0)) {m:=(st.next,cs)::st.m,next:=st.next+1} nx w' a' O':=by
 unfold WM at hz;split at hz;rotate_left;·grind
 rename_i ii TT kk ee hA;simp only[ag]at hz;subst hz;unfold Co at hA;split at hA
 ·rename_i z hz0;obtain⟨v,hv,hc⟩:=Rk (O:=O) (w:=w) hz0;have hrun:(execOp a.eval o).run E.P w=.ok (.value (.pointer (some ⟨w.heap.size,0,none⟩))) (w.alloc (.cells v.cells t)):=by simp_all[execOp,Instr.alloc,newVar,newRow]
  split at hA
  ·rename_i e hb;cases hA;obtain⟨v',hv',h2⟩: ∃v',v=v'/\E8 (.agg [.nilp,.slice 1 [] true]) v'=true:=by obtain⟨i,v1,q1,q2,q3⟩:=Lg hz0;have:=hv;simp[zeroValue,typeInfo,q1,q2]at this;exact⟨v,rfl,by rw[<-this];exact q3⟩
   subst hv';have hcell:v.cells.toList=[.pointer none,.slice none 0 0]:=by
    cases v<;>simp[E8]at h2;rename_i arr;obtain⟨l⟩:=arr;simp only[Value.cells];match l,h2 with
    |[],h2=>grind[Gb]
    |[_],h2=>grind[Gb]
    |[p,q],h2=>
     simp[Gb]at h2;obtain⟨⟨h3,_⟩,⟨h4,_⟩⟩:=h2;have e3:p=.pointer none:=by unfold E8 at h3;split at h3<;>simp_all
     have e4:q=.slice none 0 0:=by unfold E8 at h4;split at h4<;>simp_all
     grind
    |_::_::_::_,h2=>grind[Gb]
   have hsz:v.cells.size=2:=by grind[Array.length_toList]
   obtain⟨h1,h2,h3⟩:=hs.newBox (e:=t) (cells:=v.cells) (cs:=[.nself st.next t 2,.nbuf ee]) (fz:=(0,0)) fI (by rw[hcell,hsz];refine .cons (.nself (by simp[Ghost.box])) (.cons (.nbuf _) .nil)) (by grind[ownL,VM.own]) (by rw[hcell];intro u hu;simp at hu;rcases hu with rfl|rfl<;>rfl) (λb=>by rw[hcell];have:=hs.tok b;grind[AP,cnt]);refine⟨_,_,_,_,hrun,λK Q hk=>hk,put_defers _ _ _,h2,fI,?_⟩;refine h1.put o.dst h3 (by simp[own]) λb=>?_;have:=h1.tok b;grind[cnt]
  grind[Option.some.injEq,Lg,ARG]
 grind
theorem AXR (hs:Sim E F O st w af a.tmps.toList){o:Oper}{t:TypeId}{x:Operand} (hop:o.op=.box t x) (hx:Ce (rd E af t x)=true):∃nx w' a' O',Stepped E F O st w a o (Ac (stripAt af x) o.dst (.ptr st.next 0)) {m:=(st.next,AZ (rd E af t x))::st.m,next:=st.next+1} nx w' a' O':=by
 refine AQa hs (hs.stripAt x) (hs.rd t x) (hs.rd_own t x) hx (λb=>?_) (t:=t) ?_;·have:=hs.rd_cnt t x b;have:=hs.tok b;omega
 simp_all[execOp,Instr.box,newVar,newRow]
theorem VP (hs:Sim E F O st w af a.tmps.toList){o:Oper}{r:AVal} (h:Dv E o af=some r):∃nx w' a' O',Stepped E F O st w a o (Ac af o.dst r.strip) st nx w' a' O':=by obtain⟨v,hv,hr⟩:=ADT hs h;exact⟨_,_,_,O,hv,λK Q hk=>hk,put_defers _ _ _,Ext.refl _ _ _,av _,hs.putStrip o.dst hr⟩
theorem Y3 (hs:Sim E F O st w af a.tmps.toList){o:Oper}{x:Operand} (hop:o.op=.move x\/o.op=.assign x):∃nx w' a' O',Stepped E F O st w a o (Ac (stripAt af x) o.dst (rd E af o.type x)) st nx w' a' O':=by
 refine⟨.value (a.eval x),w,a.put o.dst (a.eval x),O,?_,λK Q hk=>hk,put_defers _ _ _,Ext.refl _ _ _,av _,?_⟩;·rcases hop with h|h<;>simp[execOp,h]
 ·refine(hs.stripAt x).put o.dst (hs.rd o.type x) (hs.rd_own o.type x) λb=>?_;have:=hs.rd_cnt o.type x b;have:=hs.tok b;omega
theorem AYm (hs:Sim E F O st w af a.tmps.toList){o:Oper}{t:TypeId}{x:Operand}{lo hi mx:Option Operand}{l h m:Option Int}{r:AVal} (hop:o.op=.slice t x lo hi mx) (hl:rdo E af lo=some l) (hh:rdo E af hi=some h) (hm:rdo E af mx=some m) (hr:GD E t (rd E af t x) l h m=some r):∃nx w' a' O',Stepped E F O st w a o (Ac af o.dst r) st nx w' a' O':=by
 obtain⟨kl,el⟩:=QZ hs hl;obtain⟨kh,eh⟩:=QZ hs hh;obtain⟨km,em⟩:=QZ hs hm;obtain⟨u,h1,h2,h3,h4⟩:=AL0 (w:=w) (kl:=kl) (kh:=kh) (km:=km) (hs.rd t x) hr;refine⟨.value u,w,a.put o.dst u,O,?_,λK Q hk=>hk,put_defers _ _ _,Ext.refl _ _ _,av _,?_⟩;·simp_all[execOp]
 ·refine hs.put o.dst h2 h4 λb=>?_;rw[h3 b];have:=hs.tok b;omega
end
end Go.VM
namespace Go.VM
def Xh{m:List (Nat×List AVal)}{i:Nat}{x:List AVal} (hk:(m.map (·.1)).Nodup){p:Nat×List AVal} (h:p∈A7 m i x):(p=(i,x)/\∃c,(i,c)∈m)\/(p∈m/\p.1≠i):=by
 induction m with
 |nil=>grind[A7]
 | cons q m ih=>
  obtain⟨j,c⟩:=q;simp only[aF,bY]at hk;simp only[A7]at h;split at h
  ·rename_i e;subst e;rcases aM.1 h with rfl|h;·simp
   grind
  ·rename_i e;rcases aM.1 h with rfl|h;·grind
   grind
def Ir {O O':Ghost}{w w':World}{b:Nat}{m:List (Nat×List AVal)}{i:Nat}{cs x:List AVal} (hk:(m.map (·.1)).Nodup) (hg:Ag m i=some cs) (ho: ∀p,p∈m->p.1≠i->DK O' w' b p=DK O w b p):Ap O' w' b (A7 m i x)+DK O w b (i,cs)=Ap O w b m+DK O' w' b (i,x):=by
 induction m with
 |nil=>grind[Ag]
 | cons q m ih=>
  obtain⟨j,c⟩:=q;simp only[aF,bY]at hk;simp only[Ag]at hg;simp only[A7];split at hg
  ·rename_i e;subst e;simp only[ag]at hg;subst hg;rw[an rfl];simp only[Ap];have:Ap O' w' b m=Ap O w b m:=by
    have hm: ∀p,p∈m->p.1≠i:=λp hp e=>hk.1 (bk.2 ⟨p,hp,e⟩);clear ih;induction m with
    |nil=>rfl
    | cons p m ih2=>
     rw[Ap,Ap,ho p fI (hm p fI),ih2 ?_ ?_ ?_]
     ·intro q hq;rcases aM.1 hq with rfl|hq;·exact ho _ fI
      ·exact ho q (aX _ (aX _ hq))
     ·simp only[aF,aM,fG,bY]at hk;exact⟨hk.1.2,hk.2.2⟩
     ·exact λq hq=>hm q (aX _ hq)
   omega
  ·rename_i e;rw[aj e];grind[Ap]
def Qd (m:List (Nat×List AVal)) (i:Nat) (x y:List AVal):A7 (A7 m i x) i y=A7 m i y:=by induction m<;>grind[A7]
def IW{m:List (Nat×List AVal)}{i:Nat}{c x:List AVal} (h:Ag m i=some c):Ag (A7 m i x) i=some x:=by induction m with|nil=>grind[Ag]|cons p m ih=>obtain⟨j,d⟩:=p;simp only[Ag]at h;simp only[A7];split<;>simp_all[Ag]
def AEU{m:List (Nat×List AVal)}{i:Nat}{c:List AVal} (h:Ag m i=some c):A7 m i c=m:=by induction m with|nil=>rfl|cons p m ih=>obtain⟨j,d⟩:=p;simp only[Ag]at h;simp only[A7];split<;>simp_all
def putCells (cs:List AVal) (off:Nat):List AVal->List AVal|[]=>cs|c::r=>putCells (cs.set off c) (off+1) r
section
variable{E:Env}{F:Nat->Nat}{O:Ghost}{st:St}{w:World}{af:List AVal}{a:Act}
theorem _root_.List.getElem?_take_some{α:Type}{l:List α}{n i:Nat}{x:α} (h:(l.take n)[i]?=some x):l[i]?=some x:=by grind
def BoxOK.le{i:Nat}{cs:List AVal}{b:Nat}{arr:Array Value}{e:TypeId} (h:BoxOK O w (i,cs) b arr e):cs.length<=arr.size:=by have:=h.rep.length;grind
theorem Sim.box{tm:List Value} (hs:Sim E F O st w af tm){i:Nat}{cs:List AVal}{b0:Nat} (h:Ag st.m i=some cs) (hbx:O.bx i=some b0): ∃b arr e,BoxOK O w (i,cs) b arr e:=by
 rcases hs.box_ok _ (Lj h)with h|⟨v,hv⟩;·exact h
 ·have:=hv.bx;grind
def Sy (w:World) (b off:Nat) (v:Value){arr:Array Value}{e:TypeId}{fz:Nat×Nat} (h:w.heap[b]?=some (.cells arr e fz)):(w.setCell ⟨b,off,none⟩ v).heap[b]?=some (.cells (arr.setIfInBounds off v) e fz):=by grind[World.setCell]
theorem JU (w:World) (b off k:Nat) (v:Value) (h:k≠b):(w.setCell ⟨b,off,none⟩ v).heap[k]?=w.heap[k]?:=by simp only[World.setCell,dW];rw[aj (λe=>h e.symm)]
def Sim.setBox (hs:Sim E F O st w af a.tmps.toList){i b:Nat}{cs cs':List AVal}{arr arr':Array Value}{e:TypeId}{lo hi:Nat}{w':World} (hg:Ag st.m i=some cs) (hb:BoxOK O w (i,cs) b arr e) (hw:w'.heap[b]?=some (.cells arr' e (lo,hi))) (hf: ∀j,j<arr'.size->¬(lo<=j/\j<hi)) (hk: ∀k,k≠b->w'.heap[k]?=w.heap[k]?) (hz:w'.heap.size=w.heap.size) (ho:w'.os=w.os) (hou:w'.output=w.output) (hta:w'.tape=w.tape) (hr:RepL O cs' (arr'.toList.take cs'.length)) (hown:ownL O w cs' arr'.toList) (h1: ∀v,v∈arr'.toList.take cs'.length->v.oneCell'=true) (ht: ∀n,F n+AP n af a.tmps.toList+AP n cs' arr'.toList+Ap O w n st.m<=1+AP n cs arr.toList) (hsz:arr'.size=arr.size:=by simp):Sim E F O {st with m:=A7 st.m i cs'} w' af a.tmps.toList/\Ext F O w O w':=by
 have comb: ∀n cs0,O.com n=some cs0->n≠b:=λn cs0 h e=>by subst e;rw[hb.com]at h;cases h
 have keep: ∀n,Held O w n->w'.heap[n]?=w.heap[n]?/\O.com n=O.com n:=λn h=>⟨hk n (by obtain⟨lo0,hi0,hh0,_⟩:=hb.heap;rcases h with⟨c,h⟩|⟨s,p,h⟩|⟨s,p,h⟩<;>grind),rfl⟩;have hFb:F b=0:=hs.bx_F (i,cs) b (Lj hg) hb.bx;obtain⟨lo0,hi0,hh0,_⟩:=hb.heap;have oth: ∀p,p∈st.m->p.1≠i->∀k,O.bx p.1=some k->k≠b:=λp hp hne k hk' e=>by rw[e]at hk';exact hne (hs.inj _ _ _ hk' hb.bx)
 refine⟨?_,⟨O.le_refl,λn hn=>⟨hk n (λe=>by grind),rfl⟩,fH,ho,hou,hta⟩⟩;refine {com_ok:=?_,box_ok:=?_,sx_next:=hs.sx_next,keys:=?_,inj:=hs.inj,bx_lt:=?_,bx_next:=hs.bx_next,tyd:=hs.tyd,bx_F:=?_,F_lt:=?_,glob:=hs.glob,rep:=hs.rep,own:=?_,tok:=?_};·intro n c h;obtain⟨ar,e',fz,h2,h3⟩:=hs.com_ok n c h;grind
 ·intro p hp;rcases Xh hs.keys hp with⟨rfl,_⟩|⟨hp,hne⟩;·exact .inl ⟨b,arr',e,hb.bx,⟨lo,hi,hw,hf⟩,hr,Bv O.le_refl _ _ hown λn hn=>keep n (Bw _ _ hown hn).2,hb.com,h1,λT n h=>by rw[hsz];exact hb.ty T n h⟩
  ·rcases hs.box_ok p hp with⟨k,ar,e',hp'⟩|⟨v,hv⟩;rotate_left;·exact .inr ⟨v,hv.keep O.le_refl hv.bx λn hn=>keep n (Bw _ _ hv.own hn).2⟩
   obtain⟨l2,h2,h3,h4⟩:=hp'.heap;exact .inl ⟨k,ar,e',hp'.bx,⟨l2,h2,by rw[hk k (oth p hp hne k hp'.bx)];omega,h4⟩,hp'.rep,Bv O.le_refl _ _ hp'.own λn hn=>keep n (Bw _ _ hp'.own hn).2,hp'.com,hp'.one,hp'.ty⟩
 ·rw[AEd];exact hs.keys
 ·intro j n h;rw[hz];exact hs.bx_lt j n h
 ·intro p n hp hn;rcases Xh hs.keys hp with⟨rfl,c,hc⟩|⟨hp,hne⟩;·exact hs.bx_F (i,c) n hc hn
  ·exact hs.bx_F p n hp hn
 ·intro n hn;rw[hz]at hn;exact hs.F_lt n hn
 ·exact Bv O.le_refl _ _ hs.own λn hn=>keep n (Bw _ _ hs.own hn).2
 ·intro n;have e1:=Ir (O:=O) (O':=O) (w:=w) (w':=w') (b:=n) (x:=cs') hs.keys hg (λp hp hne=>Yw rfl λk hkk=>hk k (oth p hp hne k hkk));have e2:DK O w n (i,cs)=AP n cs arr.toList:=by simp only[DK,hb.bx,hcells,hh0]
  have e3:DK O w' n (i,cs')=AP n cs' arr'.toList:=by simp only[DK,hb.bx,hcells,hw]
  grind
def Sim.setSh{tm:List Value} (hs:Sim E F O st w af tm){i:Nat}{cs cs':List AVal}{v:Value} (hg:Ag st.m i=some cs) (hv:ShOK O w (i,cs) v) (hr:RepL O cs' [v]) (hown:ownL O w cs' [v]) (ht: ∀n,F n+AP n af tm+AP n cs' [v]+Ap O w n st.m<=1+AP n cs [v]):Sim E F O {st with m:=A7 st.m i cs'} w af tm:=by
 refine {hs with box_ok:=?_,keys:=?_,bx_F:=?_,tok:=?_}
 ·intro p hp;rcases Xh hs.keys hp with⟨rfl,_⟩|⟨hp,hne⟩;·exact .inr ⟨v,hv.sx,hv.bx,hr,hown⟩
  ·exact hs.box_ok p hp
 ·rw[AEd];exact hs.keys
 ·intro p n hp hn;rcases Xh hs.keys hp with⟨rfl,c,hc⟩|⟨hp,hne⟩;·exact hs.bx_F (i,c) n hc hn
  ·exact hs.bx_F p n hp hn
 ·intro n;have e1:=Ir (O:=O) (O':=O) (w:=w) (w':=w) (b:=n) (x:=cs') hs.keys hg (λp hp hne=>rfl);have e2:DK O w n (i,cs)=AP n cs [v]:=hv.cnt n;have e3:DK O w n (i,cs')=AP n cs' [v]:=by simp only[DK,hv.bx,hv.sx]
  grind
def APy{cells:List AVal}: ∀ {vs:List Value}{k off:Nat}{st:St}{w:World}{cs:List AVal}{i b base:Nat},Sim E F O st w af a.tmps.toList->RepL O cells vs->ownL O w cells vs->(∀v,v∈vs->v.oneCell'=true)->Ag st.m i=some cs->O.bx i=some b->base+k=off->off+cells.length<=cs.length->(∀n,F n+AP n af a.tmps.toList+AP n cells vs+Ap O w n st.m<=1)->∃w',(storeCells ⟨b,base,none⟩ vs k).run E.P w=.ok () w'/\Sim E F O {st with m:=A7 st.m i (putCells cs off cells)} w' af a.tmps.toList/\Ext F O w O w':=by
 induction cells with
 |nil=>intro vs k off st w cs i b base hs hr ho h1 hg hbx he hl ht;cases hr;refine⟨w,by simp[storeCells],?_,Ext.refl _ _ _⟩;rw[putCells,AEU hg];omega
 | cons c cells ih=>
  intro vs k off st w cs i b base hs hr ho h1 hg hbx he hl ht;cases hr with
  | cons hc hr=>
   rename_i v vs;rw[ownL]at ho;obtain⟨b',arr,e,hb⟩:=hs.box hg hbx;have:b'=b:=by have:=hb.bx;grind
   subst this;obtain⟨lo,hi,hh,hf⟩:=hb.heap;have hlen:cs.length<=arr.size:=hb.le;simp only[ae]at hl;have hoff:off<arr.size:=fH;have hcell:w.cell? ⟨b',off,none⟩=some arr[off]:=by grind[World.cell?]
   have hfz:w.frozen? ⟨b',off,none⟩=false:=by simp_all[World.frozen?]
   have hst:(store ⟨b',off,none⟩ v).run E.P w=.ok () (w.setCell ⟨b',off,none⟩ v):=by grind[run_store]
   have hset:(arr.setIfInBounds off v).toList=arr.toList.set off v:=fI;obtain⟨s1,x1⟩:=hs.setBox (w':=w.setCell ⟨b',off,none⟩ v) (cs':=cs.set off c) (arr':=arr.setIfInBounds off v) (lo:=lo) (hi:=hi) hg hb (Sy w b' off v hh) (by grind) (λk hk=>JU w b' off k v hk) fI rfl rfl rfl (by rw[hset,bZ,List.take_set];exact hb.rep.set off hc) (by rw[hset];exact hb.own.set off ho.1) (by
    rw[hset,bZ,List.take_set];intro u hu;rcases eP hu with h|h;·exact hb.one u h
    grind) (λn=>by grind[H6,AP]);have hown':ownL O (w.setCell ⟨b',off,none⟩ v) cells vs:=Bv O.le_refl _ _ ho.2 λn hn=>by
    rcases (Bw _ _ ho.2 hn).2 with⟨c0,hc0⟩|⟨s0,p0,hc0⟩|⟨s0,p0,hc0⟩;·exact⟨JU w b' off n v (λe=>by subst e;rw[hb.com]at hc0;grind),rfl⟩
    ·exact⟨JU w b' off n v (λe=>by grind),rfl⟩
    ·exact⟨JU w b' off n v (λe=>by grind),rfl⟩
   have ht': ∀n,F n+AP n af a.tmps.toList+AP n cells vs+Ap O (w.setCell ⟨b',off,none⟩ v) n (A7 st.m i (cs.set off c))<=1:=by
    intro n;have oth: ∀p,p∈st.m->p.1≠i->∀k,O.bx p.1=some k->k≠b':=λp hp hne k hk e=>by rw[e]at hk;exact hne (hs.inj _ _ _ hk hb.bx)
    have e1:=Ir (O:=O) (O':=O) (w:=w) (w':=w.setCell ⟨b',off,none⟩ v) (b:=n) (x:=cs.set off c) hs.keys hg (λp hp hne=>Yw rfl λk hkk=>JU w b' off k v (oth p hp hne k hkk));have e2:DK O w n (i,cs)=AP n cs arr.toList:=by grind[DK,hcells]
    have e3:DK O (w.setCell ⟨b',off,none⟩ v) n (i,cs.set off c)=AP n (cs.set off c) (arr.toList.set off v):=by simp only[DK,hb.bx,hcells,Sy w b' off v hh,hset]
    grind[H6,AP]
   obtain⟨w',r2,s2,x2⟩:=ih (k:=k+1) (off:=off+1) (base:=base) s1 hr hown' (λu hu=>h1 u (aX _ hu)) (IW hg) hbx fH (by grind) ht';refine⟨w',?_,?_,x1.trans x2⟩;·grind[storeCells,addr_add,Sem.run_bind,Result.andThen_ok]
   ·simp only[Qd]at s2;exact s2
def WZ (st:St) (x:AVal):Option (Nat×Nat×List AVal):=match x with
 |.sh i=>match Ag st.m i with|some [.slop w xs]=>some (i,w,xs)|_=>none
 |.sptr i w n=>match Ag st.m i with|some [.slop w' xs]=>if w'=w/\xs.length=n then some (i,w,xs)else none|_=>none
 |_=>none
def MJ:AVal->Bool|.sh _=>true|_=>false
def ABD (E:Env) (t:TypeId) (addr v:AVal) (st:St):Option St:=match addr,WZ st addr with|.sptr _ _ _,some (i,w,xs)=>if Ce v=true/\BS E.P t=some w/\(AZ v).length=w then some {st with m:=A7 st.m i [.slice w (xs++[v.strip]) true]}else none|_,_=>none
def ZW (E:Env) (t:TypeId) (addr v:AVal) (st:St):Option St:=match addr with
 |.ptr i off=>match Ag st.m i with|some cs=>if Ce v=true/\BS E.P t=some (AZ v).length/\off+(AZ v).length<=cs.length then some {st with m:=A7 st.m i (putCells cs off (AZ v))}else none|none=>none
 |_=>none
def AB5 (E:Env) (t:TypeId) (addr v:AVal) (st:St):Option St:=match addr with
 |.vptr i w n k=>match Ag st.m i with|some [.vec w' xs]=>if w'=w/\k=0/\n<xs.length/\Ce v=true/\BS E.P t=some w/\(AZ v).length=w then some {st with m:=A7 st.m i [.vec w (xs.set n v.strip)]}else none|_=>none
 |_=>none
def ACv (E:Env) (t:TypeId) (addr v:AVal) (st:St):Option St:=match addr with
 |.vptr i w n k=>match Ag st.m i with|some [.vec w' xs]=>if w'=w/\n<xs.length/\Ce v=true/\Ce (xs.getD n .any)=true/\(AZ (xs.getD n .any)).length=w/\BS E.P t=some (AZ v).length/\k+(AZ v).length<=w then some {st with m:=A7 st.m i [.vec w (xs.set n (.agg (putCells (AZ (xs.getD n .any)) k (stripL (AZ v)))))]}else none|_=>none
 |_=>none
def Ym (E:Env) (t:TypeId) (addr v:AVal) (st:St):Option St:=match AB5 E t addr v st with|some s=>some s|none=>ACv E t addr v st
def R6 (E:Env) (t:TypeId) (addr v:AVal) (st:St):Option St:=match addr with|.ptr i off=>ZW E t (.ptr i off) v st|.vptr i w n k=>Ym E t (.vptr i w n k) v st|addr=>ABD E t addr v st
def O3 (E:Env) (t:TypeId) (addr v:AVal) (st:St):Option St:=match v with
 |.sh i=>match Ag st.m i with|some [.slice w xs o]=>if MJ addr=false then R6 E t addr (.slice w xs o) {st with m:=A7 st.m i [.slice w xs false]}else none|_=>R6 E t addr (.sh i) st
 |v=>R6 E t addr v st
theorem AQZ (hs:Sim E F O st w af a.tmps.toList){o:Oper}{t:TypeId}{x y:Operand}{st':St} (hop:o.op=.store t x y) (hd:o.dst=none) (h:ZW E t (rd E af 0 x) (rd E af t y) st=some st'):∃nx w' a' O',Stepped E F O st w a o (stripAt af y) st' nx w' a' O'/\a'.tmps=a.tmps:=by
 have hx:=hs.rd 0 x;generalize rd E af 0 x=ax at *;generalize hv:a.eval x=vx at hx;unfold ZW at h;split at h
 ·rename_i i off;cases hx with
  |ptr hbx=>
   rename_i b;split at h
   ·rename_i cs hg;split at h
    ·rename_i hc;obtain⟨hok,hz,hl⟩:=hc;simp only[ag]at h;subst h;have hr:=hs.rd t y;have ho:=hs.rd_own t y;have hsz:(a.eval y).cells.size=(AZ (rd E af t y)).length:=by rw[(hr.cellsOK hok).length,aD]
     obtain⟨w',r1,s1,x1⟩:=APy (cells:=AZ (rd E af t y)) (k:=0) (base:=off) (hs.stripAt y) (hr.cellsOK hok) (VF hr hok ho) (hr.one hok) hg hbx fI hl (λn=>by rw[VH hr hok];have:=hs.rd_cnt t y n;have:=hs.tok n;omega);refine⟨.skip,w',a.put o.dst undef,O,⟨?_,λK Q hk=>hk,put_defers _ _ _,x1,av _,?_⟩,by rw[hd];rfl⟩;·simp only[execOp,hop,hv,Instr.storeAt,Instr.sureAddr];simp[storeVar,DN hz,hsz,r1]
     ·rw[hd];exact s1
    grind
   grind
 grind
def RepS.elem{w:Nat}: ∀ {xs:List AVal}{cs:List Value}{n:Nat},RepS O w xs cs->n<xs.length->∃v,Rep O (xs.getD n .any) v/\v.cells.size=w/\(∀c,c∈v.cells.toList->c.oneCell'=true)/\∀j u,v.cells.toList[j]?=some u->cs[n * w+j]?=some u
 |[],_,_,_,hn=>absurd hn (cq _)
 | x::xs,_,n,.cons (v:=v) (cs:=cs) h hw t,hn=>by
  cases n with
  |zero=>refine⟨v,h,hw.1,hw.2,λj u hj=>?_⟩;rw[eA,bI,eQ (dB.1 hj).1];exact hj
  |succ n=>
   obtain⟨u,h1,h2,h3,h4⟩:=RepS.elem (n:=n) t (by simpa using hn);refine⟨u,h1,h2,h3,λj y hj=>?_⟩;have h5:v.cells.toList.length=w:=by rw[aD];exact hw.1
   rw[eI (by rw[h5,bG];omega),h5,show(n+1) * w+j-w=n * w+j by rw[bG];omega];exact h4 j y hj
def ABr{tm:List Value} (hs:Sim E F O st w af tm){i:Nat}{cs:List AVal}{v:Value} (hsx:O.sx i=some v) (hg:Ag st.m i=some cs):ShOK O w (i,cs) v:=by
 rcases hs.box_ok _ (Lj hg)with⟨b,arr,e,hb⟩|⟨u,hv⟩;·have:=(hs.sx_next _ _ hsx).2;have h2:=hb.bx;rw[this]at h2;cases h2
 ·have:u=v:=by have:=hv.sx;rw[hsx]at this;exact(cD this).symm
  subst this;exact hv
def AGQ{tm:List Value} (hs:Sim E F O st w af tm){i wd b off len cap:Nat}{xs:List AVal} (hsx:O.sx i=some (.slice (some ⟨b,off,none⟩) len cap)) (hg:Ag st.m i=some [.vec wd xs]):len=xs.length/\∃arr e lo hi,w.heap[b]?=some (.cells arr e (lo,hi))/\(∀j,j<arr.size->¬(lo<=j/\j<hi))/\O.com b=some []/\xs.length<=cap/\xs.length<=CX/\off+cap * wd<=arr.size/\RepS O wd xs (arr.toList.drop off):=by
 have hv:=(ABr hs hsx hg).own;simp only[ownL,VM.own,cF]at hv;rcases hv with⟨_,h⟩|⟨b',off',cap',arr,e,lo,hi,h,h1⟩;·cases h
 ·cases h;exact⟨rfl,arr,e,lo,hi,h1⟩
def Sv (st:St):AVal->Option (List AVal)
 |.ptr i off=>(Ag st.m i).map (·.drop off)
 |.cptr cs=>some cs
 |.vptr i w n k=>match Ag st.m i with|some [.vec w' xs]=>if w'=w/\n<xs.length/\Ce (xs.getD n .any)=true then some ((AZ (xs.getD n .any)).drop k)else none|_=>none
 |_=>none
def SL (E:Env) (t:TypeId) (addr:AVal) (st:St):Option AVal:=match Sv st addr,BS E.P t with|some cs,some z=>if Ah E.P t then V6 cs 0 z (BN E.P t)else none|_,_=>none
def AmF{t:TypeId}{cs:List AVal}{vs:List Value}{b off z:Nat}{r:AVal} (hr:RepL O cs vs) (h1: ∀v,v∈vs->v.oneCell'=true) (hc: ∀j v,vs[j]?=some v->w.cell? ⟨b,off+j,none⟩=some v) (hk:Ah E.P t=true) (hz:BS E.P t=some z) (h:V6 cs 0 z (BN E.P t)=some r): ∃u,(Instr.loadAt t (.pointer (some ⟨b,off,none⟩))).run E.P w=.ok u w/\Rep O r u:=by
 have ha:=Q8 (w:=w) hk;unfold V6 at h;split at h
 ·rename_i hg;rw[hg]at ha;split at h
  ·rename_i hl;simp only[ag]at h;subst h;have hlen:(vs.take z).length=z:=by rw[bg,<-hr.length];omega
   have key:=dM (P:=E.P) w ⟨b,off,none⟩ (vs.take z) (λj v hj=>by
    rw[addr_add];apply hc;rw[dc]at hj;split at hj;·exact hj
    ·cases hj);rw[hlen]at key;refine⟨.agg (vs.take z).toArray,?_,.agg ?_ ?_⟩;·simp[Instr.loadAt,Instr.sureAddr,loadVar,ha,DN hz,key]
   ·simp only[aO];exact hr.take z
   grind
  grind
 ·rename_i hg;rw[eZ]at hg;rw[hg]at ha;obtain⟨v,hv,hrep⟩:=hr.get? h;have hc0:=hc 0 v hv;simp_all[Instr.loadAt,Instr.sureAddr,loadVar]
def AD7 (hs:Sim E F O st w af a.tmps.toList){x:AVal}{v:Value}{cs:List AVal} (hx:Rep O x v) (h:Sv st x=some cs):∃b off vs,v=.pointer (some ⟨b,off,none⟩)/\RepL O cs vs/\(∀v,v∈vs->v.oneCell'=true)/\∀j u,vs[j]?=some u->w.cell? ⟨b,off+j,none⟩=some u:=by
 unfold Sv at h;split at h
 ·rename_i i off;cases hx with
  |ptr hbx=>
   rename_i b;cases hg:Ag st.m i with
   |none=>grind
   |some c=>
    simp only[hg,aN,ag]at h;subst h;obtain⟨b',arr,e,hb⟩:=hs.box hg hbx;have:b'=b:=by have:=hb.bx;grind
    subst this;obtain⟨lo,hi,hh,hf⟩:=hb.heap;refine⟨b',off,(arr.toList.take c.length).drop off,rfl,hb.rep.drop off,λv hv=>hb.one v (cx hv),λj u hj=>?_⟩;grind[World.cell?]
 ·simp only[ag]at h;subst h;cases hx with
  |cptr hb hd hr ho=>
   rename_i b off cells vs rest;obtain⟨arr,e,fz,hh,⟨ds,hds⟩,_⟩:=hs.com_ok _ _ hb;refine⟨b,off,vs,rfl,hr,ho,λj u hj=>?_⟩;have h1:cells[off+j]?=some u:=by rw[<-bV,hd,eQ (dB.1 hj).1];omega
   have h2:arr.toList[off+j]?=some u:=by grind
   grind[World.cell?]
 ·rename_i i w' n k;split at h
  ·rename_i w2 xs hg;split at h;·rename_i hc;obtain⟨rfl,hn,hok⟩:=hc;simp only[ag]at h;subst h;cases hx with|vptr hsx=>rename_i b off len cap;obtain⟨_,arr,e,lo,hi,h1,_,_,_,_,_,hS⟩:=AGQ hs hsx hg;obtain⟨u,hu,hz,ho,hj⟩:=hS.elem hn;refine⟨b,off+(n * w2+k),u.cells.toList.drop k,rfl,(hu.cellsOK hok).drop k,λv hv=>ho v (cx hv),λj y hy=>?_⟩;rw[bV]at hy;have h2:=hj _ _ hy;rw[bV]at h2;simp only[World.cell?,h1];rw[show off+(n * w2+k)+j=off+(n * w2+(k+j)) by omega];simpa using h2
   ·cases h
  ·cases h
 ·cases h
theorem Aez (hs:Sim E F O st w af a.tmps.toList){o:Oper}{t:TypeId}{x:Operand}{r:AVal} (hop:o.op=.load t x) (h:SL E t (rd E af 0 x) st=some r):∃nx w' a' O',Stepped E F O st w a o (Ac af o.dst r.strip) st nx w' a' O':=by
 unfold SL at h;split at h
 ·rename_i cs z hc hz;split at h;·rename_i hk;obtain⟨b,off,vs,hv,hr,h1,hcell⟩:=AD7 hs (hs.rd 0 x) hc;obtain⟨u,hu,hrep⟩:=AmF hr h1 hcell hk hz h;exact⟨.value u,w,_,O,by simp_all[execOp],λK Q hk=>hk,put_defers _ _ _,Ext.refl _ _ _,av _,hs.putStrip o.dst hrep⟩
  grind
 grind
def R8 (E:Env) (t:TypeId) (addr:AVal) (st:St):Option (AVal×St):=
  match addr with
  | .ptr i off=>
    match Ag st.m i with
    | some cs=>
      if Ah E.P t=true/\BN E.P t=false then
        match cs[off]? with
        |some r=>some (r,{st with m:=A7 st.m i (cs.set off r.strip)})
        |none=>none
      else if Ah E.P t=true/\BN E.P t=true/\off=0/\BS E.P t=some cs.length then some (.agg cs,{st with m:=A7 st.m i (stripL cs)})
      else none
    |none=>none
  |_=>none
theorem AUQ (hs:Sim E F O st w af a.tmps.toList){o:Oper}{t:TypeId}{x:Operand}{r:AVal}{st':St} (hop:o.op=.load t x) (h:R8 E t (rd E af 0 x) st=some (r,st')):∃nx w' a' O',Stepped E F O st w a o (Ac af o.dst r) st' nx w' a' O':=by
 have hx:=hs.rd 0 x;generalize rd E af 0 x=ax at *;generalize hv:a.eval x=vx at hx;unfold R8 at h;split at h
 ·rename_i i off;cases hx with
  |ptr hbx=>
   rename_i b;split at h
   ·rename_i cs hg;split at h
    ·rename_i hc;split at h
     ·rename_i r' hr';simp only[ag,aA]at h;obtain⟨rfl,rfl⟩:=h;obtain⟨b',arr,e,hb⟩:=hs.box hg hbx;have:b'=b:=by have:=hb.bx;grind
      subst this;obtain⟨lo,hi,hh,hf⟩:=hb.heap;obtain⟨u,hu0,hrep⟩:=hb.rep.get? hr';have hu:=List.getElem?_take_some hu0;have hgd:cs.getD off .any=r':=by grind
      have hgu:(arr.toList.take cs.length).getD off undef=u:=by grind
      have hown:VM.own O w r' u:=by have:=((Nt O w cs arr.toList).2 hb.own).get hb.rep.length off undef;grind
      have hcs:=λn=>M4 n cs (arr.toList.take cs.length) off undef hb.rep.length;simp only[hgd,hgu]at hcs;have ct: ∀n (xs:List AVal),xs.length=cs.length->AP n xs (arr.toList.take cs.length)=AP n xs arr.toList:=λn xs e=>by grind[Nq]
      have hcs: ∀n,AP n (cs.set off r'.strip) arr.toList+cnt n r' u=AP n cs arr.toList:=λn=>by simp_all
      have hrl:=hb.rep.setStrip off;have hol:=hb.own.setStrip off;rw[hgd]at hrl hol;obtain⟨s1,x1⟩:=hs.setBox (w':=w) (cs':=cs.set off r'.strip) (arr':=arr) (lo:=lo) (hi:=hi) hg hb hh hf (λ_ _=>rfl) rfl rfl rfl rfl (by grind) hol (by rw[bZ];exact hb.one) (λn=>by have:=hcs n;have:=hs.tok n;omega);have hcell:w.cell? ⟨b',off,none⟩=some u:=by grind[World.cell?]
      have ha:=Q8 (w:=w) hc.1;rw[hc.2]at ha;refine⟨.value u,w,a.put o.dst u,O,?_,λK Q hk=>hk,put_defers _ _ _,x1,av _,?_⟩;·simp_all[execOp,Instr.loadAt,Instr.sureAddr,loadVar]
      ·refine s1.put o.dst hrep hown λn=>?_;have e1:=Ir (O:=O) (O':=O) (w:=w) (w':=w) (b:=n) (x:=cs.set off r'.strip) hs.keys hg (λp hp hne=>rfl);have e2:DK O w n (i,cs)=AP n cs arr.toList:=by grind[DK,hcells]
       have e3:DK O w n (i,cs.set off r'.strip)=AP n (cs.set off r'.strip) arr.toList:=by grind[DK,hcells]
       have:=hcs n;have:=hs.tok n;grind
     grind
    ·split at h
     ·rename_i hc;obtain⟨hk,hg1,rfl,hz⟩:=hc;simp only[ag,aA]at h;obtain⟨rfl,rfl⟩:=h;obtain⟨b',arr,e,hb⟩:=hs.box hg hbx;have:b'=b:=by have:=hb.bx;grind
      subst this;obtain⟨lo,hi,hh,hf⟩:=hb.heap;have hlen:(arr.toList.take cs.length).length=cs.length:=hb.rep.length.symm;have key:=dM (P:=E.P) w ⟨b',0,none⟩ (arr.toList.take cs.length) (λj v hj=>by grind[addr_add,World.cell?,List.getElem?_take_some]);rw[hlen]at key;have ha:=Q8 (w:=w) hk;rw[hg1]at ha;obtain⟨s1,x1⟩:=hs.setBox (w':=w) (cs':=stripL cs) (arr':=arr) (lo:=lo) (hi:=hi) hg hb hh hf (λ_ _=>rfl) rfl rfl rfl rfl (by rw[M6];exact hb.rep.strip) (J8 _ _ _ _) (by rw[M6];exact hb.one) (λn=>by rw[Ig];have:=hs.tok n;omega);refine⟨.value (.agg (arr.toList.take cs.length).toArray),w,a.put o.dst (.agg (arr.toList.take cs.length).toArray),O,?_,λK Q hk=>hk,put_defers _ _ _,x1,av _,?_⟩;·simp[execOp,hop,hv,Instr.loadAt,Instr.sureAddr,loadVar,ha,DN hz,key]
      ·have ho:=(Nt O w cs arr.toList).2 hb.own;refine s1.put o.dst (.agg hb.rep hb.one) (by grind[own]) λn=>?_;have e1:=Ir (O:=O) (O':=O) (w:=w) (w':=w) (b:=n) (x:=stripL cs) hs.keys hg (λp hp hne=>rfl);have e2:DK O w n (i,cs)=AP n cs arr.toList:=by grind[DK,hcells]
       have e3:DK O w n (i,stripL cs)=AP n (stripL cs) arr.toList:=by grind[DK,hcells]
       have e4:cnt n (.agg cs) (.agg (arr.toList.take cs.length).toArray)=AP n cs arr.toList:=by grind[cnt,Nq]
       have:=hs.tok n;grind[Ig]
     grind
   grind
 grind
def AGC (hs:Sim E F O st w af a.tmps.toList){o:Oper}{t n:Nat}{vs:List AVal}{r:AVal} (hop:o.op=.extract (.tmp t) n) (ht:rd E af 0 (.tmp t)=.tuple vs) (hn:vs[n]?=some r):∃nx w' a' O',Stepped E F O st w a o (Ac (af.set t (.tuple (vs.set n r.strip))) o.dst r) st nx w' a' O':=by
 have hr:=hs.rd 0 (.tmp t);have ho:=hs.rd_own 0 (.tmp t);have hcn:=λb=>hs.rd_cnt 0 (.tmp t) b;rw[ht]at hr ho hcn;generalize hv:a.eval (.tmp t)=v at *;cases hr with
 | tuple hr=>
  rename_i arr;simp only[VM.own]at ho;simp only[cnt]at hcn;obtain⟨u,hu,hrep⟩:=hr.get? hn;have hgd:vs.getD n .any=r:=by grind
  have hgu:arr.toList.getD n undef=u:=by grind
  have hown:VM.own O w r u:=by have:=ho.get hr.length n undef;grind
  have hcs:=λb=>M4 b vs arr.toList n undef hr.length;simp only[hgd,hgu]at hcs;have hrl:=hr.setStrip n;have hol:=ho.setStrip n;rw[hgd]at hrl hol;have hts:=(hs.stripAt (.tmp t)).put (some t) (r:=.tuple (vs.set n r.strip)) (v:=.tuple arr) (.tuple hrl) (by grind[VM.own]) (λb=>by simp only[cnt];have:=hcs b;have:=hcn b;have:=hs.tok b;omega);have hsame:(a.put (some t) (.tuple arr)).tmps.toList=a.tmps.toList:=by rw[Wq];simp only[Act.eval,Array.getD_toList']at hv;apply cd;grind
  have hset:Ac (stripAt af (.tmp t)) (some t) (.tuple (vs.set n r.strip))=af.set t (.tuple (vs.set n r.strip)):=by simp[Ac,VM.stripAt]
  rw[hsame,hset]at hts;refine⟨.value u,w,a.put o.dst u,O,?_,λK Q hk=>hk,put_defers _ _ _,Ext.refl _ _ _,av _,?_⟩;·simp_all[execOp,Instr.extract]
  ·refine hts.put o.dst hrep hown λb=>?_;have h3:AP b (af.set t (.tuple (vs.set n r.strip))) a.tmps.toList<=AP b (VM.stripAt af (.tmp t)) a.tmps.toList+AP b (vs.set n r.strip) arr.toList:=by have:=H6 b (VM.stripAt af (.tmp t)) a.tmps.toList t (.tuple (vs.set n r.strip)) (.tuple arr);rw[<-Wq,hsame]at this;simp_all[VM.stripAt,set,cnt]
   have:=hcs b;have:=hcn b;have:=hs.tok b;omega
end
end Go.VM
namespace Go.VM
def KI (P:Program) (t:TypeId):Option (Nat×Nat):=
  match P.underlying t with
  | some (.slice e)=>
    match P.info? e with
    | some i=>
      match i.zero with
      |some z=>if z.cells.size=i.size then some (i.size,i.bytes)else none
      |none=>none
    |none=>none
  |_=>none
def MU{P:Program}{t:TypeId}{n b:Nat} (h:KI P t=some (n,b)): ∃e i z,P.underlying t=some (.slice e)/\P.info? e=some i/\i.zero=some z/\z.cells.size=n/\i.size=n/\i.bytes=b:=by grind[KI]
def QP (wd:Nat):AVal->Option (List AVal)|.slice w' ys _=>if w'=wd then some ys else none|.str l=>if wd=1 then some (l.map λb=>.int .u8 b.toNat)else none|_=>none
def OL (E:Env) (t0 t1:TypeId) (s y:AVal):Option AVal:=match s with
 |.slice wd xs true=>match KI E.P t0,QP wd y with|some (z,by_),some ys=>if z=wd/\Ih E.P t1=none/\Ah E.P t1=true/\(xs.length+ys.length) * by_<=140737488355328/\xs.length+ys.length<=CX then some (.slice wd (xs++ys) true)else none|_,_=>none
 |_=>none
def AB7 (P:Program) (t e:TypeId):Bool:=match P.underlying t with|some (.slice e')=>e'==e|_=>false
def JM (E:Env) (t0 t1:TypeId) (s y:AVal):Option AVal:=match s,y with|.buf e l true,.str m=>if AB7 E.P t0 e=true/\(OL E t0 t1 (.slice 1 (u8s l) true) (.str m)).isSome=true then some (.buf e (l++m) true)else none|s,y=>OL E t0 t1 s y
def RepS.takeCells{O:Ghost}{w:Nat}{xs:List AVal}{cs:List Value} (h:RepS O w xs cs):RepS O w xs (cs.take (xs.length * w)):=by
 induction xs generalizing cs with
 |nil=>exact .nil _ _
 | cons x xs ih=>
  cases h with
  |cons h hw t=>
   rename_i v cs;have e:(v.cells.toList++cs).take ((x::xs).length * w)=v.cells.toList++cs.take (xs.length * w):=by grind[Array.length_toList,List.length_cons,Nat.succ_mul,Nat.add_comm,List.take_append,List.take_of_length_le,Nat.add_sub_cancel_left]
   rw[e];exact .cons h hw (ih t)
def RepS.takeOne{O:Ghost}{w:Nat}{xs:List AVal}{cs:List Value} (h:RepS O w xs cs): ∀c,c∈cs.take (xs.length * w)->c.oneCell'=true:=by
 induction xs generalizing cs with
 |nil=>simp
 | cons x xs ih=>
  cases h with
  |cons h hw t=>
   rename_i v cs;intro c hc;have hl:v.cells.toList.length=w:=by rw[aD,hw.1]
   rw[ae,bG,ez,List.take_append,ba fH,hl,dO]at hc;rcases aZ.1 hc with hc|hc;·exact hw.2 c hc
   ·exact ih t c hc
def RepS.append{O:Ghost}{w:Nat}{xs ys:List AVal}{cs ds:List Value} (h:RepS O w xs cs) (hl:cs.length=xs.length * w) (k:RepS O w ys ds):RepS O w (xs++ys) (cs++ds):=by induction xs generalizing cs with|nil=>simp_all|cons x xs ih=>cases h with|cons h hw t=>rename_i v cs;rw[aH];refine .cons h hw (ih t ?_);grind
section
variable{E:Env}{F:Nat->Nat}{O:Ghost}{st:St}{w:World}{af:List AVal}{a:Act}
structure Src (E:Env) (O:Ghost) (w:World) (wd:Nat) (ys:List AVal) (v:Value) (news:List Value):Prop where
  len: ∀w',(Builtin.lenOf v).run E.P w'=.ok ys.length w'
  first: ∀w',(∀b o,w'.cell? ⟨b,o,none⟩=w.cell? ⟨b,o,none⟩)->(Builtin.firstCells wd ys.length v).run E.P w'=.ok news.toArray w'
  rep:RepS O wd ys news
  size:news.length=ys.length * wd
  one: ∀c,c∈news->c.oneCell'=true
def Ak8 (hs:Sim E F O st w af a.tmps.toList){b i:Nat}{cs:List Value}{v:Value} (h:O.com b=some cs) (hv:cs[i]?=some v):w.cell? ⟨b,i,none⟩=some v:=by
 obtain⟨arr,e,fz,hh,⟨ds,hds⟩,_⟩:=hs.com_ok _ _ h;have h2:arr.toList[i]?=some v:=by grind
 grind[World.cell?]
def VA (hs:Sim E F O st w af a.tmps.toList){wd:Nat}{ys:List AVal}{o:Bool}{v:Value} (h:Rep O (.slice wd ys o) v): ∃news,Src E O w wd ys v news:=by
 cases h with
 |snil _ _ ad=>refine⟨[],λw'=>by simp[Builtin.lenOf],λw' _=>?_,.nil _ _,fI,fI⟩;cases ad with|none=>simp[Builtin.firstCells]|some ad=>grind[run_firstCells_some]
 |slice _ hb hl hc hS hnn=>
  rename_i b off len cap cells;have hlen:((cells.drop off).take (ys.length * wd)).length=ys.length * wd:=by rw[bg];have:=hS.len;omega
  refine⟨(cells.drop off).take (ys.length * wd),λw'=>by simp[Builtin.lenOf,hl],λw' hw=>?_,hS.takeCells,hlen,hS.takeOne⟩;refine dF (P:=E.P) w' wd ys.length ⟨b,off,none⟩ len cap _ hlen λj u hj=>?_;rw[addr_add,hw];refine Ak8 hs hb ?_;rw[dc]at hj;split at hj;·rw[bV]at hj;exact hj
  ·cases hj
def AZz{wd:Nat}{s:ByteArray} (h1:wd=1):Src E O w wd (s.data.toList.map λb=>.int .u8 b.toNat) (.string s) (s.data.toList.map λb=>.int .u8 b.toNat):=by
 subst h1;have hl:s.data.toList.length=s.size:=fI;refine⟨λw'=>by simp_all[Builtin.lenOf],λw' _=>?_,?_,fI,by simp[Value.oneCell']⟩;·simp only[Builtin.firstCells,cp,hl,bu];congr 1;apply Array.ext';simp
 ·generalize s.data.toList=l;induction l with|nil=>exact .nil _ _|cons b l ih=>exact .cons (v:=.int .u8 b.toNat) (.int _ _) ⟨rfl,by simp[Value.cells,Value.oneCell']⟩ ih
def TN (hs:Sim E F O st w af a.tmps.toList){wd:Nat}{y:AVal}{ys:List AVal}{v:Value} (hy:Rep O y v) (h:QP wd y=some ys): ∃news,Src E O w wd ys v news:=by
 unfold QP at h;split at h
 ·split at h;·rename_i e;subst e;simp only[ag]at h;subst h;exact VA hs hy
  grind
 ·split at h;·rename_i e;simp only[ag]at h;subst h;cases hy;exact⟨_,AZz e⟩
  grind
 grind
def putV (l:List Value) (off:Nat):List Value->List Value|[]=>l|v::r=>putV (l.set off v) (off+1) r
theorem J5 (cells ds news:List Value) (h:news.length<=ds.length):putV (cells++ds) cells.length news=cells++news++ds.drop news.length:=by
 induction news generalizing cells ds with
 |nil=>simp[putV]
 | cons v news ih=>
  cases ds with
  |nil=>grind
  |cons d ds=>
   simp only[putV];have e:(cells++d::ds).set cells.length v=(cells++[v])++ds:=by simp
   rw[e];have:=ih (cells++[v]) ds (by grind);simp_all
def D7{P:Program}{b base:Nat}{e:TypeId}{lo hi:Nat}: ∀(vs:List Value) (k:Nat) (arr:Array Value) (w:World),w.heap[b]?=some (.cells arr e (lo,hi))->(∀j,j<arr.size->¬(lo<=j/\j<hi))->base+k+vs.length<=arr.size->(∀v,v∈vs->v.oneCell'=true)->∃w' arr',(storeCells ⟨b,base,none⟩ vs k).run P w=.ok () w'/\w'.heap[b]?=some (.cells arr' e (lo,hi))/\arr'.toList=putV arr.toList (base+k) vs/\arr'.size=arr.size/\(∀n,n≠b->w'.heap[n]?=w.heap[n]?)/\w'.heap.size=w.heap.size/\w'.os=w.os/\w'.output=w.output/\w'.tape=w.tape:=by
 intro vs;induction vs with
 |nil=>intro k arr w hh hf hl h1;exact⟨w,arr,by simp[storeCells],hh,rfl,rfl,λ_ _=>rfl,rfl,rfl,rfl,rfl⟩
 |cons v vs ih=>
  intro k arr w hh hf hl h1;simp only[ae]at hl;have hoff:base+k<arr.size:=fH;have hcell:w.cell? ⟨b,base+k,none⟩=some arr[base+k]:=by grind[World.cell?]
  have hfz:w.frozen? ⟨b,base+k,none⟩=false:=by simp_all[World.frozen?]
  have hst:(store ⟨b,base+k,none⟩ v).run P w=.ok () (w.setCell ⟨b,base+k,none⟩ v):=by grind[run_store]
  obtain⟨w',arr',r,q1,q2,q3,q4,q5,q6,q7,q8⟩:=ih (k+1) (arr.setIfInBounds (base+k) v) (w.setCell ⟨b,base+k,none⟩ v) (Sy w b _ v hh) (by grind) (by grind) (λu hu=>h1 u (aX _ hu));refine⟨w',arr',?_,q1,?_,by simpa using q3,λn hn=>(q4 n hn).trans (JU w b _ n v hn),by simpa using q5,q6,q7,q8⟩<;>grind[trans,JU,storeCells,addr_add,Sem.run_bind,Result.andThen_ok,putV,Nat.add_assoc]
def AAH{O:Ghost}{w:World}{wd b off len cap:Nat} (h:Km O w wd (.slice (some ⟨b,off,none⟩) len cap)) (hlt:len<cap):∃arr e lo hi cells,w.heap[b]?=some (.cells arr e (lo,hi))/\(∀j,j<arr.size->¬(lo<=j/\j<hi))/\O.com b=some cells/\cells.length=off+len * wd/\off+cap * wd<=arr.size:=by obtain⟨arr,e,lo,hi,cells,h1,h2,_,h3,h4,h5⟩:=h hlt;exact⟨arr,e,lo,hi,cells,h1,h2,h3,h4,h5⟩
def Ghost.ext (O:Ghost) (b:Nat) (cs:List Value):Ghost:= {O with com:=λk=>if k=b then some cs else O.com k}
def AQs{O:Ghost}{w:World}{b:Nat}{m:List (Nat×List AVal)}{p:Nat×List AVal} (hp:p∈m):DK O w b p<=Ap O w b m:=by
 induction m with
 |nil=>grind
 |cons q m ih=>
  rw[Ap];rcases aM.1 hp with rfl|hp;·omega
  grind
def Sim.grow (hs:Sim E F O st w af a.tmps.toList){b:Nat}{arr':Array Value}{e:TypeId}{lo hi:Nat}{cells news rest:List Value}{w':World} (hcom:O.com b=some cells) (hw:w'.heap[b]?=some (.cells arr' e (lo,hi))) (harr:arr'.toList=cells++news++rest) (hk: ∀k,k≠b->w'.heap[k]?=w.heap[k]?) (hz:w'.heap.size=w.heap.size) (ho:w'.os=w.os) (hou:w'.output=w.output) (hta:w'.tape=w.tape) (ht:F b+AP b af a.tmps.toList+Ap O w b st.m=0) (hce: ∀T,O.ct b=some T->e=T):Sim E F (O.ext b (cells++news)) st w' af a.tmps.toList/\Ext F O w (O.ext b (cells++news)) w'/\∀n,Ap (O.ext b (cells++news)) w' n st.m=Ap O w n st.m:=by
 have hle:O.le (O.ext b (cells++news)):=by refine⟨λk cs h=>?_,λi k h=>h,λi k h=>h,λi k h=>h,λi k h=>h⟩;by_cases hkb:k=b<;>simp_all[Ghost.ext]
 have keep: ∀n,n≠b->w'.heap[n]?=w.heap[n]?/\(O.ext b (cells++news)).com n=O.com n:=λn hn=>⟨hk n hn,by grind[Ghost.ext]⟩;have hbox: ∀p,p∈st.m->∀k,O.bx p.1=some k->k≠b:=by
  intro p hp k hk' e';rcases hs.box_ok p hp with⟨k',ar,e2,hb⟩|⟨v,hv⟩;rotate_left;·have:=hv.bx;grind
  have h1:=hb.bx;rw[hk']at h1;cases h1;have:=hb.com;grind
 have hcm: ∀n,Ap (O.ext b (cells++news)) w' n st.m=Ap O w n st.m:=λn=>Ff λp hp=>⟨rfl,λk hkk=>hk k (hbox p hp k hkk)⟩;refine⟨?_,⟨hle,λn hn=>keep n (λe=>by grind),fH,ho,hou,hta⟩,hcm⟩;refine {com_ok:=?_,box_ok:=?_,sx_next:=hs.sx_next,keys:=hs.keys,inj:=hs.inj,bx_lt:=?_,bx_next:=hs.bx_next,tyd:=?_,bx_F:=hs.bx_F,F_lt:=?_,glob:=λg cs h=>(hs.glob g cs h).mono hle,rep:=hs.rep.mono hle,own:=?_,tok:=?_}
 ·intro n cs h;by_cases hnb:n=b;·subst hnb;simp only[Ghost.ext,aB,ag]at h;subst h;exact⟨arr',e,(lo,hi),hw,⟨rest,harr⟩,hce⟩
  ·rw[(keep n hnb).2]at h;obtain⟨ar,e',fz,h2,h3⟩:=hs.com_ok n cs h;exact⟨ar,e',fz,by grind,h3⟩
 ·intro p hp;rcases hs.box_ok p hp with⟨k,ar,e',hb⟩|⟨v,hv⟩;rotate_left;·refine .inr ⟨v,hv.keep hle hv.bx λn hn=>keep n λe=>?_⟩;subst e;have:=hv.cnt n;have:=X5 (O:=O) (w:=w) (b:=n) hp;omega
  obtain⟨l2,h2,h3,h4⟩:=hb.heap;have hkb:=hbox p hp k hb.bx;refine .inl ⟨k,ar,e',hb.bx,⟨l2,h2,by grind,h4⟩,hb.rep.mono hle,Bv hle _ _ hb.own λn hn=>keep n λe=>?_,by rw[(keep k hkb).2];exact hb.com,hb.one,hb.ty⟩;subst e;have hcb:DK O w n p=AP n p.2 ar.toList:=by simp only[DK,hb.bx,hcells,h3]
  have:=AQs (O:=O) (w:=w) (b:=n) hp;omega
 ·intro i n h;rw[hz];exact hs.bx_lt i n h
 ·refine⟨hs.tyd.1,λn e h=>?_⟩;obtain⟨cs,hc⟩:=hs.tyd.2 n e h;grind[Ghost.ext]
 ·intro n hn;rw[hz]at hn;exact hs.F_lt n hn
 ·exact Bv hle _ _ hs.own λn hn=>keep n λe=>by grind
 ·intro n;rw[hcm n];exact hs.tok n
theorem LG{P:Program}{w:World}{t0 t1 e ty:TypeId}{ts:List TypeId}{i:TypeInfo}{d:TypeDesc}{base:Option Addr}{len cap n:Nat}{vy:Value} (hu:P.underlying t0=some (.slice e)) (hi:P.info? e=some i) (hd:P.underlying t1=some d) (hn:Ih P t1=none) (hl:(Builtin.lenOf vy).run P w=.ok n w) (hle:len+n<=cap){news:List Value} (hf:(Builtin.firstCells i.size n vy).run P w=.ok news.toArray w):(Builtin.append_ ⟨t0::t1::ts⟩ ty #[.slice base len cap,vy]).run P w=(match base with|some a=>(storeCells (a.add (len * i.size)) news>>=λ_=>pure (Value.slice base (len+n) cap):Sem Value)|none=>pure (Value.slice base (len+n) cap)).run P w:=by
 have e1:(⟨t0::t1::ts⟩:Array TypeId)[0]?=some t0:=rfl;have e2:(⟨t0::t1::ts⟩:Array TypeId)[1]?=some t1:=rfl;have e3:(#[Value.slice base len cap,vy]:Array Value)[0]?=some (Value.slice base len cap):=rfl;have e4:(#[Value.slice base len cap,vy]:Array Value)[1]?=some vy:=rfl;have hs:(sizeOf e).run P w=.ok i.size w:=by simp[sizeOf,typeInfo,hi]
 unfold Builtin.append_;simp only[e1,e2,e3,e4];rw[aI,aG hu];simp only[aC];rw[aI,hs];simp only[aC];rw[aI,aG hd];simp only[aC];have key: ∀(b:Bool),b=false->∀(f:Bool->Sem Value),((pure b:Sem Bool)>>=f).run P w=(f false).run P w:=by simp
 rw[key _ (by cases d<;>first|rfl|(simp[Ih,hd]at hn;done))];simp only[aq,az];rw[aI,hl];simp only[aC,bA,aB];rw[an hle,aI,hf];simp only[aC];cases base<;>rfl
theorem NH{P:Program}{w:World}{t0 t1 e ty:TypeId}{ts:List TypeId}{i:TypeInfo}{zv:Value}{d:TypeDesc}{base:Option Addr}{len cap n:Nat}{vy:Value} (hu:P.underlying t0=some (.slice e)) (hi:P.info? e=some i) (hzv:i.zero=some zv) (hd:P.underlying t1=some d) (hn:Ih P t1=none) (hl:(Builtin.lenOf vy).run P w=.ok n w) (hle: ¬(len+n<=cap)) (h48: ¬(Builtin.nextslicecap (len+n) cap * i.bytes>2^48)) (h63: ¬(((len+n:Nat):Int)>IntKind.i64.max)) {olds news:List Value} (hf0:(Builtin.firstCells i.size len (.slice base len cap)).run P w.drew=.ok olds.toArray w.drew) (hf:(Builtin.firstCells i.size n vy).run P w.drew=.ok news.toArray w.drew):(Builtin.append_ ⟨t0::t1::ts⟩ ty #[.slice base len cap,vy]).run P w=.ok (.slice (some ⟨w.heap.size,0,none⟩) (len+n) (grownCap w (len+n) cap e)) (w.drew.alloc (.cells (olds.toArray++news.toArray++Builtin.zeroCells zv.cells (grownCap w (len+n) cap e-(len+n))) e)):=by
 have e1:(⟨t0::t1::ts⟩:Array TypeId)[0]?=some t0:=rfl;have e2:(⟨t0::t1::ts⟩:Array TypeId)[1]?=some t1:=rfl;have e3:(#[Value.slice base len cap,vy]:Array Value)[0]?=some (Value.slice base len cap):=rfl;have e4:(#[Value.slice base len cap,vy]:Array Value)[1]?=some vy:=rfl;have hs: ∀w,(sizeOf e).run P w=.ok i.size w:=λw=>by simp[sizeOf,typeInfo,hi]
 have ht: ∀w,(typeInfo e).run P w=.ok i w:=λw=>by simp[typeInfo,hi]
 have hzz: ∀w,(zeroValue e).run P w=.ok zv w:=λw=>by simp_all[zeroValue,typeInfo]
 unfold Builtin.append_;simp only[e1,e2,e3,e4];rw[aI,aG hu];simp only[aC];rw[aI,hs];simp only[aC];rw[aI,aG hd];simp only[aC];have key: ∀(b:Bool),b=false->∀(f:Bool->Sem Value),((pure b:Sem Bool)>>=f).run P w=(f false).run P w:=by simp
 rw[key _ (by cases d<;>first|rfl|(simp[Ih,hd]at hn;done))];simp only[aq,az];rw[aI,hl];simp only[aC,bA,aB];rw[aj hle];simp only[aI,ht,aC,Sem.run_ite,bu,h48,h63,false_and,az,run_choose,Question.forced,aq,World.drew_eq,run_askRoom,hf0,hf,hzz,newRow,run_newObj,World.alloc_eq,grownCap];rfl
def Sim.drew{tm:List Value} (hs:Sim E F O st w af tm):Sim E F O st w.drew af tm:=by
 have hcm: ∀n,Ap O w.drew n st.m=Ap O w n st.m:=λn=>Ff λp hp=>⟨rfl,λ_ _=>rfl⟩;refine {hs with box_ok:=?_,own:=Bv O.le_refl _ _ hs.own λ_ _=>⟨rfl,rfl⟩,tok:=λn=>by rw[hcm n];exact hs.tok n};intro p hp;rcases hs.box_ok p hp with⟨b,arr,e,hb⟩|⟨v,hv⟩;rotate_left;·exact .inr ⟨v,hv.keep O.le_refl hv.bx λ_ _=>⟨rfl,rfl⟩⟩
 exact .inl ⟨b,arr,e,hb.bx,hb.heap,hb.rep,Bv O.le_refl _ _ hb.own λ_ _=>⟨rfl,rfl⟩,hb.com,hb.one,hb.ty⟩
def AxY (w:World) (O':Ghost) (e:TypeId) (n:Nat) (vx v:Value) (A B:Prop):Prop:=((∃base len cap,vx=.slice base len cap/\v=.slice base (len+n) cap)/\A)\/(∃len cap,v=.slice (some ⟨w.heap.size,0,none⟩) len cap/\n<=cap/\n≠0/\O'.ct w.heap.size=some e)/\B
set_option maxHeartbeats 1000000 in theorem Zm (hs:Sim E F O st w af a.tmps.toList){o:Oper}{x y:Operand}{t0 t1:TypeId}{ts:List TypeId}{ax r:AVal} (hop:o.op=.call {callee:=.builtin .append,args:=#[x,y],argTypes:=⟨t0::t1::ts⟩}) (hx:Rep O ax (a.eval x)) (hox:VM.own O w ax (a.eval x)) (hcx: ∀b,AP b (stripAt af x) a.tmps.toList+cnt b ax (a.eval x)<=AP b af a.tmps.toList) (h:OL E t0 t1 ax (rd E af t1 y)=some r):∃e v w' O' ys,E.P.underlying t0=some (.slice e)/\(execOp a.eval o).run E.P w=.ok (.value v) w'/\Ext F O w O' w'/\Sim E F O' st w' (stripAt af x) a.tmps.toList/\Rep O' r v/\VM.own O' w' r v/\(∃wd xs,ax=.slice wd xs true/\QP wd (rd E af t1 y)=some ys/\r=.slice wd (xs++ys) true)/\AxY w O' e ys.length (a.eval x) v (∀n,Ap O' w' n st.m=Ap O w n st.m) (∀n,AP n (stripAt af x) a.tmps.toList+Ap O' w' n st.m+F n+(if n=w.heap.size then 1 else 0)<=1)/\(∀n,F n+AP n (stripAt af x) a.tmps.toList+cnt n r v+Ap O' w' n st.m<=1):=by
 have hy:=hs.rd t1 y;have hs1:=hs.stripAt x;have htk:=hs.tok;generalize rd E af t1 y=ay at *;generalize hvx:a.eval x=vx at *;generalize hvy:a.eval y=vy at *;unfold OL at h;split at h
 ·rename_i wd xs;split at h
  ·rename_i z byt ys hap hsrc;split at h
   ·rename_i hc;obtain⟨rfl,hint,hkn,hroom,h62'⟩:=hc;have h62:xs.length+ys.length<=4611686018427387904:=h62';simp only[ag]at h;subst h;obtain⟨e,i,zv,hu,hi,hz,hzs,his,hib⟩:=MU hap;obtain⟨news,src⟩:=TN hs hy hsrc;obtain⟨d1,hd1⟩:=Cv hkn;have hargs:Array.map a.eval #[x,y]= #[vx,vy]:=by grind
    have hexec: ∀r,(Builtin.append_ ⟨t0::t1::ts⟩ o.type #[vx,vy]).run E.P w=r->(execOp a.eval o).run E.P w=r.andThen λv w'=>.ok (.value v) w':=by simp_all[execOp,resolve,invoke,builtin]
    by_cases hn:ys.length=0
    ·have hys:ys=[]:=bw hn;subst hys;have hnews:news=[]:=bw (by simpa using src.size);subst hnews;obtain⟨base,len,cap,rfl,hle⟩: ∃base len cap,vx=.slice base len cap/\len<=cap:=by cases hx with|snil=>exact⟨_,_,_,rfl,av _⟩|slice _ _ _ hc _ hnn=>exact⟨_,_,_,rfl,hc.1⟩
     have hlen:=src.len w;have hfirst:=src.first w (λ_ _=>rfl);simp only[ap]at hlen hfirst;rw[<-his]at hfirst;have hrun:(Builtin.append_ ⟨t0::t1::ts⟩ o.type #[.slice base len cap,vy]).run E.P w=.ok (.slice base len cap) w:=by rw[LG hu hi hd1 hint hlen fH hfirst];cases base<;>simp[storeCells]
     refine⟨e,_,w,O,[],hu,hexec _ hrun,Ext.refl _ _ _,hs1,by grind,by grind,⟨_,_,rfl,hsrc,rfl⟩,.inl ⟨⟨_,_,_,rfl,rfl⟩,λ_=>rfl⟩,?_⟩;grind
    ·have hnz0:0<ys.length:=fH;by_cases hfit: ∃b off len cap,vx=.slice (some ⟨b,off,none⟩) len cap/\len+ys.length<=cap
     ·obtain⟨b,off,len,cap,rfl,hfits⟩:=hfit;simp only[VM.own]at hox;obtain⟨arr,e',lo,hi',cells,hh,hf,hcom,hcl,hsz⟩:=AAH hox fH;obtain⟨arr0,e0,fz0,hh0,⟨ds,hds⟩,hct0⟩:=hs.com_ok b cells hcom;rw[hh]at hh0;cases hh0;cases hx with
      |snil=>omega
      | slice _ hb hl hcap hS hnn=>
       rw[hcom]at hb;cases hb;have hlenarr:cells.length+ds.length=arr.size:=by grind[List.length_append,Array.length_toList]
       have hnl:news.length<=ds.length:=by rw[src.size];have:(len+ys.length) * z<=cap * z:=bL _ hfits;grind
       obtain⟨w',arr',r1,q1,q2,q3,q4,q5,q6,q7,q8⟩:=D7 (P:=E.P) (b:=b) (base:=off+len * z) news 0 arr w hh hf fH src.one;rw[bW,<-hcl,hds,J5 _ _ _ hnl]at q2;have hbt:1<=cnt b (.slice z xs true) (.slice (some ⟨b,off,none⟩) len cap):=by simp only[cnt,Kw];rw[an ⟨fH,trivial⟩];omega
       have hzero:F b+AP b (stripAt af x) a.tmps.toList+Ap O w b st.m=0:=by grind
       obtain⟨s2,x2,hcm⟩:=hs1.grow hcom q1 q2 q4 q5 q6 q7 q8 hzero hct0;have hlen:=src.len w;have hfirst:=src.first w (λ_ _=>rfl);rw[<-his]at hfirst r1;have hrun:(Builtin.append_ ⟨t0::t1::ts⟩ o.type #[.slice (some ⟨b,off,none⟩) len cap,vy]).run E.P w=.ok (.slice (some ⟨b,off,none⟩) (len+ys.length) cap) w':=by rw[LG hu hi hd1 hint hlen hfits hfirst];simp only[addr_add];simp_all
       refine⟨e,_,w',_,ys,hu,hexec _ hrun,x2,s2,.slice _ (cells:=cells++news) (by simp[Ghost.ext]) (by grind) ⟨hfits,fH⟩ ?_ (λ_ h=>by simp_all),?_,⟨_,_,rfl,hsrc,rfl⟩,.inl ⟨⟨_,_,_,rfl,rfl⟩,hcm⟩,?_⟩;·rw[cy fH];exact RepS.append (hS.mono x2.le) (by grind) (src.rep.mono x2.le)
       ·simp only[VM.own,Km];intro hlt;exact⟨arr',e',lo,hi',cells++news,q1,by grind,trivial,by simp[Ghost.ext],by rw[ah,src.size,cA];omega,fH⟩
       ·intro n;rw[hcm n];have h1:cnt n (.slice z (xs++ys) true) (.slice (some ⟨b,off,none⟩) (len+ys.length) cap)<=cnt n (.slice z xs true) (.slice (some ⟨b,off,none⟩) len cap):=by
         simp only[cnt,Kw];split;·rename_i hh';rw[an ⟨fH,hh'.2⟩];omega
         omega
        grind
     ·obtain⟨base,len,cap,rfl,hlen,hcap⟩: ∃base len cap,vx=.slice base len cap/\xs.length=len/\len<=cap:=by cases hx with|snil=>exact⟨_,0,0,rfl,rfl,av _⟩|slice _ hb hl hc hS hnn=>exact⟨_,_,_,rfl,hl,hc.1⟩
      obtain⟨olds,so⟩:=VA hs hx;subst hlen;have hneed: ¬(xs.length+ys.length<=cap):=by intro hle;apply hfit;cases hx with|snil=>omega|slice _ hb hl hc hS hnn=>exact⟨_,_,_,_,rfl,hle⟩
      have h63: ¬(9223372036854775807<((xs.length:Int)+(ys.length:Int))):=fH;have h48: ¬(281474976710656<Builtin.nextslicecap (xs.length+ys.length) cap * i.bytes):=by have:=eJ (need:=xs.length+ys.length) (old:=cap) (bytes:=i.bytes) fH (by grind);omega
      have hl1:=src.len w;have hf1:=src.first w.drew (λ_ _=>rfl);have hf0:=so.first w.drew (λ_ _=>rfl);rw[<-his]at hf1 hf0;generalize hnc:grownCap w (xs.length+ys.length) cap e=nc;have hge:xs.length+ys.length<=nc:=by grind[grownCap_ge]
      have hrun:(Builtin.append_ ⟨t0::t1::ts⟩ o.type #[.slice base xs.length cap,vy]).run E.P w=.ok (.slice (some ⟨w.heap.size,0,none⟩) (xs.length+ys.length) nc) (w.drew.alloc (.cells (olds.toArray++news.toArray++Builtin.zeroCells zv.cells (nc-(xs.length+ys.length))) e)):=by subst hnc;have e3:IntKind.i64.max=9223372036854775807:=fJ;grind[NH]
      have hsd:Sim E F O st w.drew (stripAt af x) a.tmps.toList:=hs1.drew;obtain⟨s2,x2,hcm⟩:=hsd.newArr (cells:=olds.toArray++news.toArray++Builtin.zeroCells zv.cells (nc-(xs.length+ys.length))) (e:=e) (pre:=olds++news) (spare:=(Builtin.zeroCells zv.cells (nc-(xs.length+ys.length))).toList) (fz:=(0,0)) fI (λv hv=>by rcases aZ.1 hv with hv|hv;exact so.one v hv;exact src.one v hv);have x0:Ext F O w O w.drew:=⟨O.le_refl,λ_ _=>⟨rfl,rfl⟩,av _,rfl,rfl,rfl⟩;refine⟨e,_,_,_,ys,hu,hexec _ hrun,x0.trans x2,s2,.slice _ (cells:=olds++news) (by simp[Ghost.arr]) fI ⟨hge,h62'⟩ ?_ (λ_ h=>by simp_all),?_,⟨_,_,rfl,hsrc,rfl⟩,.inr ⟨⟨_,_,rfl,fH,fH,by simp[Ghost.arr]⟩,hcm⟩,?_⟩;·rw[aO];exact RepS.append (so.rep.mono x2.le) so.size (src.rep.mono x2.le)
      ·simp only[VM.own,Km];intro hlt;refine⟨_,e,0,0,olds++news,Nv _,fH,trivial,by simp[Ghost.arr],?_,?_⟩;·rw[ah,so.size,src.size,cA];omega
       ·simp only[eU,dn,so.size,src.size,Builtin.zeroCells,eK,d5,hzs,<-cA];simp_all
      ·intro n;have hcn:AP n (stripAt af x) a.tmps.toList+Ap (O.arr w.drew.heap.size (olds++news) e) (w.drew.alloc (.cells (olds.toArray++news.toArray++Builtin.zeroCells zv.cells (nc-(xs.length+ys.length))) e)) n st.m+F n+(if n=w.heap.size then 1 else 0)<=1:=hcm n;have h1:cnt n (.slice z (xs++ys) true) (.slice (some ⟨w.heap.size,0,none⟩) (xs.length+ys.length) nc)<=if n=w.heap.size then 1 else 0:=by
        simp only[cnt,Kw];split;·simp_all
        omega
       omega
   grind
  grind
 grind
def AXg (l m:B8):u8s (l++m)=u8s l++u8s m:=by simp[u8s]
theorem AUS (hs:Sim E F O st w af a.tmps.toList){o:Oper}{x y:Operand}{t0 t1:TypeId}{ts:List TypeId}{r:AVal} (hop:o.op=.call {callee:=.builtin .append,args:=#[x,y],argTypes:=⟨t0::t1::ts⟩}) (h:JM E t0 t1 (rd E af t0 x) (rd E af t1 y)=some r):∃nx w' a' O',Stepped E F O st w a o (Ac (stripAt af x) o.dst r) st nx w' a' O':=by
 have hx:=hs.rd t0 x;have hox:=hs.rd_own t0 x;have hcx:=λb=>hs.rd_cnt t0 x b;unfold JM at h;split at h
 ·rename_i e l m hax hay;split at h
  ·rename_i hc;obtain⟨hel,hso⟩:=hc;simp only[ag]at h;subst h;obtain⟨r',hr'⟩:=dG.1 hso;rw[hax]at hx hox hcx;rw[<-hay]at hr';generalize hvx:a.eval x=vx at hx hox hcx;cases hx with
   | buf _ hx hk=>
    simp only[VM.own]at hox;obtain⟨e',v,w',O',ys,k1,k2,k3,k4,k5,k6,⟨wd,xs,k7,k8,k9⟩,k10,k11⟩:=Zm hs hop (by grind) (by grind[VM.own]) (λb=>by grind[cnt,WH]) hr';have he:e'=e:=by grind[AB7]
    subst he;cases k7;have hys:ys=u8s m:=by rw[hay]at k8;simp[QP]at k8;exact k8.symm
    subst hys;subst k9;rw[<-AXg]at k5 k6 k11;rw[hvx]at k10;have hbk:bufOK O' e' v:=by
     rcases k10 with⟨⟨base,len,cap,rfl,rfl⟩,hA⟩|⟨⟨len,cap,rfl,hn,h0,hct⟩,hB⟩
     ·cases base with
      |none=>
       obtain⟨h1,h2⟩:=hk;subst h1;subst h2;have:(u8s m).length=0:=by generalize u8s (l++m)=q at k5;generalize hn:0+(u8s m).length=nn at k5;cases k5;omega
       rw[this];exact⟨rfl,rfl⟩
      |some a0=>exact(hk.mono k3.le)
     ·exact⟨rfl,rfl,fH,hct⟩
    have hcnt: ∀b,F b+AP b (VM.stripAt af x) a.tmps.toList+CO b v+Ap O' w' b st.m<=1:=by
     intro b;rcases k10 with⟨⟨base,len,cap,rfl,rfl⟩,hA⟩|⟨⟨len,cap,rfl,hn,h0,hct⟩,hB⟩
     ·rw[hA b];have h1:=hcx b;have h2:=hs.tok b;have h3:CO b (.slice base (len+(u8s m).length) cap)=cnt b (.buf e' l true) (.slice base len cap):=by simp only[cnt];cases base<;>rfl
      omega
     ·have h1:=hB b;have h3:CO b (.slice (some ⟨w.heap.size,0,none⟩) len cap)=if b=w.heap.size then 1 else 0:=by
       simp only[CO];by_cases hb:b=w.heap.size;·simp_all
       ·rw[aj (λe=>hb e.symm),aj hb]
      omega
    refine⟨_,w',a.put o.dst v,O',k2,λK Q hk=>hk,put_defers _ _ _,k3,av _,?_⟩;refine k4.put o.dst (.buf _ k5 hbk) ?_ ?_
    ·simp only[VM.own]at k6⊢;refine⟨k6,λb hb=>?_⟩;have hcom: ∃cells,O'.com b=some cells:=by
      generalize u8s (l++m)=q at k5;cases k5 with
      |snil _ _ a0=>cases a0 with|none=>grind[CO]|some a0=>exact absurd rfl hbk.2.2.1
      |slice _ h1 _ _ _ hnn=>grind[CO]
     obtain⟨cells,hc⟩:=hcom;obtain⟨arr,e2,fz,hh,_⟩:=k4.com_ok _ _ hc;grind
    grind[cnt]
  grind
 ·obtain⟨e,v,w',O',ys,k1,k2,k3,k4,k5,k6,k7,k8,k9⟩:=Zm hs hop hx hox (λb=>Nat.le_of_eq (hcx b)) h;exact⟨_,w',a.put o.dst v,O',k2,λK Q hk=>hk,put_defers _ _ _,k3,av _,k4.put o.dst k5 k6 k9⟩
end
end Go.VM
namespace Go.VM
def Bb (E:Env) (ty:Nat->TypeId):List AVal->List (Nat×Operand)->List AVal×List (Nat×AVal)|af,[]=>(af,[])|af,(i,x)::r=>((Bb E ty (stripAt af x) r).1,(i,rd E af (ty i) x)::(Bb E ty (stripAt af x) r).2)
def JF (O:Ghost) (w:World):List (Nat×AVal)->List (Nat×Value)->Prop|[],[]=>True|(i,x)::ps,(j,v)::us=>i=j/\Rep O x v/\own O w x v/\JF O w ps us|_,_=>False
def ATc (b:Nat):List (Nat×AVal)->List (Nat×Value)->Nat|(_,x)::ps,(_,v)::us=>cnt b x v+ATc b ps us|_,_=>0
def Zh (place:Nat->Option (Nat×Nat)) (cs:List AVal):List (Nat×AVal)->Option (List AVal)|[]=>some cs|(i,x)::rest=>match place i with|some (off,size)=>if Ce x=true/\(AZ x).length=size/\off+size<=cs.length then Zh place (putCells cs off (AZ x)) rest else none|none=>none
def AR (P:Program) (t:TypeId) (i:Nat):TypeId:=match P.underlying t with|some (.struct fs)=>(fs[i]?.map (·.type)).getD 0|some (.array _ e)=>e|some (.slice e)=>e|_=>0
def Cz (P:Program) (t:TypeId):Option (Nat->Option (Nat×Nat)):=match P.underlying t with|some (.struct fs)=>(fs.toList.mapM λf=>(P.info? f.type).map λi=>(f.offset,i.size)).map λl i=>l[i]?|some (.array _ e)=>(P.info? e).map λie i=>some (i * ie.size,ie.size)|_=>none
def Ab (P:Program) (t:TypeId) (i:Nat):Option (Nat×Nat):=(Cz P t).bind (· i)
def Ur (E:Env) (t:TypeId) (ps:List (Nat×AVal)):Option AVal:=match Ct E.P t,(Cz E.P t).isSome with|some (.agg cs),true=>(Zh (Ab E.P t) cs ps).map .agg|_,_=>none
section
variable{E:Env}{F:Nat->Nat}{O:Ghost}{st:St}{w:World}{af:List AVal}{a:Act}
def ABK (off:Nat): ∀(l:List Value) (k:Nat) (cs:Array Value),((l.zipIdx k).foldl (λcs x=>cs.setIfInBounds (off+x.2) x.1) cs).toList=putV cs.toList (off+k) l:=by intro l;induction l with|nil=>intro k cs;rfl|cons v l ih=>intro k cs;simp only[List.zipIdx_cons,List.foldl_cons,putV];rw[ih (k+1)];simp[cG]
theorem RepL.putV{xs cs:List AVal}{us vs:List Value} (h:RepL O cs vs) (k:RepL O xs us) (off:Nat):RepL O (putCells cs off xs) (VM.putV vs off us):=by induction xs generalizing cs us vs off with|nil=>cases k;exact h|cons x xs ih=>cases k with|cons hx t=>exact ih (h.set off hx) t (off+1)
theorem ownL.putV{xs cs:List AVal}{us vs:List Value} (h:ownL O w cs vs) (hl:xs.length=us.length) (k:ownL O w xs us) (off:Nat):ownL O w (putCells cs off xs) (VM.putV vs off us):=by
 induction xs generalizing cs us vs off with
 |nil=>cases us with|nil=>exact h|cons _ _=>grind
 |cons x xs ih=>cases us with|nil=>grind|cons u us=>rw[ownL]at k;exact ih (h.set off k.1) (by grind) k.2 (off+1)
theorem ANH (b:Nat){xs cs:List AVal}{us vs:List Value} (hl:xs.length=us.length) (off:Nat):AP b (putCells cs off xs) (VM.putV vs off us)<=AP b cs vs+AP b xs us:=by induction xs generalizing cs us vs off with|nil=>grind[putCells,VM.putV]|cons x xs ih=>cases us with|nil=>grind|cons u us=>grind[H6,AP,putCells,VM.putV]
def ACs{l us:List Value}{off:Nat}{v:Value} (h:v∈VM.putV l off us):v∈l\/v∈us:=by induction us generalizing l off with|nil=>exact .inl h|cons u us ih=>rcases ih h with h|h<;>grind[List.mem_or_eq_of_mem_set,List.mem_cons_of_mem]
def AQf{place:Nat->Option (Nat×Nat)}{ps:List (Nat×AVal)}: ∀ {us:List (Nat×Value)}{cs cs':List AVal}{arr:Array Value},RepL O cs arr.toList->ownL O w cs arr.toList->(∀v,v∈arr.toList->v.oneCell'=true)->JF O w ps us->Zh place cs ps=some cs'->∃arr',Instr.fill place arr us=some arr'/\RepL O cs' arr'.toList/\ownL O w cs' arr'.toList/\(∀v,v∈arr'.toList->v.oneCell'=true)/\∀b,AP b cs' arr'.toList<=AP b cs arr.toList+ATc b ps us:=by
 induction ps with
 |nil=>intro us cs cs' arr hr ho h1 hp h;cases us with|nil=>simp only[Zh,ag]at h;subst h;exact⟨arr,rfl,hr,ho,h1,λb=>by simp⟩|cons u us=>grind[JF]
 | cons p ps ih=>
  intro us cs cs' arr hr ho h1 hp h;obtain⟨i,x⟩:=p;cases us with
  |nil=>grind[JF]
  | cons u us=>
   obtain⟨j,v⟩:=u;simp only[JF]at hp;obtain⟨rfl,hx,hox,hp⟩:=hp;simp only[Zh]at h;split at h
   ·rename_i off size hpl;split at h
    ·rename_i hc;obtain⟨hok,hsz,hfit⟩:=hc;have hxc:=hx.cellsOK hok;have hvs:v.cells.size=size:=by rw[<-hsz,hxc.length,aD]
     have hlen:cs.length=arr.size:=by rw[hr.length,aD]
     have hfold:(v.cells.zipIdx.foldl (λcs x=>cs.setIfInBounds (off+x.2) x.1) arr).toList=VM.putV arr.toList off v.cells.toList:=by rw[<-eL,eo];exact ABK off v.cells.toList 0 arr
     generalize hga:v.cells.zipIdx.foldl (λcs x=>cs.setIfInBounds (off+x.2) x.1) arr=arr1 at hfold;have hr1:RepL O (putCells cs off (AZ x)) arr1.toList:=by rw[hfold];exact hr.putV hxc off
     have ho1:ownL O w (putCells cs off (AZ x)) arr1.toList:=by rw[hfold];exact ho.putV hxc.length (VF hx hok hox) off
     obtain⟨arr',q1,q2,q3,q4,q5⟩:=ih hr1 ho1 (by
      rw[hfold];intro u hu;rcases ACs hu with hu|hu;·grind
      ·exact hx.one hok u hu) hp h;refine⟨arr',?_,q2,q3,q4,λb=>?_⟩;·simp_all[Instr.fill]
     grind[ANH,VH,ATc]
    grind
   grind
def Ry (ty:Nat->TypeId): ∀(ps:List (Nat×Operand)){af:List AVal},Sim E F O st w af a.tmps.toList->Sim E F O st w (Bb E ty af ps).1 a.tmps.toList/\JF O w (Bb E ty af ps).2 (ps.map λp=>(p.1,a.eval p.2))/\∀b,AP b (Bb E ty af ps).1 a.tmps.toList+ATc b (Bb E ty af ps).2 (ps.map λp=>(p.1,a.eval p.2))=AP b af a.tmps.toList:=by intro ps;induction ps with|nil=>intro af hs;exact⟨hs,trivial,λb=>by simp[Bb,ATc]⟩|cons p ps ih=>intro af hs;obtain⟨i,x⟩:=p;obtain⟨h1,h2,h3⟩:=ih (hs.stripAt x);refine⟨h1,⟨rfl,hs.rd _ x,hs.rd_own _ x,h2⟩,λb=>?_⟩;have:=h3 b;have:=hs.rd_cnt (ty i) x b;grind[Bb,ATc]
theorem AWf (hs:Sim E F O st w af a.tmps.toList){o:Oper}{t:TypeId}{ps:List (Nat×Operand)}{r:AVal} (hop:o.op=.build t ⟨ps⟩) (h:Ur E t (Bb E (AR E.P t) af ps).2=some r):∃nx w' a' O',Stepped E F O st w a o (Ac (Bb E (AR E.P t) af ps).1 o.dst r) st nx w' a' O':=by
 obtain⟨h1,h2,h3⟩:=Ry (AR E.P t) ps hs;unfold Ur at h;split at h
 ·rename_i cs hz hpl;obtain⟨i,zv,hi,hzv,hcr⟩:=Lg hz;have hzc:=Jj O w _ _ hcr;obtain⟨arr,rfl⟩: ∃arr,zv=.agg arr:=by have:=hzc.rep;cases this;simp
  cases hf:Zh (Ab E.P t) cs (Bb E (AR E.P t) af ps).2 with
  |none=>grind
  | some cs'=>
   simp only[hf,aN,ag]at h;subst h;have hrep:=hzc.rep;cases hrep with
   | agg hr h1c=>
    obtain⟨arr',q1,q2,q3,q4,q5⟩:=AQf hr (by have:=hzc.own;grind[VM.own]) h1c h2 hf;have hb:E.P.built t (ps.map λp=>(p.1,a.eval p.2))=some arr':=by
     unfold Program.built;unfold Cz at hpl;rw[hi];split at hpl
     ·rename_i fs hu;cases hm:fs.toList.mapM (λf=>(E.P.info? f.type).map λi=>(f.offset,i.size))with
      |none=>grind
      |some l=>
       have e:Ab E.P t=λi=>l[i]?:=by grind[Ab,Cz]
       simp_all[Value.cells]
     ·rename_i n e hu;cases hie:E.P.info? e with
      |none=>grind
      |some ie=>
       have e':Ab E.P t=λi=>some (i * ie.size,ie.size):=by grind[Ab,Cz]
       grind[Value.cells]
     grind
    have hparts:(Array.map (λx=>(x.fst,a.eval x.snd)) ⟨ps⟩).toList=ps.map λp=>(p.1,a.eval p.2):=fI;have hrun:=run_build w t (Array.map (λx=>(x.fst,a.eval x.snd)) ⟨ps⟩) arr' (by rw[hparts];omega);refine⟨.value (.agg arr'),w,a.put o.dst (.agg arr'),O,?_,λK Q hk=>hk,put_defers _ _ _,Ext.refl _ _ _,av _,?_⟩;·simp_all[execOp]
    ·refine h1.put o.dst (.agg q2 q4) (by grind[VM.own]) λb=>?_;have e1:=q5 b;have e2:=h3 b;have e3:=hzc.cnt b;simp only[cnt]at e3⊢;have:=hs.tok b;omega
 grind
def IB (E:Env) (t:TypeId) (len:Nat) (ps:List (Nat×AVal)):Option AVal:=match KI E.P t with|some (z,_)=>if len * z<=16777216/\len<=CX/\ps.map (·.1)=List.range len/\(ps.all λp=>Ce p.2&&(AZ p.2).length==z)=true then some (.slice z (ps.map λp=>p.2.strip) true)else none|none=>none
def Alg{z:Nat}: ∀ {ps:List (Nat×AVal)}{us:List (Nat×Value)}{k n:Nat}{pre rest:List Value}{arr:Array Value},arr.toList=pre++rest->pre.length=k * z->rest.length=n * z->ps.map (·.1)=List.range' k n->JF O w ps us->(∀p,p∈ps->Ce p.2=true/\(AZ p.2).length=z)->∃arr' new,Instr.fill (λi=>some (i * z,z)) arr us=some arr'/\arr'.toList=pre++new/\RepS O z (ps.map λp=>p.2.strip) new/\new.length=n * z/\∀v,v∈new->v.oneCell'=true:=by
 intro ps;induction ps with
 |nil=>
  intro us k n pre rest arr harr hpre hrest hidx hp hok;have hn:n=0:=by simp_all
  subst hn;cases us with|nil=>have:rest=[]:=bw fH;subst this;exact⟨arr,[],rfl,harr,.nil _ _,fI,fI⟩|cons u us=>grind[JF]
 | cons p ps ih=>
  intro us k n pre rest arr harr hpre hrest hidx hp hok;obtain⟨i,x⟩:=p;cases us with
  |nil=>grind[JF]
  | cons u us=>
   obtain⟨j,v⟩:=u;simp only[JF]at hp;obtain⟨rfl,hx,hox,hp⟩:=hp;cases n with
   |zero=>grind
   | succ n=>
    simp only[aF,c8,dg]at hidx;obtain⟨rfl,hidx⟩:=hidx;obtain⟨hokx,hzx⟩:=hok (i,x) fI;have hxc:=hx.cellsOK hokx;have hvs:v.cells.size=z:=by rw[<-hzx,hxc.length,aD]
    have hsize:arr.size=(i+(n+1)) * z:=by grind[Array.length_toList,List.length_append,Nat.add_mul]
    have hzr:z<=rest.length:=by grind
    have hfold:(v.cells.zipIdx.foldl (λcs x=>cs.setIfInBounds (i * z+x.2) x.1) arr).toList=pre++v.cells.toList++rest.drop z:=by rw[<-eL,eo,ABK (i * z) v.cells.toList 0 arr,harr,bW,<-hpre];grind[J5,Array.length_toList]
    generalize hga:v.cells.zipIdx.foldl (λcs x=>cs.setIfInBounds (i * z+x.2) x.1) arr=arr1 at hfold;obtain⟨arr',new,q1,q2,q3,q4,q5⟩:=ih (k:=i+1) (n:=n) (pre:=pre++v.cells.toList) (rest:=rest.drop z) hfold (by grind) (by grind[List.length_drop,Nat.succ_mul]) hidx hp (λq hq=>hok q (aX _ hq));refine⟨arr',v.cells.toList++new,?_,by grind,?_,by grind[List.length_append,Array.length_toList,Nat.succ_mul],?_⟩
    ·rw[Instr.fill];simp only;rw[aj];·grind
     ·simp only[hvs,ek,cO,ew,be,au,Nat.not_lt,hsize,cA,bG];omega
    ·exact .cons hx.strip ⟨hvs,hx.one hokx⟩ q3
    ·intro u hu;rcases aZ.1 hu with hu|hu;·exact hx.one hokx u hu
     grind
theorem AAU (hs:Sim E F O st w af a.tmps.toList){o:Oper}{t:TypeId}{len:Nat}{ps:List (Nat×Operand)}{r:AVal} (hop:o.op=.buildSlice t len ⟨ps⟩) (h:IB E t len (Bb E (λ_=>AR E.P t 0) af ps).2=some r):∃nx w' a' O',Stepped E F O st w a o (Ac af o.dst r) st nx w' a' O':=by
 obtain⟨h1,h2,h3⟩:=Ry (λ_=>AR E.P t 0) ps hs;generalize hps:(Bb E (λ_=>AR E.P t 0) af ps).2=qs at *;unfold IB at h;split at h
 ·rename_i z by_ hap;split at h
  ·rename_i hc;obtain⟨hsz,hln,hidx,hall⟩:=hc;simp only[ag]at h;subst h;obtain⟨e,i,zv,hu,hi,hz,hzs,his,hib⟩:=MU hap;have hok: ∀p,p∈qs->Ce p.2=true/\(AZ p.2).length=z:=by intro p hp;have:=aL.1 hall p hp;simp_all
   have hqlen:qs.length=len:=by have:=br List.length hidx;grind
   generalize hzero:(if len * z=0 then(#[]:Array Value)else zv.cells)=zero;have hfill:=Alg (O:=O) (w:=w) (z:=z) (ps:=qs) (us:=ps.map λp=>(p.1,a.eval p.2)) (k:=0) (n:=len) (pre:=[]) (rest:=((Array.range (len * z)).map (λj=>zero[j % zero.size]!)).toList) (arr:=(Array.range (len * z)).map (λj=>zero[j % zero.size]!)) fI fI fI (by grind[List.range_eq_range']) h2 hok;obtain⟨arr',new,q1,q2,q3,q4,q5⟩:=hfill;rw[bm]at q2;have hrun:(execOp a.eval o).run E.P w=.ok (.value (.slice (some ⟨w.heap.size,0,none⟩) len len)) (w.alloc (.cells arr' e)):=by
    have hs0:(sizeOf e).run E.P w=.ok z w:=by simp_all[sizeOf,typeInfo]
    have hparts:(Array.map (λx=>(x.fst,a.eval x.snd)) ⟨ps⟩).toList=ps.map λp=>(p.1,a.eval p.2):=fI;have hzz:(zeroValue e).run E.P w=.ok zv w:=by simp_all[zeroValue,typeInfo]
    have hsz': ¬(len * z>2^24):=fH;simp only[execOp,hop,Instr.buildSlice];rw[aI,aI,aG hu];simp only[aC];rw[aI,hs0];simp only[aC,hsz',az];by_cases hlz:len * z=0;·rw[an hlz]at hzero;subst hzero;simp only[hlz,aB,hparts];rw[hlz]at q1;rw[aI,bu];simp only[aC,q1];rfl
    ·rw[aj hlz]at hzero;subst hzero;simp only[hlz,az,hparts];rw[aI,hzz];simp only[aC];rw[aI,bu];simp only[aC,q1];rfl
   obtain⟨s2,x2,hcm⟩:=hs.newArr (cells:=arr') (e:=e) (pre:=new) (spare:=[]) (fz:=(0,0)) (by grind) q5;refine⟨_,_,a.put o.dst _,_,hrun,λK Q hk=>hk,put_defers _ _ _,x2,av _,?_⟩;refine s2.put o.dst (.slice _ (cells:=new) (by simp[Ghost.arr]) (by grind) ⟨av _,hln⟩ (by rw[aO];exact q3.mono x2.le) (λ_ h=>by simp_all)) ?_ ?_;·grind[VM.own,Km]
   ·intro n;have:=hcm n;simp only[cnt,Kw,Nat.lt_irrefl,false_and,az];omega
  grind
 grind
end
end Go.VM
