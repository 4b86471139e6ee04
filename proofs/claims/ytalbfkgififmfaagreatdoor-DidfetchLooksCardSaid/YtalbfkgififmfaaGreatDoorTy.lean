import Derived.Test.YtalbfkgififmfaaGreatDoorVM2
set_option linter.defProp false
set_option linter.unusedVariables false
namespace Go.VM
structure BT where
  addr:Bool:=false
  A:B8:=[]
  deriving DecidableEq
structure AF where
  i:B8:=[]
  u:B8:=[]
  deriving DecidableEq
def DC (x:AF):AVal:=.agg [.str x.i,.str x.u]
theorem AI6 (x:AF):DC x=.agg [.str x.i,.str x.u]:=rfl
structure Bx where
  did:AF:={}
  e:Int:=0
  deriving DecidableEq
def AAi (x:Bx):AVal:=.agg [.str x.did.i,.str x.did.u,.int .i64 x.e]
theorem W9 (x:Bx):AAi x=.agg [.str x.did.i,.str x.did.u,.int .i64 x.e]:=rfl
structure Ax where
  kind:Int
  text:B8
  keys:(List B8)
  items:(List Ax)
mutual
def AC:Ax->AVal
  |⟨kind,text,keys,items⟩=>.agg [.int .i64 kind,.str text,.slice 1 (List.map AVal.str keys) false,.slice 4 (RL items) false]
def RL:List Ax->List AVal
  |[]=>[]
  |x::xs=>AC x::RL xs
end
def AAF (l:List Ax):RL l=List.map AC l:=by
  induction l with
  |nil=>rfl
  |cons x l ih=>simp only[RL,aH,ih]
def I8 (x:Ax):AC x=.agg [.int .i64 x.kind,.str x.text,.slice 1 (List.map AVal.str x.keys) false,.slice 4 (List.map AC x.items) false]:=by
  cases x;simp only[AC,AAF]
structure CD where
  dID:AF:={}
  c:B8:=[]
  h:B8:=[]
  a:B8:=[]
  b:Bool:=false
  f:Bool:=false
  deriving DecidableEq
def Kw (x:CD):AVal:=.agg [.str x.dID.i,.str x.dID.u,.str x.c,.str x.h,.str x.a,.bool x.b,.bool x.f]
theorem ABs (x:CD):Kw x=.agg [.str x.dID.i,.str x.dID.u,.str x.c,.str x.h,.str x.a,.bool x.b,.bool x.f]:=rfl
structure Cp where
  u:B8
  types:(List B8)
  endpoints:(List B8)
  deriving DecidableEq
def CS (x:Cp):AVal:=.agg [.str x.u,.slice 1 (List.map AVal.str x.types) false,.slice 1 (List.map AVal.str x.endpoints) false]
theorem Td (x:Cp):CS x=.agg [.str x.u,.slice 1 (List.map AVal.str x.types) false,.slice 1 (List.map AVal.str x.endpoints) false]:=rfl
structure Ds where
  u:B8
  type_:B8
  controller:B8
  deriving DecidableEq
def IM (x:Ds):AVal:=.agg [.str x.u,.str x.type_,.str x.controller]
theorem Uy (x:Ds):IM x=.agg [.str x.u,.str x.type_,.str x.controller]:=rfl
structure Cd where
  u:B8
  also:(List B8)
  controllers:(List B8)
  methods:(List Ds)
  services:(List Cp)
  deriving DecidableEq
def Li (x:Cd):AVal:=.agg [.str x.u,.slice 1 (List.map AVal.str x.also) false,.slice 1 (List.map AVal.str x.controllers) false,.slice 3 (List.map IM x.methods) false,.slice 3 (List.map CS x.services) false]
theorem UO (x:Cd):Li x=.agg [.str x.u,.slice 1 (List.map AVal.str x.also) false,.slice 1 (List.map AVal.str x.controllers) false,.slice 3 (List.map IM x.methods) false,.slice 3 (List.map CS x.services) false]:=rfl
structure AG where
  name:B8
  value:B8
  deriving DecidableEq
def Ag (x:AG):AVal:=.agg [.str x.name,.str x.value]
theorem AEB (x:AG):Ag x=.agg [.str x.name,.str x.value]:=rfl
structure AH where
  y:Int
  l:Int
  m:(List AG)
  deriving DecidableEq
def Fy (x:AH):AVal:=.agg [.int .i64 x.y,.int .i64 x.l,.slice 2 (List.map Ag x.m) false]
theorem AEV (x:AH):Fy x=.agg [.int .i64 x.y,.int .i64 x.l,.slice 2 (List.map Ag x.m) false]:=rfl
structure Bm where
  s:B8
  o:Int
  deriving DecidableEq
def AAc (x:Bm):AVal:=.agg [.str x.s,.int .i64 x.o]
theorem XA (x:Bm):AAc x=.agg [.str x.s,.int .i64 x.o]:=rfl
structure CC where
  type_:B8
  sub:B8
  params:(List AG)
  deriving DecidableEq
def Je (x:CC):AVal:=.agg [.str x.type_,.str x.sub,.slice 2 (List.map Ag x.params) false]
theorem ADS (x:CC):Je x=.agg [.str x.type_,.str x.sub,.slice 2 (List.map Ag x.params) false]:=rfl
structure AW where
  s:B8
  o:Int
  deriving DecidableEq
def ADy (x:AW):AVal:=.agg [.str x.s,.int .i64 x.o]
theorem Zz (x:AW):ADy x=.agg [.str x.s,.int .i64 x.o]:=rfl
structure DB where
  mark:Int
  mask:Int
  least:Int
  deriving DecidableEq
def ABl (x:DB):AVal:=.agg [.int .u8 x.mark,.int .u8 x.mask,.int .i64 x.least]
theorem YO (x:DB):ABl x=.agg [.int .u8 x.mark,.int .u8 x.mask,.int .i64 x.least]:=rfl
structure AN where
  kind:Int:=0
  text:B8:=[]
  o:Int:=0
  deriving DecidableEq
def ED (x:AN):AVal:=.agg [.int .i64 x.kind,.str x.text,.int .i64 x.o]
theorem ADC (x:AN):ED x=.agg [.int .i64 x.kind,.str x.text,.int .i64 x.o]:=rfl
structure CI where
  user:B8:=[]
  d:B8:=[]
  deriving DecidableEq
def Sa (x:CI):AVal:=.agg [.str x.user,.str x.d]
theorem AFh (x:CI):Sa x=.agg [.str x.user,.str x.d]:=rfl
structure AD where
  kind:Int:=0
  text:B8:=[]
  d:B8:=[]
  g:Int:=0
  deriving DecidableEq
def BA (x:AD):AVal:=.agg [.int .i64 x.kind,.str x.text,.str x.d,.int .i64 x.g]
theorem Ve (x:AD):BA x=.agg [.int .i64 x.kind,.str x.text,.str x.d,.int .i64 x.g]:=rfl
structure BW where
  v:B8:=[]
  d:B8:=[]
  deriving DecidableEq
def R7 (x:BW):AVal:=.agg [.str x.v,.str x.d]
theorem AEo (x:BW):R7 x=.agg [.str x.v,.str x.d]:=rfl
structure Cl where
  d:B8:=[]
  g:Int:=0
  deriving DecidableEq
def EJ (x:Cl):AVal:=.agg [.str x.d,.int .i64 x.g]
theorem Ya (x:Cl):EJ x=.agg [.str x.d,.int .i64 x.g]:=rfl
structure As where
  d:B8:=[]
  g:Int:=0
  c:B8:=[]
  h:B8:=[]
  a:B8:=[]
  b:Bool:=false
  f:Bool:=false
  deriving DecidableEq
def Ad (x:As):AVal:=.agg [.str x.d,.int .i64 x.g,.str x.c,.str x.h,.str x.a,.bool x.b,.bool x.f]
theorem AOX (x:As):Ad x=.agg [.str x.d,.int .i64 x.g,.str x.c,.str x.h,.str x.a,.bool x.b,.bool x.f]:=rfl
structure AT where
  t:B8:=[]
  k:B8:=[]
  c:B8:=[]
  h:B8:=[]
  a:B8:=[]
  s:Bool:=false
  j:Bool:=false
  b:Bool:=false
  f:Bool:=false
  deriving DecidableEq
def Gm (x:AT):AVal:=.agg [.str x.t,.str x.k,.str x.c,.str x.h,.str x.a,.bool x.s,.bool x.j,.bool x.b,.bool x.f]
theorem AJR (x:AT):Gm x=.agg [.str x.t,.str x.k,.str x.c,.str x.h,.str x.a,.bool x.s,.bool x.j,.bool x.b,.bool x.f]:=rfl
structure BY where
  e:Int:=0
  deriving DecidableEq
def ABz (x:BY):AVal:=.agg [.int .i64 x.e]
theorem Xv (x:BY):ABz x=.agg [.int .i64 x.e]:=rfl
structure CH where
  q:As
  l:Int
  err:Int
  deriving DecidableEq
def BF (x:CH):AVal:=.agg [.str x.q.d,.int .i64 x.q.g,.str x.q.c,.str x.q.h,.str x.q.a,.bool x.q.b,.bool x.q.f,.int .i64 x.l,.int .i64 x.err]
theorem Zf (x:CH):BF x=.agg [.str x.q.d,.int .i64 x.q.g,.str x.q.c,.str x.q.h,.str x.q.a,.bool x.q.b,.bool x.q.f,.int .i64 x.l,.int .i64 x.err]:=rfl
structure Bs where
  q:As
  head:AH
  body:B8
  r:(List CH)
  deriving DecidableEq
def Hm (x:Bs):AVal:=.agg [.str x.q.d,.int .i64 x.q.g,.str x.q.c,.str x.q.h,.str x.q.a,.bool x.q.b,.bool x.q.f,.int .i64 x.head.y,.int .i64 x.head.l,.slice 2 (List.map Ag x.head.m) false,.str x.body,.slice 9 (List.map BF x.r) false]
theorem Y6 (x:Bs):Hm x=.agg [.str x.q.d,.int .i64 x.q.g,.str x.q.c,.str x.q.h,.str x.q.a,.bool x.q.b,.bool x.q.f,.int .i64 x.head.y,.int .i64 x.head.l,.slice 2 (List.map Ag x.head.m) false,.str x.body,.slice 9 (List.map BF x.r) false]:=rfl
structure AI where
  l:(List Int)
  deriving DecidableEq
def AUS (x:AI):AVal:=.agg [.slice 1 (List.map (AVal.int .u8) x.l) false]
theorem AEA (x:AI):AUS x=.agg [.slice 1 (List.map (AVal.int .u8) x.l) false]:=rfl
structure DH where
  name:B8
  value:B8
  null:Bool
  deriving DecidableEq
def Hq (x:DH):AVal:=.agg [.str x.name,.str x.value,.bool x.null]
theorem ZU (x:DH):Hq x=.agg [.str x.name,.str x.value,.bool x.null]:=rfl
structure DA where
  rel:B8
  type_:B8
  href:B8
  template:B8
  titles:(List DH)
  properties:(List DH)
  deriving DecidableEq
def OA (x:DA):AVal:=.agg [.str x.rel,.str x.type_,.str x.href,.str x.template,.slice 3 (List.map Hq x.titles) false,.slice 3 (List.map Hq x.properties) false]
theorem AEn (x:DA):OA x=.agg [.str x.rel,.str x.type_,.str x.href,.str x.template,.slice 3 (List.map Hq x.titles) false,.slice 3 (List.map Hq x.properties) false]:=rfl
structure DO where
  w:B8
  aliases:(List B8)
  properties:(List DH)
  links:(List DA)
  deriving DecidableEq
def Aga (x:DO):AVal:=.agg [.str x.w,.slice 1 (List.map AVal.str x.aliases) false,.slice 3 (List.map Hq x.properties) false,.slice 6 (List.map OA x.links) false]
theorem APw (x:DO):Aga x=.agg [.str x.w,.slice 1 (List.map AVal.str x.aliases) false,.slice 3 (List.map Hq x.properties) false,.slice 6 (List.map OA x.links) false]:=rfl
structure AK where
  d:B8
  g:Int
  target:B8
  raw:B8
  fail:Int
  from_:Int
  until_:Int
  deriving DecidableEq
def BR (x:AK):AVal:=.agg [.str x.d,.int .i64 x.g,.str x.target,.str x.raw,.int .i64 x.fail,.int .u64 x.from_,.int .u64 x.until_]
theorem AB4 (x:AK):BR x=.agg [.str x.d,.int .i64 x.g,.str x.target,.str x.raw,.int .i64 x.fail,.int .u64 x.from_,.int .u64 x.until_]:=rfl
structure BE where
  next:As
  x:Int
  done:Bool
  err:Int
  e:Bs
  seen:(List As)
  deriving DecidableEq
def Kc (x:BE):AVal:=.agg [.str x.next.d,.int .i64 x.next.g,.str x.next.c,.str x.next.h,.str x.next.a,.bool x.next.b,.bool x.next.f,.int .i64 x.x,.bool x.done,.int .i64 x.err,.str x.e.q.d,.int .i64 x.e.q.g,.str x.e.q.c,.str x.e.q.h,.str x.e.q.a,.bool x.e.q.b,.bool x.e.q.f,.int .i64 x.e.head.y,.int .i64 x.e.head.l,.slice 2 (List.map Ag x.e.head.m) false,.str x.e.body,.slice 9 (List.map BF x.e.r) false,.slice 7 (List.map Ad x.seen) false]
theorem AEL (x:BE):Kc x=.agg [.str x.next.d,.int .i64 x.next.g,.str x.next.c,.str x.next.h,.str x.next.a,.bool x.next.b,.bool x.next.f,.int .i64 x.x,.bool x.done,.int .i64 x.err,.str x.e.q.d,.int .i64 x.e.q.g,.str x.e.q.c,.str x.e.q.h,.str x.e.q.a,.bool x.e.q.b,.bool x.e.q.f,.int .i64 x.e.head.y,.int .i64 x.e.head.l,.slice 2 (List.map Ag x.e.head.m) false,.str x.e.body,.slice 9 (List.map BF x.e.r) false,.slice 7 (List.map Ad x.seen) false]:=rfl
structure DG where
  origin:Cl
  target:B8
  now:Int
  deriving DecidableEq
def U0 (x:DG):AVal:=.agg [.str x.origin.d,.int .i64 x.origin.g,.str x.target,.int .u64 x.now]
theorem YN (x:DG):U0 x=.agg [.str x.origin.d,.int .i64 x.origin.g,.str x.target,.int .u64 x.now]:=rfl
structure Do where
  rest:B8
  more:Bool
  deriving DecidableEq
def AP8 (x:Do):AVal:=.agg [.str x.rest,.bool x.more]
theorem ABy (x:Do):AP8 x=.agg [.str x.rest,.bool x.more]:=rfl
structure CA where
  rest:B8
  size:Int
  deriving DecidableEq
def AE0 (x:CA):AVal:=.agg [.str x.rest,.int .u64 x.size]
theorem AAX (x:CA):AE0 x=.agg [.str x.rest,.int .u64 x.size]:=rfl
structure CM where
  store:Bool:=false
  seconds:Int:=0
  deriving DecidableEq
def Vv (x:CM):AVal:=.agg [.bool x.store,.int .u64 x.seconds]
theorem ACg (x:CM):Vv x=.agg [.bool x.store,.int .u64 x.seconds]:=rfl
structure Dg where
  w:AD
  names:(List AD)
  via:Int
  fresh:CM
  r:(List CH)
  deriving DecidableEq
def Nv (x:Dg):AVal:=.agg [.int .i64 x.w.kind,.str x.w.text,.str x.w.d,.int .i64 x.w.g,.slice 4 (List.map BA x.names) false,.int .i64 x.via,.bool x.fresh.store,.int .u64 x.fresh.seconds,.slice 9 (List.map BF x.r) false]
theorem AAs (x:Dg):Nv x=.agg [.int .i64 x.w.kind,.str x.w.text,.str x.w.d,.int .i64 x.w.g,.slice 4 (List.map BA x.names) false,.int .i64 x.via,.bool x.fresh.store,.int .u64 x.fresh.seconds,.slice 9 (List.map BF x.r) false]:=rfl
structure By where
  d:AF:={}
  fail:Int:=0
  deriving DecidableEq
def AEN (x:By):AVal:=.agg [.str x.d.i,.str x.d.u,.int .i64 x.fail]
theorem Yd (x:By):AEN x=.agg [.str x.d.i,.str x.d.u,.int .i64 x.fail]:=rfl
structure Bk where
  s:B8
  o:Int
  n:Int
  fail:Int
  z:Int
  deriving DecidableEq
def ADt (x:Bk):AVal:=.agg [.str x.s,.int .i64 x.o,.int .i64 x.n,.int .i64 x.fail,.int .i64 x.z]
theorem Yj (x:Bk):ADt x=.agg [.str x.s,.int .i64 x.o,.int .i64 x.n,.int .i64 x.fail,.int .i64 x.z]:=rfl
def N9:List DB:=[(DB.mk 0 127 0),(DB.mk 192 31 128),(DB.mk 224 15 2048),(DB.mk 240 7 65536)]
def QT:List AVal:=[.int .u8 0,.int .u8 127,.int .i64 0,.int .u8 192,.int .u8 31,.int .i64 128,.int .u8 224,.int .u8 15,.int .i64 2048,.int .u8 240,.int .u8 7,.int .i64 65536]
def Aue:List AVal:=[.num .i64]
def vT (g:Nat):Option (List AVal):=if g=3 then some QT else if g=0 then some Aue else none
instance A2u:EO AD BA:=⟨⟩
instance Atf:EO Cp CS:=⟨⟩
end Go.VM
namespace Go.VM
def eE:=ac @AI6 (ac @W9 (ac @I8 (ac @ABs (ac @Td (ac @UO (ac @Uy (ac @AEV (ac @AEB (ac @XA (ac @ADS (ac @Zz (ac @YO (ac @ADC (ac @AFh (ac @Ve (ac @AEo (ac @Ya (ac @AOX (ac @AJR (ac @Xv (ac @Y6 (ac @Zf (ac @AEA (ac @AEn (ac @ZU (ac @APw (ac @AB4 (ac @AEL (ac @YN (ac @ABy (ac @AAX (ac @ACg (ac @AAs (ac @Yd (@Yj)))))))))))))))))))))))))))))))))))
end Go.VM
