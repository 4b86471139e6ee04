import Derived.Test.YtbmilkoebhmnnaaDoorTy
set_option linter.unusedVariables false
namespace Go.VM
def Hz (N : Nat) (a0 : Int) : Option (Bool) :=
 if (a0 == 32) = true then
  some (true)
 else
  if (a0 == 9) = true then
   some (true)
  else
   if (a0 == 10) = true then
    some (true)
   else
    some ((a0 == 13))
def Ae (N : Nat) (a0 : (List UInt8)) (a1 : Int) : Option (Int) :=
 some ((Go.Lib.indexByte a0 (EY a1)))
def strings_IndexByte (N : Nat) (a0 : (List UInt8)) (a1 : Int) : Option (Int) :=
 Option.bind (Ae N a0 a1) fun y1 =>
 some (y1)
def D7 (N : Nat) (a0 : Int) : Option (Bool) :=
 if (decide (a0 ≥ 0)) = true then
  if (decide (a0 ≤ 1114111)) = true then
   if (decide (a0 < 55296)) = true then
    some (true)
   else
    some ((decide (a0 > 57343)))
  else
   some (false)
 else
  some (false)
def Aj (N : Nat) (a0 : (List UInt8)) (a1 : Int) (s20 : Int) (k13 : (Int → Option (Int × Int × Int))) : Nat → Int → Int → Option (Int × Int × Int)
  | 0, _, _ => none
  | k + 1, s9, s10 =>
  if (decide (s10 ≤ s20)) = true then
   Option.bind (idx a0 (wr .i64 (a1 + s10))) fun x17 =>
   if ((DC .u8 (AP x17) 192) != 128) = true then
    some (0, 0, 7)
   else
    Aj N a0 a1 s20 k13 k (Ee .i64 (Lp .i64 s9 6) (wr .i64 (DC .u8 (AP x17) 63))) (wr .i64 (s10 + 1))
  else
   k13 s9
def A9 (N : Nat) (a0 : (List UInt8)) (a1 : Int) (k6 : (Unit → Option (Int × Int × Int))) : Nat → Int → Option (Int × Int × Int)
  | 0, s20 =>
  k6 ()
  | k + 1, s20 =>
  Option.bind (idx Ak s20) fun x10 =>
  Option.bind (idx a0 a1) fun x11 =>
  if ((Ff .u8 (AP x11) x10.mask) != x10.mark) = true then
   A9 N a0 a1 k6 k (s20 + 1) 
  else
   if (decide ((wr .i64 ((wr .i64 ((a0.length : Int) - a1)) - 1)) < s20)) = true then
    k6 ()
   else
    AR (fun j12 : Int =>
     AR (fun j18 : Bool =>
      if j18 = true then
       k6 ()
      else
       some (j12, (wr .i64 ((wr .i64 (a1 + s20)) + 1)), 0)) fun k19 =>
     if (decide (j12 < x10.least)) = true then
      k19 true
     else
      Option.bind (D7 N j12) fun y22 =>
      k19 (!y22)) fun k13 =>
    Aj N a0 a1 s20 k13 N (wr .i64 (DC .u8 (AP x11) x10.mask)) 1
def E5 (N : Nat) (a0 : (List UInt8)) (a1 : Int) : Option (Int × Int × Int) :=
 AR (fun j1 : Bool =>
  if j1 = true then
   some (0, 0, 4)
  else
   AR (fun j5 : Unit =>
    some (0, 0, 7)) fun k6 =>
   grd ((-4611686018427387904 : Int) ≤ 0 ∧ (4 : Int) ≤ 4611686018427387904) (
    A9 N a0 a1 k6 ((4 : Int) - 0).toNat 0)) fun k2 =>
 if (decide (a1 < 0)) = true then
  k2 true
 else
  k2 (decide (a1 ≥ (a0.length : Int)))
def FV (N : Nat) (a0 : TokenReader) : Option ((List UInt8) × Int × TokenReader) :=
 AR (fun j1 : Int × Int =>
  if (j1.2 != 0) = true then
   some ([], 7, a0)
  else
   Option.bind (sub a0.s a0.at_ j1.1) fun x7 =>
   some (x7, 0, (TokenReader.mk a0.s j1.1))) fun k2 =>
 Option.bind (E5 N a0.s a0.at_) fun y5 =>
 k2 (y5.2.1, y5.2.2)
def Eu (N : Nat) (a0 : StringsBuilder) : Option ((List UInt8) × StringsBuilder) :=
 some (a0.buf, a0)
def DL (N : Nat) (a0 : Int) : Option (Bool) :=
 if (decide (48 ≤ a0)) = true then
  some ((decide (a0 ≤ 57)))
 else
  some (false)
def Fu (N : Nat) (a0 : Int) : Option (Int) :=
 Option.bind (DL N a0) fun y1 =>
 if y1 = true then
  some ((wr .u64 (wr .u8 (a0 - 48))))
 else
  some ((wr .u64 ((wr .u64 (wr .u8 ((Ee .u8 a0 32) - 97))) + 10)))
def Ht (N : Nat) (a0 : Int) : Option (Bool) :=
 Option.bind (DL N a0) fun y1 =>
 if y1 = true then
  some (true)
 else
  if (decide (97 ≤ (Ee .u8 a0 32))) = true then
   some ((decide ((Ee .u8 a0 32) ≤ 102)))
  else
   some (false)
def Am (N : Nat) (a1 : Int) (a2 : Int) (k9 : (Int → Option (Int × Int))) : List UInt8 → Int → Option (Int × Int)
  | [], s11 =>
  k9 s11
  | xk12 :: xs, s11 =>
  Option.bind (Fu N (AP xk12)) fun y13 =>
  AR (fun j15 : Bool =>
   if j15 = true then
    some (0, 4)
   else
    Am N a1 a2 k9 xs (wr .u64 ((wr .u64 (s11 * a1)) + y13))) fun k16 =>
  grd (a1 ≠ 0) (
  if (decide (s11 > (wr .u64 ((wr .u64 (18446744073709551615 - y13)).tdiv a1)))) = true then
   k16 true
  else
   k16 (decide ((wr .u64 ((wr .u64 (s11 * a1)) + y13)) > a2)))
def Ao (N : Nat) (k2 : (Unit → Option (Int × Int))) : List UInt8 → Option (Int × Int)
  | [] =>
  k2 ()
  | xk5 :: xs =>
  Option.bind (Ht N (AP xk5)) fun y6 =>
  if y6 = true then
   Ao N k2 xs 
  else
   some (0, 1)
def DD (N : Nat) (a0 : (List UInt8)) (a1 : Int) (a2 : Int) : Option (Int × Int) :=
 if (a0 == []) = true then
  some (0, 3)
 else
  AR (fun j1 : Unit =>
   AR (fun j8 : Int =>
    some (j8, 0)) fun k9 =>
   grd (Ac (a0.length)) (
    Am N a1 a2 k9 a0 0)) fun k2 =>
  grd (Ac (a0.length)) (
   Ao N k2 a0)
def Ik (N : Nat) (a0 : (List UInt8)) (a1 : Int) : Option (Int × Int) :=
 Option.bind (DD N a0 16 a1) fun y1 =>
 some (y1.1, y1.2)
def Dc (N : Nat) (a0 : TokenReader) : Option (Int × Bool × TokenReader) :=
 AR (fun j1 : Bool =>
  if j1 = true then
   some (0, false, a0)
  else
   AR (fun j6 : Int × Int =>
    if (j6.2 != 0) = true then
     some (0, false, a0)
    else
     some ((wr .i64 j6.1), true, (TokenReader.mk a0.s (wr .i64 (a0.at_ + 6))))) fun k7 =>
   Option.bind (sub a0.s (wr .i64 (a0.at_ + 2)) (wr .i64 (a0.at_ + 6))) fun x10 =>
   Option.bind (Ik N x10 65535) fun y11 =>
   k7 (y11.1, y11.2)) fun k2 =>
 if (decide ((wr .i64 ((a0.s.length : Int) - a0.at_)) < 6)) = true then
  k2 true
 else
  Option.bind (sub a0.s a0.at_ (wr .i64 (a0.at_ + 2))) fun x5 =>
  k2 (!(x5 == ([92, 117] : List UInt8)))
def Ai (N : Nat) (j3 : Int) (k14 : (Int × (List Int) → Option ((List UInt8) × Int))) : Nat → Int → Int → (List Int) → Option ((List UInt8) × Int)
  | 0, _, _, _ => none
  | k + 1, s0, s6, bn6 =>
  if (decide (s6 > 0)) = true then
   grd (0 ≤ s6 ∧ s6 < ((wr .i64 (j3 + 1)).toNat : Int)) (
   grd (s6.toNat + 1 ≤ bn6.length) (
   Ai N j3 k14 k (Lh .i64 s0 6) (wr .i64 (s6 - 1)) (bn6.set s6.toNat (Ee .u8 128 (wr .u8 (DC .i64 s0 63))))))
  else
   k14 (s0, bn6)
def BV (N : Nat) (a0 : Int) (k4 : (Int → Option ((List UInt8) × Int))) : Nat → Int → Option ((List UInt8) × Int)
  | 0, _ => none
  | k + 1, s4 =>
  AR (fun j8 : Bool =>
   if j8 = true then
    BV N a0 k4 k (wr .i64 (s4 + 1))
   else
    k4 s4) fun k9 =>
  if (decide (s4 < 3)) = true then
   Option.bind (idx Ak (wr .i64 (s4 + 1))) fun x12 =>
   k9 (decide (a0 ≥ x12.least))
  else
   k9 false
def Ez (N : Nat) (a0 : Int) : Option ((List UInt8) × Int) :=
 Option.bind (D7 N a0) fun y1 =>
 if y1 = true then
  AR (fun j3 : Int =>
   grd (Us (wr .i64 (j3 + 1)) 1) (
   AR (fun j13 : Int × (List Int) =>
    Option.bind (idx Ak j3) fun x18 =>
    grd (0 ≤ 0 ∧ 0 < ((wr .i64 (j3 + 1)).toNat : Int)) (
    grd (0 + 1 ≤ j13.2.length) (
    grd ((wr .i64 (j3 + 1)).toNat ≤ j13.2.length ∧ Ac ((wr .i64 (j3 + 1)).toNat)) (
    some ((List.map EY (List.take ((wr .i64 (j3 + 1)).toNat) (j13.2.set 0 (Ee .u8 x18.mark (wr .u8 j13.1))))), 0))))) fun k14 =>
   Ai N j3 k14 N a0 j3 (List.replicate (wr .i64 (j3 + 1)).toNat 0))) fun k4 =>
  BV N a0 k4 N 0
 else
  some ([], 4)
def FU (N : Nat) (a0 : TokenReader) : Option (Int × TokenReader) :=
 if (decide (a0.at_ < (a0.s.length : Int))) = true then
  Option.bind (idx a0.s a0.at_) fun x1 =>
  some ((AP x1), a0)
 else
  some (0, a0)
def Dq (N : Nat) (a0 : TokenReader) : Option ((List UInt8) × Int × TokenReader) :=
 Option.bind (Dc N a0) fun y1 =>
 if y1.2.1 = true then
  AR (fun j3 : Int × TokenReader =>
   Option.bind (Ez N j3.1) fun y17 =>
   if (y17.2 != 0) = true then
    some ([], 7, j3.2)
   else
    some (y17.1, 0, j3.2)) fun k4 =>
  AR (fun j7 : Bool =>
   if j7 = true then
    Option.bind (Dc N y1.2.2) fun y11 =>
    AR (fun j13 : Bool =>
     if j13 = true then
      k4 ((wr .i64 ((wr .i64 ((wr .i64 (65536 + (wr .i64 ((wr .i64 (y1.1 - 55296)) * 1024)))) + y11.1)) - 56320)), y11.2.2)
     else
      k4 (y1.1, y11.2.2)) fun k14 =>
    if y11.2.1 = true then
     if (decide (y11.1 ≥ 56320)) = true then
      k14 (decide (y11.1 ≤ 57343))
     else
      k14 false
    else
     k14 false
   else
    k4 (y1.1, y1.2.2)) fun k8 =>
  if (decide (y1.1 ≥ 55296)) = true then
   k8 (decide (y1.1 ≤ 56319))
  else
   k8 false
 else
  Option.bind (FU N (TokenReader.mk y1.2.2.s (wr .i64 (y1.2.2.at_ + 1)))) fun y19 =>
  Option.bind (strings_IndexByte N ([34, 92, 47, 98, 102, 110, 114, 116] : List UInt8) y19.1) fun y21 =>
  AR (fun j23 : Bool =>
   if j23 = true then
    some ([], 130, y19.2)
   else
    Option.bind (sub ([34, 92, 47, 8, 12, 10, 13, 9] : List UInt8) y21 (wr .i64 (y21 + 1))) fun x27 =>
    some (x27, 0, (TokenReader.mk y19.2.s (wr .i64 (y19.2.at_ + 1))))) fun k24 =>
  if (decide (y19.2.at_ ≥ (y19.2.s.length : Int))) = true then
   k24 true
  else
   k24 (decide (y21 < 0))
def DF (N : Nat) (a0 : StringsBuilder) : Option (StringsBuilder) :=
 if a0.addr = true then
  some (a0)
 else
  some ((StringsBuilder.mk true a0.buf))
def BZ (N : Nat) (a0 : StringsBuilder) (a1 : (List UInt8)) : Option (Int × Unit × StringsBuilder) :=
 Option.bind (DF N a0) fun y1 =>
 grd (Bn (y1.buf.length + a1.length) 1) (
 some ((a1.length : Int), (), (StringsBuilder.mk y1.addr (y1.buf ++ a1))))
def BU (N : Nat) (k2 : (Bool × (List UInt8) × (List UInt8) × Int → Option ((List UInt8) × Int × TokenReader))) : Nat → Bool → (List UInt8) → (List UInt8) → Int → Option ((List UInt8) × Int × TokenReader)
  | 0, _, _, _, _ => none
  | k + 1, bn_addr, bn_buf, bi0_s, bi0_at_ =>
  if (decide (bi0_at_ < (bi0_s.length : Int))) = true then
   Option.bind (idx bi0_s bi0_at_) fun x6 =>
   if ((AP x6) == 34) = true then
    Option.bind (Eu N (StringsBuilder.mk bn_addr bn_buf)) fun y7 =>
    some (y7.1, 0, (TokenReader.mk bi0_s (wr .i64 (bi0_at_ + 1))))
   else
    if ((AP x6) == 92) = true then
     Option.bind (Dq N (TokenReader.mk bi0_s bi0_at_)) fun y9 =>
     if (y9.2.1 != 0) = true then
      some ([], y9.2.1, y9.2.2)
     else
      Option.bind (BZ N (StringsBuilder.mk bn_addr bn_buf) y9.1) fun y11 =>
      BU N k2 k y11.2.2.addr y11.2.2.buf y9.2.2.s y9.2.2.at_
    else
     if (decide ((AP x6) < 32)) = true then
      some ([], 130, (TokenReader.mk bi0_s bi0_at_))
     else
      Option.bind (FV N (TokenReader.mk bi0_s bi0_at_)) fun y13 =>
      if (y13.2.1 != 0) = true then
       some ([], y13.2.1, y13.2.2)
      else
       Option.bind (BZ N (StringsBuilder.mk bn_addr bn_buf) y13.1) fun y15 =>
       BU N k2 k y15.2.2.addr y15.2.2.buf y13.2.2.s y13.2.2.at_
  else
   k2 (bn_addr, bn_buf, bi0_s, bi0_at_)
def EL (N : Nat) (a0 : TokenReader) : Option ((List UInt8) × Int × TokenReader) :=
 AR (fun j1 : Bool × (List UInt8) × (List UInt8) × Int =>
  some ([], 130, (TokenReader.mk j1.2.2.1 j1.2.2.2))) fun k2 =>
 BU N k2 N false [] a0.s (wr .i64 (a0.at_ + 1))
def A7 (N : Nat) (a0 : TokenReader) (a1 : (List UInt8)) : Option (Bool × TokenReader) :=
 AR (fun j1 : Bool =>
  if j1 = true then
   some (true, (TokenReader.mk a0.s (wr .i64 (a0.at_ + 1))))
  else
   some (false, a0)) fun k2 =>
 if (decide (a0.at_ < (a0.s.length : Int))) = true then
  Option.bind (idx a0.s a0.at_) fun x5 =>
  Option.bind (strings_IndexByte N a1 (AP x5)) fun y6 =>
  k2 (decide (y6 ≥ 0))
 else
  k2 false
def AV (N : Nat) (a0 : TokenReader) (k2 : (Int → Option ((List UInt8) × TokenReader))) : Nat → Int → Option ((List UInt8) × TokenReader)
  | 0, bi0_at_ =>
  k2 bi0_at_
  | k + 1, bi0_at_ =>
  Option.bind (idx a0.s bi0_at_) fun x6 =>
  Option.bind (DL N (AP x6)) fun y7 =>
  if y7 = true then
   AV N a0 k2 k (bi0_at_ + 1) 
  else
   k2 bi0_at_
def BB (N : Nat) (a0 : TokenReader) : Option ((List UInt8) × TokenReader) :=
 AR (fun j1 : Int =>
  Option.bind (sub a0.s a0.at_ j1) fun x9 =>
  some (x9, (TokenReader.mk a0.s j1))) fun k2 =>
 grd ((-4611686018427387904 : Int) ≤ a0.at_ ∧ ((a0.s.length : Int) : Int) ≤ 4611686018427387904) (
  AV N a0 k2 (((a0.s.length : Int) : Int) - a0.at_).toNat a0.at_)
def Bc (N : Nat) (a0 : TokenReader) (a1 : Int) : Option (TokenReader) :=
 Option.bind (BB N a0) fun y1 =>
 if (y1.1 == []) = true then
  some ((TokenReader.mk y1.2.s a1))
 else
  some (y1.2)
def BF (N : Nat) (a0 : TokenReader) : Option ((List UInt8) × Bool × TokenReader) :=
 Option.bind (A7 N a0 ([45] : List UInt8)) fun y1 =>
 AR (fun j3 : Bool × TokenReader =>
  if j3.1 = true then
   some ([], false, j3.2)
  else
   AR (fun j11 : TokenReader =>
    AR (fun j19 : TokenReader =>
     Option.bind (sub j19.s a0.at_ j19.at_) fun x29 =>
     some (x29, true, j19)) fun k20 =>
    Option.bind (A7 N j11 ([101, 69] : List UInt8)) fun y23 =>
    if y23.1 = true then
     Option.bind (A7 N y23.2 ([43, 45] : List UInt8)) fun y25 =>
     Option.bind (Bc N y25.2 j11.at_) fun y27 =>
     k20 y27
    else
     k20 y23.2) fun k12 =>
   Option.bind (A7 N j3.2 ([46] : List UInt8)) fun y15 =>
   if y15.1 = true then
    Option.bind (Bc N y15.2 j3.2.at_) fun y17 =>
    k12 y17
   else
    k12 y15.2) fun k4 =>
 Option.bind (A7 N y1.2 ([48] : List UInt8)) fun y7 =>
 if y7.1 = true then
  k4 (false, y7.2)
 else
  Option.bind (BB N y7.2) fun y9 =>
  k4 ((y9.1 == []), y9.2)
def FK (N : Nat) (a0 : Int) : Option (Bool) :=
 if (decide (97 ≤ (Ee .u8 a0 32))) = true then
  some ((decide ((Ee .u8 a0 32) ≤ 122)))
 else
  some (false)
def AU (N : Nat) (a0 : TokenReader) (k2 : (Int → Option ((List UInt8) × TokenReader))) : Nat → Int → Option ((List UInt8) × TokenReader)
  | 0, bi0_at_ =>
  k2 bi0_at_
  | k + 1, bi0_at_ =>
  Option.bind (idx a0.s bi0_at_) fun x6 =>
  Option.bind (FK N (AP x6)) fun y7 =>
  if y7 = true then
   AU N a0 k2 k (bi0_at_ + 1) 
  else
   k2 bi0_at_
def BA (N : Nat) (a0 : TokenReader) : Option ((List UInt8) × TokenReader) :=
 AR (fun j1 : Int =>
  Option.bind (sub a0.s a0.at_ j1) fun x9 =>
  some (x9, (TokenReader.mk a0.s j1))) fun k2 =>
 grd ((-4611686018427387904 : Int) ≤ a0.at_ ∧ ((a0.s.length : Int) : Int) ≤ 4611686018427387904) (
  AU N a0 k2 (((a0.s.length : Int) : Int) - a0.at_).toNat a0.at_)
def Dz (N : Nat) (a0 : TokenReader) : Option (Int × (List UInt8) × Int × TokenReader) :=
 if (a0.at_ == (a0.s.length : Int)) = true then
  some (1, [], 0, a0)
 else
  AR (fun j1 : TokenReader =>
   some (0, [], 130, j1)) fun k2 =>
  Option.bind (idx a0.s a0.at_) fun x5 =>
  Option.bind (strings_IndexByte N ([123, 125, 91, 93, 58, 44] : List UInt8) (AP x5)) fun y6 =>
  if (decide (y6 ≥ 0)) = true then
   some (2, (NC (AP x5)), 0, (TokenReader.mk a0.s (wr .i64 (a0.at_ + 1))))
  else
   if ((AP x5) == 34) = true then
    Option.bind (EL N a0) fun y8 =>
    some (3, y8.1, y8.2.1, y8.2.2)
   else
    AR (fun j10 : Bool =>
     if j10 = true then
      Option.bind (BF N a0) fun y16 =>
      if y16.2.1 = true then
       some (4, y16.1, 0, y16.2.2)
      else
       k2 y16.2.2
     else
      Option.bind (FK N (AP x5)) fun y18 =>
      if y18 = true then
       Option.bind (BA N a0) fun y20 =>
       AR (fun j22 : Bool =>
        if j22 = true then
         some (5, y20.1, 0, y20.2)
        else
         k2 y20.2) fun k23 =>
       if (y20.1 == ([116, 114, 117, 101] : List UInt8)) = true then
        k23 true
       else
        if (y20.1 == ([102, 97, 108, 115, 101] : List UInt8)) = true then
         k23 true
        else
         k23 (y20.1 == ([110, 117, 108, 108] : List UInt8))
      else
       k2 a0) fun k11 =>
    if ((AP x5) == 45) = true then
     k11 true
    else
     Option.bind (DL N (AP x5)) fun y14 =>
     k11 y14
def Aa (N : Nat) (a0 : TokenReader) (k2 : (Int → Option ((List UInt8) × TokenReader))) : Nat → Int → Option ((List UInt8) × TokenReader)
  | 0, bi0_at_ =>
  k2 bi0_at_
  | k + 1, bi0_at_ =>
  Option.bind (idx a0.s bi0_at_) fun x6 =>
  Option.bind (Hz N (AP x6)) fun y7 =>
  if y7 = true then
   Aa N a0 k2 k (bi0_at_ + 1) 
  else
   k2 bi0_at_
def Bb (N : Nat) (a0 : TokenReader) : Option ((List UInt8) × TokenReader) :=
 AR (fun j1 : Int =>
  Option.bind (sub a0.s a0.at_ j1) fun x9 =>
  some (x9, (TokenReader.mk a0.s j1))) fun k2 =>
 grd ((-4611686018427387904 : Int) ≤ a0.at_ ∧ ((a0.s.length : Int) : Int) ≤ 4611686018427387904) (
  Aa N a0 k2 (((a0.s.length : Int) : Int) - a0.at_).toNat a0.at_)
def He (N : Nat) (a0 : (List UInt8)) (a1 : Int) : Option (ApiToken × Int × Int) :=
 AR (fun j1 : Bool =>
  if j1 = true then
   some ((ApiToken.mk 0 [] 0), 0, 4)
  else
   Option.bind (Bb N (TokenReader.mk a0 a1)) fun y5 =>
   Option.bind (Dz N y5.2) fun y7 =>
   if (y7.2.2.1 != 0) = true then
    some ((ApiToken.mk 0 [] 0), 0, y7.2.2.1)
   else
    some ((ApiToken.mk y7.1 y7.2.1 y5.2.at_), y7.2.2.2.at_, 0)) fun k2 =>
 if (decide (a1 < 0)) = true then
  k2 true
 else
  k2 (decide (a1 > (a0.length : Int)))
def Hf (N : Nat) (a0 : ApiToken) : Option (Bool) :=
 AR (fun j1 : Bool =>
  if j1 = true then
   some (true)
  else
   if (a0.kind == 2) = true then
    if (a0.text == ([91] : List UInt8)) = true then
     some (true)
    else
     some ((a0.text == ([123] : List UInt8)))
   else
    some (false)) fun k2 =>
 if (a0.kind == 3) = true then
  k2 (a0.kind == 3)
 else
  if (a0.kind == 4) = true then
   k2 (a0.kind == 4)
  else
   k2 (a0.kind == 5)
def Cx (N : Nat) (a0 : (List UInt8)) (a1 : (List UInt8)) : Option (Int) :=
 AR (fun j1 : Bool =>
  if j1 = true then
   some (0)
  else
   if ((a1.length : Int) == 1) = true then
    Option.bind (idx a1 0) fun x5 =>
    Option.bind (Ae N a0 (AP x5)) fun y6 =>
    some (y6)
   else
    if (decide ((a1.length : Int) ≥ (a0.length : Int))) = true then
     some ((-1))
    else
     (none : Option (Int))) fun k2 =>
 if ((a1.length : Int) == 0) = true then
  k2 true
 else
  k2 (a1 == a0)
def DT (N : Nat) (a0 : (List UInt8)) (a1 : (List UInt8)) : Option ((List UInt8) × (List UInt8) × Bool) :=
 Option.bind (Cx N a0 a1) fun y1 =>
 if (decide (y1 ≥ 0)) = true then
  Option.bind (sub a0 0 y1) fun x3 =>
  Option.bind (sub a0 (wr .i64 (y1 + (a1.length : Int))) (a0.length : Int)) fun x4 =>
  some (x3, x4, true)
 else
  some (a0, [], false)
def strings_Cut (N : Nat) (a0 : (List UInt8)) (a1 : (List UInt8)) : Option ((List UInt8) × (List UInt8) × Bool) :=
 Option.bind (DT N a0 a1) fun y1 =>
 some (y1.1, y1.2.1, y1.2.2)
def Cc (N : Nat) (a0 : (List UInt8)) (k2 : ((List Int) → Option ((List UInt8)))) : List UInt8 → Int → (List Int) → Option ((List UInt8))
  | [], s10, bn =>
  k2 bn
  | xk5 :: xs, s10, bn =>
  AR (fun j6 : (List Int) =>
   Cc N a0 k2 xs (s10 + 1) j6) fun k7 =>
  grd (0 ≤ s10 ∧ s10 < (a0.length : Int)) (
  Option.bind (idx bn s10) fun x10 =>
  AR (fun j11 : Bool =>
   if j11 = true then
    grd (s10.toNat + 1 ≤ bn.length) (
    k7 (bn.set s10.toNat (wr .u8 (x10 + 32))))
   else
    k7 bn) fun k12 =>
  if (decide (65 ≤ x10)) = true then
   k12 (decide (x10 ≤ 90))
  else
   k12 false)
def Hr (N : Nat) (a0 : (List UInt8)) : Option ((List UInt8)) :=
 AR (fun j1 : (List Int) =>
  grd (a0.length ≤ j1.length ∧ Ac a0.length) (
  some ((List.map EY (List.take a0.length j1))))) fun k2 =>
 grd (Ac (a0.length)) (
  Cc N a0 k2 a0 0 (List.map AP a0))
def BO (N : Nat) (a1 : Int) (k2 : ((List UInt8) → Option ((List UInt8)))) : Nat → (List UInt8) → Option ((List UInt8))
  | 0, _ => none
  | k + 1, s0 =>
  AR (fun j6 : Bool =>
   if j6 = true then
    Option.bind (sub s0 1 (s0.length : Int)) fun x11 =>
    BO N a1 k2 k x11
   else
    k2 s0) fun k7 =>
  if (decide ((s0.length : Int) > 0)) = true then
   Option.bind (idx s0 0) fun x10 =>
   k7 ((AP x10) == a1)
  else
   k7 false
def strings_trimLeftByte (N : Nat) (a0 : (List UInt8)) (a1 : Int) : Option ((List UInt8)) :=
 AR (fun j1 : (List UInt8) =>
  some (j1)) fun k2 =>
 BO N a1 k2 N a0
def Ay (N : Nat) (k2 : ((List Bool) → Option ((List Bool) × Bool))) : List UInt8 → (List Bool) → Option ((List Bool) × Bool)
  | [], bn =>
  k2 bn
  | xk5 :: xs, bn =>
  if (decide ((AP xk5) ≥ 128)) = true then
   grd (bn.length = 256) (
   some (bn, false))
  else
   grd (0 ≤ (AP xk5) ∧ (AP xk5) < 256) (
   grd ((AP xk5).toNat + 1 ≤ bn.length) (
   Ay N k2 xs (bn.set ((AP xk5).toNat) true)))
def strings_makeASCIISet (N : Nat) (a0 : (List UInt8)) : Option ((List Bool) × Bool) :=
 AR (fun j1 : (List Bool) =>
  grd (j1.length = 256) (
  some (j1, true))) fun k2 =>
 grd (Ac (a0.length)) (
  Ay N k2 a0 (Sd 256))
def Bo (N : Nat) (a0 : (List Bool)) (a1 : Int) : Option (Bool × (List Bool)) :=
 grd (0 ≤ a1 ∧ a1 < 256) (
 Option.bind (idx a0 a1) fun x1 =>
 some (x1, a0))
def BI (N : Nat) (k2 : ((List UInt8) × (List Bool) → Option ((List UInt8) × (List Bool)))) : Nat → (List UInt8) → (List Bool) → Option ((List UInt8) × (List Bool))
  | 0, _, _ => none
  | k + 1, s0, bi1 =>
  if (decide ((s0.length : Int) > 0)) = true then
   Option.bind (idx s0 0) fun x6 =>
   Option.bind (Bo N bi1 (AP x6)) fun y7 =>
   if y7.1 = true then
    Option.bind (sub s0 1 (s0.length : Int)) fun x9 =>
    BI N k2 k x9 y7.2
   else
    k2 (s0, y7.2)
  else
   k2 (s0, bi1)
def strings_trimLeftASCII (N : Nat) (a0 : (List UInt8)) (a1 : (List Bool)) : Option ((List UInt8) × (List Bool)) :=
 AR (fun j1 : (List UInt8) × (List Bool) =>
  some (j1.1, j1.2)) fun k2 =>
 BI N k2 N a0 a1
def Ce (N : Nat) (a0 : (List UInt8)) : Option (Int × Int) :=
 if (decide ((a0.length : Int) < 1)) = true then
  some (65533, 0)
 else
  Option.bind (idx a0 0) fun x1 =>
  (none : Option (Int × Int))
def CB (N : Nat) (a0 : (List UInt8)) : Option (Int × Int) :=
 AR (fun j1 : Bool =>
  if j1 = true then
   Option.bind (idx a0 0) fun x6 =>
   some ((wr .i32 (AP x6)), 1)
  else
   Option.bind (Ce N a0) fun y7 =>
   some (y7.1, y7.2)) fun k2 =>
 if (a0 == []) = true then
  k2 false
 else
  Option.bind (idx a0 0) fun x5 =>
  k2 (decide ((AP x5) < 128))
def En (N : Nat) (a0 : Int) : Option (Bool) :=
 AR (fun j1 : Bool =>
  if j1 = true then
   some (true)
  else
   AR (fun j5 : Bool =>
    if j5 = true then
     some (true)
    else
     some (false)) fun k6 =>
   if (decide (57343 < a0)) = true then
    k6 (decide (a0 ≤ 1114111))
   else
    k6 false) fun k2 =>
 if (decide (0 ≤ a0)) = true then
  k2 (decide (a0 < 55296))
 else
  k2 false
def DV (N : Nat) (a0 : (List UInt8)) (k8 : (Unit → Option (Int))) : Nat → Nat → Option (Int)
  | 0, _ => none
  | k + 1, s175 =>
  if (decide (s175 < a0.length)) = true then
   if (((Dy a0 s175).1 : Int) == 65533) = true then
    some (((s175 : Nat) : Int))
   else
    DV N a0 k8 k (s175 + (Dy a0 s175).2)
  else
   k8 ()
def Gm (N : Nat) (a0 : (List UInt8)) (a1 : Int) : Option (Int) :=
 AR (fun j1 : Bool =>
  if j1 = true then
   Option.bind (strings_IndexByte N a0 (wr .u8 a1)) fun y5 =>
   some (y5)
  else
   if (a1 == 65533) = true then
    AR (fun j7 : Unit =>
     some ((-1))) fun k8 =>
    DV N a0 k8 N 0
   else
    Option.bind (En N a1) fun y12 =>
    if y12 = true then
     (none : Option (Int))
    else
     some ((-1))) fun k2 =>
 if (decide (0 ≤ a1)) = true then
  k2 (decide (a1 < 128))
 else
  k2 false
def EK (N : Nat) (a0 : (List UInt8)) (a1 : Int) : Option (Bool) :=
 Option.bind (Gm N a0 a1) fun y1 =>
 some ((decide (y1 ≥ 0)))
def CK (N : Nat) (a1 : (List UInt8)) (k2 : ((List UInt8) → Option ((List UInt8)))) : Nat → (List UInt8) → Option ((List UInt8))
  | 0, _ => none
  | k + 1, s0 =>
  if (decide ((s0.length : Int) > 0)) = true then
   Option.bind (CB N s0) fun y6 =>
   Option.bind (EK N a1 y6.1) fun y8 =>
   if y8 = true then
    Option.bind (sub s0 y6.2 (s0.length : Int)) fun x10 =>
    CK N a1 k2 k x10
   else
    k2 s0
  else
   k2 s0
def Ec (N : Nat) (a0 : (List UInt8)) (a1 : (List UInt8)) : Option ((List UInt8)) :=
 AR (fun j1 : (List UInt8) =>
  some (j1)) fun k2 =>
 CK N a1 k2 N a0
def Cm (N : Nat) (a0 : (List UInt8)) (a1 : (List UInt8)) : Option ((List UInt8)) :=
 AR (fun j1 : Bool =>
  if j1 = true then
   some (a0)
  else
   AR (fun j5 : Bool =>
    if j5 = true then
     Option.bind (idx a1 0) fun x10 =>
     Option.bind (strings_trimLeftByte N a0 (AP x10)) fun y11 =>
     some (y11)
    else
     Option.bind (strings_makeASCIISet N a1) fun y13 =>
     grd ((Sd 256).length = 256) (
     grd (y13.1.length = 256) (
     if y13.2 = true then
      Option.bind (strings_trimLeftASCII N a0 y13.1) fun y15 =>
      some (y15.1)
     else
      Option.bind (Ec N a0 a1) fun y17 =>
      some (y17)))) fun k6 =>
   if ((a1.length : Int) == 1) = true then
    Option.bind (idx a1 0) fun x9 =>
    k6 (decide ((AP x9) < 128))
   else
    k6 false) fun k2 =>
 if (a0 == []) = true then
  k2 true
 else
  k2 (a1 == [])
def BJ (N : Nat) (a1 : Int) (k2 : ((List UInt8) → Option ((List UInt8)))) : Nat → (List UInt8) → Option ((List UInt8))
  | 0, _ => none
  | k + 1, s0 =>
  AR (fun j6 : Bool =>
   if j6 = true then
    Option.bind (sub s0 0 (wr .i64 ((s0.length : Int) - 1))) fun x11 =>
    BJ N a1 k2 k x11
   else
    k2 s0) fun k7 =>
  if (decide ((s0.length : Int) > 0)) = true then
   Option.bind (idx s0 (wr .i64 ((s0.length : Int) - 1))) fun x10 =>
   k7 ((AP x10) == a1)
  else
   k7 false
def strings_trimRightByte (N : Nat) (a0 : (List UInt8)) (a1 : Int) : Option ((List UInt8)) :=
 AR (fun j1 : (List UInt8) =>
  some (j1)) fun k2 =>
 BJ N a1 k2 N a0
def CX (N : Nat) (k2 : ((List UInt8) × (List Bool) → Option ((List UInt8) × (List Bool)))) : Nat → (List UInt8) → (List Bool) → Option ((List UInt8) × (List Bool))
  | 0, _, _ => none
  | k + 1, s0, bi1 =>
  if (decide ((s0.length : Int) > 0)) = true then
   Option.bind (idx s0 (wr .i64 ((s0.length : Int) - 1))) fun x6 =>
   Option.bind (Bo N bi1 (AP x6)) fun y7 =>
   if y7.1 = true then
    Option.bind (sub s0 0 (wr .i64 ((s0.length : Int) - 1))) fun x9 =>
    CX N k2 k x9 y7.2
   else
    k2 (s0, y7.2)
  else
   k2 (s0, bi1)
def strings_trimRightASCII (N : Nat) (a0 : (List UInt8)) (a1 : (List Bool)) : Option ((List UInt8) × (List Bool)) :=
 AR (fun j1 : (List UInt8) × (List Bool) =>
  some (j1.1, j1.2)) fun k2 =>
 CX N k2 N a0 a1
def Er (N : Nat) (a0 : Int) : Option (Bool) :=
 some (((DC .u8 a0 192) != 128))
def BC (N : Nat) (a0 : (List UInt8)) (k3 : (Int → Option (Int × Int))) : Nat → Int → Option (Int × Int)
  | 0, _ => none
  | k + 1, s5 =>
  if (decide (s5 ≥ (if 0 > (wr .i64 ((a0.length : Int) - 4)) then 0 else (wr .i64 ((a0.length : Int) - 4))))) = true then
   Option.bind (idx a0 s5) fun x7 =>
   Option.bind (Er N (AP x7)) fun y8 =>
   if y8 = true then
    k3 s5
   else
    BC N a0 k3 k (wr .i64 (s5 - 1))
  else
   k3 s5
def Cg (N : Nat) (a0 : (List UInt8)) : Option (Int × Int) :=
 if ((a0.length : Int) == 0) = true then
  some (65533, 0)
 else
  Option.bind (idx a0 (wr .i64 ((a0.length : Int) - 1))) fun x1 =>
  if (decide ((wr .i32 (AP x1)) < 128)) = true then
   some ((wr .i32 (AP x1)), 1)
  else
   AR (fun j2 : Int =>
    AR (fun j10 : Int =>
     Option.bind (sub a0 j10 (a0.length : Int)) fun x14 =>
     Option.bind (CB N x14) fun y15 =>
     if ((wr .i64 (j10 + y15.2)) != (a0.length : Int)) = true then
      some (65533, 1)
     else
      some (y15.1, y15.2)) fun k11 =>
    if (decide (j2 < 0)) = true then
     k11 0
    else
     k11 j2) fun k3 =>
   BC N a0 k3 N (wr .i64 ((wr .i64 ((a0.length : Int) - 1)) - 1))
def Bw (N : Nat) (a1 : (List UInt8)) (k2 : ((List UInt8) → Option ((List UInt8)))) : Nat → (List UInt8) → Option ((List UInt8))
  | 0, _ => none
  | k + 1, s0 =>
  if (decide ((s0.length : Int) > 0)) = true then
   Option.bind (idx s0 (wr .i64 ((s0.length : Int) - 1))) fun x6 =>
   AR (fun j7 : Int × Int =>
    Option.bind (EK N a1 j7.1) fun y13 =>
    if y13 = true then
     Option.bind (sub s0 0 (wr .i64 ((s0.length : Int) - j7.2))) fun x15 =>
     Bw N a1 k2 k x15
    else
     k2 s0) fun k8 =>
   if (decide ((wr .i32 (AP x6)) ≥ 128)) = true then
    Option.bind (Cg N s0) fun y11 =>
    k8 (y11.1, y11.2)
   else
    k8 ((wr .i32 (AP x6)), 1)
  else
   k2 s0
def EW (N : Nat) (a0 : (List UInt8)) (a1 : (List UInt8)) : Option ((List UInt8)) :=
 AR (fun j1 : (List UInt8) =>
  some (j1)) fun k2 =>
 Bw N a1 k2 N a0
def EP (N : Nat) (a0 : (List UInt8)) (a1 : (List UInt8)) : Option ((List UInt8)) :=
 AR (fun j1 : Bool =>
  if j1 = true then
   some (a0)
  else
   AR (fun j5 : Bool =>
    if j5 = true then
     Option.bind (idx a1 0) fun x10 =>
     Option.bind (strings_trimRightByte N a0 (AP x10)) fun y11 =>
     some (y11)
    else
     Option.bind (strings_makeASCIISet N a1) fun y13 =>
     grd ((Sd 256).length = 256) (
     grd (y13.1.length = 256) (
     if y13.2 = true then
      Option.bind (strings_trimRightASCII N a0 y13.1) fun y15 =>
      some (y15.1)
     else
      Option.bind (EW N a0 a1) fun y17 =>
      some (y17)))) fun k6 =>
   if ((a1.length : Int) == 1) = true then
    Option.bind (idx a1 0) fun x9 =>
    k6 (decide ((AP x9) < 128))
   else
    k6 false) fun k2 =>
 if (a0 == []) = true then
  k2 true
 else
  k2 (a1 == [])
def Ag (N : Nat) (a1 : Int) (a2 : Int) (k9 : (Int → Option (Int × Int))) : List UInt8 → Int → Option (Int × Int)
  | [], s11 =>
  k9 s11
  | xk12 :: xs, s11 =>
  Option.bind (Fu N (AP xk12)) fun y13 =>
  AR (fun j15 : Bool =>
   if j15 = true then
    some (0, 4)
   else
    Ag N a1 a2 k9 xs (wr .u64 ((wr .u64 (s11 * a1)) + y13))) fun k16 =>
  grd (a1 ≠ 0) (
  if (decide (s11 > (wr .u64 ((wr .u64 (18446744073709551615 - y13)).tdiv a1)))) = true then
   k16 true
  else
   k16 (decide ((wr .u64 ((wr .u64 (s11 * a1)) + y13)) > a2)))
def Af (N : Nat) (k2 : (Unit → Option (Int × Int))) : List UInt8 → Option (Int × Int)
  | [] =>
  k2 ()
  | xk5 :: xs =>
  Option.bind (DL N (AP xk5)) fun y6 =>
  if y6 = true then
   Af N k2 xs 
  else
   some (0, 1)
def Cs (N : Nat) (a0 : (List UInt8)) (a1 : Int) (a2 : Int) : Option (Int × Int) :=
 if (a0 == []) = true then
  some (0, 3)
 else
  AR (fun j1 : Unit =>
   AR (fun j8 : Int =>
    some (j8, 0)) fun k9 =>
   grd (Ac (a0.length)) (
    Ag N a1 a2 k9 a0 0)) fun k2 =>
  grd (Ac (a0.length)) (
   Af N k2 a0)
def Gj (N : Nat) (a0 : (List UInt8)) (a1 : Int) : Option (Int × Int) :=
 Option.bind (Cs N a0 10 a1) fun y1 =>
 some (y1.1, y1.2)
def CU (N : Nat) (a0 : (List UInt8)) (a1 : (List UInt8)) : Option (Bool) :=
 if (decide ((a0.length : Int) ≥ (a1.length : Int))) = true then
  Option.bind (sub a0 0 (a1.length : Int)) fun x1 =>
  some ((x1 == a1))
 else
  some (false)
def strings_HasPrefix (N : Nat) (a0 : (List UInt8)) (a1 : (List UInt8)) : Option (Bool) :=
 Option.bind (CU N a0 a1) fun y1 =>
 some (y1)
def FY (N : Nat) (a0 : (List UInt8)) : Option (Int) :=
 Option.bind (Cm N a0 ([43, 45] : List UInt8)) fun y1 =>
 Option.bind (Gj N y1 1099511627776) fun y3 =>
 AR (fun j5 : Int =>
  Option.bind (strings_HasPrefix N a0 ([45] : List UInt8)) fun y9 =>
  if y9 = true then
   some ((wr .i64 (0 - (wr .i64 j5))))
  else
   some ((wr .i64 j5))) fun k6 =>
 if (y3.2 == 3) = true then
  some (0)
 else
  if (y3.2 != 0) = true then
   k6 1099511627776
  else
   k6 y3.1
def DJ (N : Nat) (k2 : (Int × Int × (List Int) → Option ((List UInt8)))) : Nat → Int → Int → (List Int) → Option ((List UInt8))
  | 0, _, _, _ => none
  | k + 1, s0, s4, bn =>
  if (decide (s0 ≥ 10)) = true then
   grd (0 ≤ s4 ∧ s4 < 20) (
   grd (s4.toNat + 1 ≤ bn.length) (
   DJ N k2 k (wr .u64 (s0.tdiv 10)) (wr .i64 (s4 - 1)) (bn.set s4.toNat (wr .u8 (wr .u64 (48 + (s0.tmod 10)))))))
  else
   k2 (s0, s4, bn)
def FJ (N : Nat) (a0 : Int) : Option ((List UInt8)) :=
 AR (fun j1 : Int × Int × (List Int) =>
  grd (0 ≤ j1.2.1 ∧ j1.2.1 < 20) (
  grd (j1.2.1.toNat + 1 ≤ j1.2.2.length) (
  grd (0 ≤ j1.2.1 ∧ j1.2.1 ≤ 20) (
  grd ((20 - j1.2.1.toNat) ≤ j1.2.2.length - j1.2.1.toNat ∧ Ac (20 - j1.2.1.toNat)) (
  some ((List.map EY (List.take (20 - j1.2.1.toNat) (List.drop j1.2.1.toNat (j1.2.2.set j1.2.1.toNat (wr .u8 (wr .u64 (48 + j1.1))))))))))))) fun k2 =>
 DJ N k2 N a0 19 (List.replicate 20 0)
def Bd (N : Nat) (a0 : (List UInt8)) : Option ((List UInt8) × Int) :=
 Option.bind (BF N (TokenReader.mk a0 0)) fun y1 =>
 AR (fun j3 : Bool =>
  if j3 = true then
   some ([], 130)
  else
   AR (fun j7 : (List UInt8) × (List UInt8) =>
    Option.bind (Hr N j7.2) fun y13 =>
    Option.bind (strings_Cut N y13 ([101] : List UInt8)) fun y15 =>
    Option.bind (strings_Cut N y15.1 ([46] : List UInt8)) fun y17 =>
    grd (Ac (y17.1.length + y17.2.1.length)) (
    Option.bind (Cm N (y17.1 ++ y17.2.1) ([48] : List UInt8)) fun y19 =>
    Option.bind (EP N y19 ([48] : List UInt8)) fun y21 =>
    if (y21 == []) = true then
     some (([48] : List UInt8), 0)
    else
     Option.bind (FY N y15.2.1) fun y23 =>
     AR (fun j25 : Bool =>
      if j25 = true then
       some ([], 144)
      else
       if (decide ((wr .i64 ((wr .i64 ((wr .i64 (y23 - (y17.2.1.length : Int))) + (y19.length : Int))) - (y21.length : Int))) < 0)) = true then
        grd (Ac (j7.1.length + y21.length)) (
        grd (Ac ((j7.1 ++ y21).length + ([101, 45] : List UInt8).length)) (
        Option.bind (FJ N (wr .u64 (wr .i64 (0 - (wr .i64 ((wr .i64 ((wr .i64 (y23 - (y17.2.1.length : Int))) + (y19.length : Int))) - (y21.length : Int))))))) fun y29 =>
        grd (Ac (((j7.1 ++ y21) ++ ([101, 45] : List UInt8)).length + y29.length)) (
        some ((((j7.1 ++ y21) ++ ([101, 45] : List UInt8)) ++ y29), 0))))
       else
        if (decide ((wr .i64 ((wr .i64 ((wr .i64 (y23 - (y17.2.1.length : Int))) + (y19.length : Int))) - (y21.length : Int))) > 0)) = true then
         grd (Ac (j7.1.length + y21.length)) (
         grd (Ac ((j7.1 ++ y21).length + ([101] : List UInt8).length)) (
         Option.bind (FJ N (wr .u64 (wr .i64 ((wr .i64 ((wr .i64 (y23 - (y17.2.1.length : Int))) + (y19.length : Int))) - (y21.length : Int))))) fun y31 =>
         grd (Ac (((j7.1 ++ y21) ++ ([101] : List UInt8)).length + y31.length)) (
         some ((((j7.1 ++ y21) ++ ([101] : List UInt8)) ++ y31), 0))))
        else
         grd (Ac (j7.1.length + y21.length)) (
         some ((j7.1 ++ y21), 0))) fun k26 =>
     if (decide ((y21.length : Int) > 40)) = true then
      k26 true
     else
      if (decide ((wr .i64 ((wr .i64 ((wr .i64 (y23 - (y17.2.1.length : Int))) + (y19.length : Int))) - (y21.length : Int))) < (-400))) = true then
       k26 true
      else
       k26 (decide ((wr .i64 ((wr .i64 ((wr .i64 (y23 - (y17.2.1.length : Int))) + (y19.length : Int))) - (y21.length : Int))) > 400)))) fun k8 =>
   Option.bind (idx a0 0) fun x11 =>
   if ((AP x11) == 45) = true then
    Option.bind (sub a0 1 (a0.length : Int)) fun x12 =>
    k8 (([45] : List UInt8), x12)
   else
    k8 ([], a0)) fun k4 =>
 if y1.2.1 = true then
  k4 ((y1.1.length : Int) != (a0.length : Int))
 else
  k4 true
structure JPsr where
  stack : List ApiValue
  want : Int
  nodes : Int
  out : ApiValue
def BM : ApiValue := ⟨0, [], [], []⟩
def FX (t : ApiToken) : Bool := t.kind == 3 || t.kind == 4 || t.kind == 5 || t.kind == 2 && (t.text == [91] || t.text == [123])
def ET (p : JPsr) : List UInt8 := match p.stack.getLast? with | none => [] | some v => if v.kind == 7 then [125] else [93]
def K9 (p : JPsr) (t : ApiToken) : Bool := t.kind == 2 && t.text == ET p
def De (p : JPsr) (t : ApiToken) : Bool :=
  if p.want == 0 then FX t else if p.want == 1 then FX t || K9 p t else if p.want == 2 then t.kind == 3 else if p.want == 3 then t.kind == 3 || K9 p t
  else if p.want == 4 then t.kind == 2 && t.text == [58] else if p.want == 5 then t.kind == 2 && t.text == [44] || K9 p t else t.kind == 1
def CV (p : JPsr) (v : ApiValue) : JPsr :=
  match p.stack.getLast? with
  | none => { p with out := v, want := 6 }
  | some l => { p with stack := p.stack.dropLast ++ [{ l with items := l.items ++ [v] }], want := 5 }
def EM (p : JPsr) (kind want : Int) : JPsr × Int :=
  if p.stack.length ≥ 64 then (p, 141) else if p.nodes + 1 > 20000 then ({ p with nodes := p.nodes + 1 }, 142)
  else ({ p with stack := p.stack ++ [⟨kind, [], [], []⟩], nodes := p.nodes + 1, want := want }, 0)
def M8 (p : JPsr) (s : List UInt8) : Option (JPsr × Int) :=
  match p.stack.getLast? with
  | none => none
  | some l => if s ∈ l.keys then some (p, 143) else some ({ p with stack := p.stack.dropLast ++ [{ l with keys := l.keys ++ [s] }], want := 4 }, 0)
def Kt (s : List UInt8) : Int := if s == [110, 117, 108, 108] then 1 else if s == [102, 97, 108, 115, 101] then 2 else if s == [116, 114, 117, 101] then 3 else 0
def IG (p : JPsr) (v : ApiValue) : JPsr × Int :=
  if p.nodes + 1 > 20000 then ({ p with nodes := p.nodes + 1 }, 142) else (CV { p with nodes := p.nodes + 1 } v, 0)
def Kg (N : Nat) (p : JPsr) (t : ApiToken) : Option (JPsr × Int) :=
  if t.kind == 4 then Option.bind (Bd N t.text) fun y => if y.2 != 0 then some (p, 144) else some (IG p ⟨4, y.1, [], []⟩)
  else if t.kind == 5 then some (IG p ⟨Kt t.text, [], [], []⟩) else some (IG p ⟨5, t.text, [], []⟩)
def JU (p : JPsr) (c : List UInt8) : Option (JPsr × Int) :=
  if c == [91] then some (EM p 6 1) else if c == [123] then some (EM p 7 3) else if c == [58] then some ({ p with want := 0 }, 0)
  else match p.stack.getLast? with
  | none => none
  | some l => if c == [44] then some ({ p with want := if l.kind == 7 then 2 else 0 }, 0) else some (CV { p with stack := p.stack.dropLast } l, 0)
def DN (N : Nat) (p : JPsr) (t : ApiToken) : Option (JPsr × Int) :=
  if De p t = false then some (p, 140) else if t.kind == 2 then JU p t.text else if p.want == 2 || p.want == 3 then M8 p t.text else if t.kind == 1 then some (p, 0) else Kg N p t
def F8 (N : Nat) (s : List UInt8) : Nat → Int → JPsr → Option (ApiValue × Int × Int)
  | 0, _, _ => none
  | D + 1, at_, p =>
    Option.bind (He N s at_) fun y =>
    if y.2.2 != 0 then some (BM, at_, y.2.2) else
    Option.bind (DN N p y.1) fun q =>
    if q.2 != 0 then some (BM, y.1.at_, q.2) else
    if y.1.kind == 1 then some (q.1.out, s.length, 0) else F8 N s D y.2.1 q.1
def Ca (N : Nat) (a0 : List UInt8) : Option (ApiValue × Int × Int) :=
  if N > 1099511627776 then none else if a0.length > 1048576 then some (BM, 0, 142) else F8 N a0 N 0 ⟨[], 0, 0, BM⟩
def Jl (N : Nat)  : Option (Bool) :=
 Option.bind (Ca N ([123, 34, 97, 34, 58, 91, 49, 44, 50, 46, 53, 48, 93, 44, 34, 98, 34, 58, 110, 117, 108, 108, 125] : List UInt8)) fun y1 =>
 Option.bind (Ca N ([123, 34, 97, 34, 58, 49, 44, 34, 97, 34, 58, 50, 125] : List UInt8)) fun y3 =>
 if (y1.2.2 == 0) = true then
  if (y1.2.1 == 23) = true then
   if ((y1.1.keys.length : Int) == 2) = true then
    if ((y1.1.items.length : Int) == 2) = true then
     Option.bind (idx y1.1.items 0) fun x5 =>
     if ((x5.items.length : Int) == 2) = true then
      Option.bind (idx x5.items 1) fun x6 =>
      if (x6.text == ([50, 53, 101, 45, 49] : List UInt8)) = true then
       if (y3.2.2 == 143) = true then
        some ((y3.2.1 == 7))
       else
        some (false)
      else
       some (false)
     else
      some (false)
    else
     some (false)
   else
    some (false)
  else
   some (false)
 else
  some (false)
def Br (N : Nat) (a2 : Int) (k2 : (Unit → Option (Bool))) : List (List UInt8) → Option (Bool)
  | [] =>
  k2 ()
  | xk5 :: xs =>
  if (decide ((xk5.length : Int) > a2)) = true then
   some (false)
  else
   Br N a2 k2 xs 
def Gb (N : Nat) (a0 : (List (List UInt8))) (a1 : Int) (a2 : Int) : Option (Bool) :=
 if (decide ((a0.length : Int) > a1)) = true then
  some (false)
 else
  AR (fun j1 : Unit =>
   some (true)) fun k2 =>
  grd (Ac (a0.length)) (
   Br N a2 k2 a0)
def CO (N : Nat) (rec_ref15_count : (ApiValue → Int → Option (Int))) (j1 : Int) (k10 : (Int → Option (Int))) : List ApiValue → Int → Option (Int)
  | [], s6 =>
  k10 s6
  | xk13 :: xs, s6 =>
  Option.bind (rec_ref15_count xk13 j1) fun y14 =>
  if (y14 == 0) = true then
   some (0)
  else
   if (decide ((wr .i64 (s6 + y14)) > 20000)) = true then
    some (20001)
   else
    CO N rec_ref15_count j1 k10 xs (wr .i64 (s6 + y14))
def Cn (N : Nat) : Nat → ApiValue → Int → Option (Int)
  | 0, _, _ => none
  | D + 1, a0, a1 =>
  AR (fun j1 : Int =>
   if (decide (j1 > 64)) = true then
    some (0)
   else
    AR (fun j9 : Int =>
     some (j9)) fun k10 =>
    grd (Ac (a0.items.length)) (
     CO N (Cn N D) j1 k10 a0.items 1)) fun k2 =>
  AR (fun j5 : Bool =>
   if j5 = true then
    k2 (wr .i64 (a1 + 1))
   else
    k2 a1) fun k6 =>
  if (a0.kind == 6) = true then
   k6 true
  else
   k6 (a0.kind == 7)
def GJ (N : Nat) (a0 : (List UInt8)) (a1 : Int) : Option ((List UInt8)) :=
 if (decide (a1 ≥ (a0.length : Int))) = true then
  some ([])
 else
  Option.bind (sub a0 a1 (a0.length : Int)) fun x1 =>
  some (x1)
def FE (N : Nat) (a0 : Int) : Option (Bool) :=
 if (decide (a0 ≥ 48)) = true then
  some ((decide (a0 ≤ 57)))
 else
  some (false)
def EO (N : Nat) (a0 : (List UInt8)) (k2 : (Int → Option (Int))) : Nat → Int → Option (Int)
  | 0, _ => none
  | k + 1, s3 =>
  AR (fun j6 : Bool =>
   if j6 = true then
    EO N a0 k2 k (wr .i64 (s3 + 1))
   else
    k2 s3) fun k7 =>
  if (decide (s3 < (a0.length : Int))) = true then
   Option.bind (idx a0 s3) fun x10 =>
   Option.bind (FE N (AP x10)) fun y11 =>
   k7 y11
  else
   k7 false
def GR (N : Nat) (a0 : (List UInt8)) : Option (Int) :=
 AR (fun j1 : Int =>
  some (j1)) fun k2 =>
 EO N a0 k2 N 0
def Dv (N : Nat) (a0 : Int) (k2 : (Unit → Option (Bool))) : List UInt8 → Option (Bool)
  | [] =>
  k2 ()
  | xk5 :: xs =>
  if ((AP xk5) == a0) = true then
   some (true)
  else
   Dv N a0 k2 xs 
def Gt (N : Nat) (a0 : Int) (a1 : (List UInt8)) : Option (Bool) :=
 AR (fun j1 : Unit =>
  some (false)) fun k2 =>
 grd (Ac (a1.length)) (
  Dv N a0 k2 a1)
def F6 (N : Nat) (a0 : (List UInt8)) : Option (Int) :=
 AR (fun j1 : Int =>
  AR (fun j10 : Bool =>
   if j10 = true then
    some (0)
   else
    AR (fun j17 : Int =>
     AR (fun j25 : Int =>
      AR (fun j38 : Int =>
       some (j38)) fun k39 =>
      AR (fun j42 : Bool =>
       if j42 = true then
        AR (fun j49 : Int =>
         Option.bind (GJ N a0 j49) fun y60 =>
         Option.bind (GR N y60) fun y62 =>
         if (decide (y62 > 0)) = true then
          k39 (wr .i64 (j49 + y62))
         else
          k39 j25) fun k50 =>
        AR (fun j53 : Bool =>
         if j53 = true then
          k50 (wr .i64 ((wr .i64 (j25 + 1)) + 1))
         else
          k50 (wr .i64 (j25 + 1))) fun k54 =>
        if (decide ((wr .i64 (j25 + 1)) < (a0.length : Int))) = true then
         Option.bind (idx a0 (wr .i64 (j25 + 1))) fun x57 =>
         Option.bind (Gt N (AP x57) ([43, 45] : List UInt8)) fun y58 =>
         k54 y58
        else
         k54 false
       else
        k39 j25) fun k43 =>
      if (decide (j25 < (a0.length : Int))) = true then
       Option.bind (idx a0 j25) fun x46 =>
       Option.bind (Gt N (AP x46) ([101, 69] : List UInt8)) fun y47 =>
       k43 y47
      else
       k43 false) fun k26 =>
     Option.bind (GJ N a0 (wr .i64 (j17 + 1))) fun y29 =>
     Option.bind (GR N y29) fun y31 =>
     AR (fun j33 : Bool =>
      if j33 = true then
       k26 (wr .i64 (j17 + (wr .i64 (1 + y31))))
      else
       k26 j17) fun k34 =>
     if (decide (j17 < (a0.length : Int))) = true then
      Option.bind (idx a0 j17) fun x37 =>
      if ((AP x37) == 46) = true then
       k34 (decide (y31 > 0))
      else
       k34 false
     else
      k34 false) fun k18 =>
    Option.bind (idx a0 j1) fun x21 =>
    if ((AP x21) == 48) = true then
     k18 (wr .i64 (j1 + 1))
    else
     Option.bind (sub a0 j1 (a0.length : Int)) fun x22 =>
     Option.bind (GR N x22) fun y23 =>
     k18 (wr .i64 (j1 + y23))) fun k11 =>
  if (j1 == (a0.length : Int)) = true then
   k11 true
  else
   Option.bind (idx a0 j1) fun x14 =>
   Option.bind (FE N (AP x14)) fun y15 =>
   k11 (!y15)) fun k2 =>
 AR (fun j5 : Bool =>
  if j5 = true then
   k2 (wr .i64 (0 + 1))
  else
   k2 0) fun k6 =>
 if (decide (0 < (a0.length : Int))) = true then
  Option.bind (idx a0 0) fun x9 =>
  k6 ((AP x9) == 45)
 else
  k6 false
def Ci (N : Nat) (a1 : (List UInt8)) (k2 : (Unit → Option (Int))) : List UInt8 → Int → Option (Int)
  | [], s5 =>
  k2 ()
  | xk5 :: xs, s5 =>
  Option.bind (Gt N (AP xk5) a1) fun y6 =>
  if y6 = true then
   some (s5)
  else
   Ci N a1 k2 xs (s5 + 1) 
def GV (N : Nat) (a0 : (List UInt8)) (a1 : (List UInt8)) : Option (Int) :=
 AR (fun j1 : Unit =>
  some ((a0.length : Int))) fun k2 =>
 grd (Ac (a0.length)) (
  Ci N a1 k2 a0 0)
def Bi (N : Nat) (k19 : (Int → Option (Int))) : List UInt8 → Int → Option (Int)
  | [], s4 =>
  k19 s4
  | xk22 :: xs, s4 =>
  Bi N k19 xs (if 1073741824 < (wr .i64 ((wr .i64 (s4 * 10)) + (wr .i64 (wr .u8 ((AP xk22) - 48))))) then 1073741824 else (wr .i64 ((wr .i64 (s4 * 10)) + (wr .i64 (wr .u8 ((AP xk22) - 48))))))
def Fg (N : Nat) (a0 : (List UInt8)) : Option (Int) :=
 AR (fun j1 : Bool =>
  AR (fun j6 : (List UInt8) =>
   AR (fun j18 : Int =>
    if j1 = true then
     some ((wr .i64 (0 - j18)))
    else
     some (j18)) fun k19 =>
   grd (Ac (j6.length)) (
    Bi N k19 j6 0)) fun k7 =>
  AR (fun j10 : Bool =>
   if j10 = true then
    Option.bind (sub a0 1 (a0.length : Int)) fun x17 =>
    k7 x17
   else
    k7 a0) fun k11 =>
  if (a0 == []) = true then
   k11 false
  else
   Option.bind (idx a0 0) fun x14 =>
   Option.bind (Gt N (AP x14) ([43, 45] : List UInt8)) fun y15 =>
   k11 y15) fun k2 =>
 if (a0 == []) = true then
  k2 false
 else
  Option.bind (idx a0 0) fun x5 =>
  k2 ((AP x5) == 45)
def Di (N : Nat) : Nat → Int → (List UInt8) → Option ((List UInt8))
  | 0, _, _ => none
  | k + 1, s0, s3 =>
  grd (Ac ((List.map EY [(wr .u8 (wr .u64 (48 + (s0.tmod 10))))]).length + s3.length)) (
  if ((wr .u64 (s0.tdiv 10)) == 0) = true then
   some (((List.map EY [(wr .u8 (wr .u64 (48 + (s0.tmod 10))))]) ++ s3))
  else
   Di N k (wr .u64 (s0.tdiv 10)) ((List.map EY [(wr .u8 (wr .u64 (48 + (s0.tmod 10))))]) ++ s3))
def Fq (N : Nat) (a0 : Int) : Option ((List UInt8)) :=
 Di N N a0 []
def Dj (N : Nat) (k40 : (Int × (List UInt8) → Option ((List UInt8) × Int))) : Nat → Int → (List UInt8) → Option ((List UInt8) × Int)
  | 0, _, _ => none
  | k + 1, s6, s7 =>
  Option.bind (idx s7 (wr .i64 ((s7.length : Int) - 1))) fun x44 =>
  if ((AP x44) == 48) = true then
   Option.bind (sub s7 0 (wr .i64 ((s7.length : Int) - 1))) fun x45 =>
   Dj N k40 k (wr .i64 (s6 + 1)) x45
  else
   k40 (s6, s7)
def C8 (N : Nat) (k29 : ((List UInt8) → Option ((List UInt8) × Int))) : Nat → (List UInt8) → Option ((List UInt8) × Int)
  | 0, _ => none
  | k + 1, s7 =>
  AR (fun j33 : Bool =>
   if j33 = true then
    Option.bind (sub s7 1 (s7.length : Int)) fun x38 =>
    C8 N k29 k x38
   else
    k29 s7) fun k34 =>
  if (decide ((s7.length : Int) > 0)) = true then
   Option.bind (idx s7 0) fun x37 =>
   k34 ((AP x37) == 48)
  else
   k34 false
def Du (N : Nat) (a0 : (List UInt8)) : Option ((List UInt8) × Int) :=
 AR (fun j1 : Bool =>
  if j1 = true then
   some ([], 130)
  else
   AR (fun j7 : (List UInt8) × (List UInt8) =>
    Option.bind (GV N j7.1 ([101, 69] : List UInt8)) fun y13 =>
    Option.bind (GJ N j7.1 (wr .i64 (y13 + 1))) fun y15 =>
    Option.bind (Fg N y15) fun y17 =>
    Option.bind (sub j7.1 0 y13) fun x19 =>
    AR (fun j20 : Int × (List UInt8) =>
     AR (fun j28 : (List UInt8) =>
      if (j28 == []) = true then
       some (([48] : List UInt8), 0)
      else
       AR (fun j39 : Int × (List UInt8) =>
        AR (fun j46 : Bool =>
         if j46 = true then
          some ([], 144)
         else
          if (decide (j39.1 < 0)) = true then
           grd (Ac (j7.2.length + j39.2.length)) (
           grd (Ac ((j7.2 ++ j39.2).length + ([101, 45] : List UInt8).length)) (
           Option.bind (Fq N (wr .u64 (wr .i64 (0 - j39.1)))) fun y50 =>
           grd (Ac (((j7.2 ++ j39.2) ++ ([101, 45] : List UInt8)).length + y50.length)) (
           some ((((j7.2 ++ j39.2) ++ ([101, 45] : List UInt8)) ++ y50), 0))))
          else
           if (decide (j39.1 > 0)) = true then
            grd (Ac (j7.2.length + j39.2.length)) (
            grd (Ac ((j7.2 ++ j39.2).length + ([101] : List UInt8).length)) (
            Option.bind (Fq N (wr .u64 j39.1)) fun y52 =>
            grd (Ac (((j7.2 ++ j39.2) ++ ([101] : List UInt8)).length + y52.length)) (
            some ((((j7.2 ++ j39.2) ++ ([101] : List UInt8)) ++ y52), 0))))
           else
            grd (Ac (j7.2.length + j39.2.length)) (
            some ((j7.2 ++ j39.2), 0))) fun k47 =>
        if (decide ((j39.2.length : Int) > 40)) = true then
         k47 true
        else
         if (decide (j39.1 > 400)) = true then
          k47 true
         else
          k47 (decide (j39.1 < (-400)))) fun k40 =>
       Dj N k40 N j20.1 j28) fun k29 =>
     C8 N k29 N j20.2) fun k21 =>
    Option.bind (GV N x19 ([46] : List UInt8)) fun y24 =>
    if (decide (y24 < (x19.length : Int))) = true then
     Option.bind (sub x19 0 y24) fun x26 =>
     Option.bind (sub x19 (wr .i64 (y24 + 1)) (x19.length : Int)) fun x27 =>
     grd (Ac (x26.length + x27.length)) (
     k21 ((wr .i64 (y17 - (wr .i64 ((wr .i64 ((x19.length : Int) - y24)) - 1)))), (x26 ++ x27)))
    else
     k21 (y17, x19)) fun k8 =>
   Option.bind (idx a0 0) fun x11 =>
   if ((AP x11) == 45) = true then
    Option.bind (sub a0 1 (a0.length : Int)) fun x12 =>
    k8 (x12, ([45] : List UInt8))
   else
    k8 (a0, [])) fun k2 =>
 if (a0 == []) = true then
  k2 true
 else
  Option.bind (F6 N a0) fun y5 =>
  k2 (y5 != (a0.length : Int))
def Be (N : Nat) (a0 : (List UInt8)) (k4 : (Int → Option (Int))) : Nat → Int → Int → Option (Int)
  | 0, s4, s3 =>
  k4 s3
  | k + 1, s4, s3 =>
  Option.bind (idx a0 s4) fun x8 =>
  Be N a0 k4 k (s4 + 1) (Ee .i64 (Lp .i64 s3 6) (DC .i64 (wr .i64 (AP x8)) 63))
def Ei (N : Nat) (a0 : (List UInt8)) : Option (Int) :=
 if ((a0.length : Int) == 1) = true then
  Option.bind (idx a0 0) fun x1 =>
  some ((wr .i64 (AP x1)))
 else
  Option.bind (idx a0 0) fun x2 =>
  grd (¬ (wr .i64 (7 - (a0.length : Int))) < 0) (
  AR (fun j3 : Int =>
   some (j3)) fun k4 =>
  grd ((-4611686018427387904 : Int) ≤ 1 ∧ ((a0.length : Int) : Int) ≤ 4611686018427387904) (
   Be N a0 k4 (((a0.length : Int) : Int) - 1).toNat 1 (DC .i64 (wr .i64 (AP x2)) (wr .i64 ((Lp .i64 1 (wr .i64 (7 - (a0.length : Int)))) - 1)))))
def Hq (N : Nat) (a0 : Int) : Option (Bool) :=
 if (decide (a0 ≥ 0)) = true then
  if (decide (a0 ≤ 1114111)) = true then
   if (decide (a0 < 55296)) = true then
    some (true)
   else
    some ((decide (a0 > 57343)))
  else
   some (false)
 else
  some (false)
def Gc (N : Nat) (a0 : Int) : Option ((List UInt8) × Int) :=
 Option.bind (Hq N a0) fun y1 =>
 if y1 = true then
  if (decide (a0 < 128)) = true then
   some ((List.map EY [(wr .u8 a0)]), 0)
  else
   if (decide (a0 < 2048)) = true then
    letL ([(wr .u8 (Ee .i64 192 (Lh .i64 a0 6))), (wr .u8 (Ee .i64 128 (DC .i64 a0 63)))] : (List Int)) fun l3 =>
    some ((List.map EY l3), 0)
   else
    if (decide (a0 < 65536)) = true then
     letL ([(wr .u8 (Ee .i64 224 (Lh .i64 a0 12))), (wr .u8 (Ee .i64 128 (DC .i64 (Lh .i64 a0 6) 63))), (wr .u8 (Ee .i64 128 (DC .i64 a0 63)))] : (List Int)) fun l4 =>
     some ((List.map EY l4), 0)
    else
     letL ([(wr .u8 (Ee .i64 240 (Lh .i64 a0 18))), (wr .u8 (Ee .i64 128 (DC .i64 (Lh .i64 a0 12) 63))), (wr .u8 (Ee .i64 128 (DC .i64 (Lh .i64 a0 6) 63))), (wr .u8 (Ee .i64 128 (DC .i64 a0 63)))] : (List Int)) fun l5 =>
     some ((List.map EY l5), 0)
 else
  some ([], 4)
def CQ (N : Nat) (a0 : (List UInt8)) (a1 : Int) (k6 : (Unit → Option (Int × Int × Int))) : Nat → Int → Option (Int × Int × Int)
  | 0, _ => none
  | k + 1, s7 =>
  AR (fun j10 : Bool =>
   if j10 = true then
    Option.bind (sub a0 a1 (wr .i64 (a1 + s7))) fun x14 =>
    Option.bind (Ei N x14) fun y15 =>
    Option.bind (Gc N y15) fun y17 =>
    AR (fun j19 : Bool =>
     if j19 = true then
      some (y15, (wr .i64 (a1 + s7)), 0)
     else
      CQ N a0 a1 k6 k (wr .i64 (s7 + 1))) fun k20 =>
    if (y17.2 == 0) = true then
     k20 (y17.1 == x14)
    else
     k20 false
   else
    k6 ()) fun k11 =>
  if (decide (s7 ≤ 4)) = true then
   k11 (decide ((wr .i64 (a1 + s7)) ≤ (a0.length : Int)))
  else
   k11 false
def Gw (N : Nat) (a0 : (List UInt8)) (a1 : Int) : Option (Int × Int × Int) :=
 AR (fun j1 : Bool =>
  if j1 = true then
   some (0, 0, 4)
  else
   AR (fun j5 : Unit =>
    some (0, 0, 7)) fun k6 =>
   CQ N a0 a1 k6 N 1) fun k2 =>
 if (decide (a1 < 0)) = true then
  k2 true
 else
  k2 (decide (a1 ≥ (a0.length : Int)))
def DZ (N : Nat) (a0 : (List UInt8)) (k2 : (Int → Option (Int))) : Nat → Int → Int → Option (Int)
  | 0, _, _ => none
  | k + 1, s3, s4 =>
  if (decide (s4 < (a0.length : Int))) = true then
   Option.bind (Gw N a0 s4) fun y6 =>
   if (y6.2.2 != 0) = true then
    some ((-1))
   else
    DZ N a0 k2 k (wr .i64 (s3 + 1)) y6.2.1
  else
   k2 s3
def Iy (N : Nat) (a0 : (List UInt8)) : Option (Int) :=
 AR (fun j1 : Int =>
  some (j1)) fun k2 =>
 DZ N a0 k2 N 0 0
def Fa (N : Nat) (a0 : (List UInt8)) : Option (Bool) :=
 Option.bind (Iy N a0) fun y1 =>
 some ((decide (y1 ≥ 0)))
def CP (N : Nat) (k8 : ((List (List UInt8)) × (List (List UInt8)) × (List (List UInt8)) → Option ((List (List UInt8))))) : Nat → (List (List UInt8)) → (List (List UInt8)) → (List (List UInt8)) → Option ((List (List UInt8)))
  | 0, _, _, _ => none
  | k + 1, s3, s4, s5 =>
  AR (fun j12 : Bool =>
   if j12 = true then
    Option.bind (idx s3 0) fun x16 =>
    Option.bind (idx s4 0) fun x17 =>
    if (Op.bytesLess x16 x17 || x16 == x17) = true then
     grd (Bn (s5.length + 1) 16) (
     Option.bind (sub s3 1 (s3.length : Int)) fun x18 =>
     CP N k8 k x18 s4 (s5 ++ [x16]))
    else
     grd (Bn (s5.length + 1) 16) (
     Option.bind (sub s4 1 (s4.length : Int)) fun x19 =>
     CP N k8 k s3 x19 (s5 ++ [x17]))
   else
    k8 (s3, s4, s5)) fun k13 =>
  if (decide ((s3.length : Int) > 0)) = true then
   k13 (decide ((s4.length : Int) > 0))
  else
   k13 false
def Cw (N : Nat) : Nat → (List (List UInt8)) → Option ((List (List UInt8)))
  | 0, _ => none
  | D + 1, a0 =>
  if (decide ((a0.length : Int) < 2)) = true then
   some (a0)
  else
   Option.bind (sub a0 0 (wr .i64 ((a0.length : Int).tdiv 2))) fun x1 =>
   Option.bind ((Cw N D) x1) fun y2 =>
   Option.bind (sub a0 (wr .i64 ((a0.length : Int).tdiv 2)) (a0.length : Int)) fun x4 =>
   Option.bind ((Cw N D) x4) fun y5 =>
   AR (fun j7 : (List (List UInt8)) × (List (List UInt8)) × (List (List UInt8)) =>
    grd (Bn (j7.2.2.length + j7.1.length) 16) (
    grd (Bn ((j7.2.2 ++ j7.1).length + j7.2.1.length) 16) (
    some (((j7.2.2 ++ j7.1) ++ j7.2.1))))) fun k8 =>
   CP N k8 N y2 y5 []
def BX (N : Nat) (y1 : (List (List UInt8))) (k4 : (Unit → Option (Bool))) : List (List UInt8) → Int → Option (Bool)
  | [], s10 =>
  k4 ()
  | xk7 :: xs, s10 =>
  AR (fun j8 : Bool =>
   if j8 = true then
    some (false)
   else
    BX N y1 k4 xs (s10 + 1) ) fun k9 =>
  Option.bind (Fa N xk7) fun y12 =>
  if y12 = true then
   if (decide (s10 > 0)) = true then
    Option.bind (idx y1 (wr .i64 (s10 - 1))) fun x14 =>
    k9 (x14 == xk7)
   else
    k9 false
  else
   k9 true
def E8 (N : Nat) (a0 : (List (List UInt8))) : Option (Bool) :=
 Option.bind (Cw N N a0) fun y1 =>
 AR (fun j3 : Unit =>
  some (true)) fun k4 =>
 grd (Ac (y1.length)) (
  BX N y1 k4 y1 0)
def CF (N : Nat) (rec_ref15_shape : (ApiValue → Option (Bool))) (k24 : (Unit → Option (Bool))) : List ApiValue → Option (Bool)
  | [] =>
  k24 ()
  | xk27 :: xs =>
  Option.bind (rec_ref15_shape xk27) fun y28 =>
  if y28 = true then
   CF N rec_ref15_shape k24 xs 
  else
   some (false)
def C9 (N : Nat) : Nat → ApiValue → Option (Bool)
  | 0, _ => none
  | D + 1, a0 =>
  AR (fun j1 : Unit =>
   AR (fun j23 : Unit =>
    some (true)) fun k24 =>
   grd (Ac (a0.items.length)) (
    CF N (C9 N D) k24 a0.items)) fun k2 =>
  AR (fun j5 : Bool =>
   if j5 = true then
    if (a0.text == []) = true then
     if ((a0.keys.length : Int) == 0) = true then
      some (((a0.items.length : Int) == 0))
     else
      some (false)
    else
     some (false)
   else
    if (a0.kind == 4) = true then
     Option.bind (Du N a0.text) fun y9 =>
     if (y9.2 == 0) = true then
      if (y9.1 == a0.text) = true then
       if ((a0.keys.length : Int) == 0) = true then
        some (((a0.items.length : Int) == 0))
       else
        some (false)
      else
       some (false)
     else
      some (false)
    else
     if (a0.kind == 5) = true then
      Option.bind (Fa N a0.text) fun y11 =>
      if y11 = true then
       if ((a0.keys.length : Int) == 0) = true then
        some (((a0.items.length : Int) == 0))
       else
        some (false)
      else
       some (false)
     else
      if (a0.kind == 6) = true then
       AR (fun j13 : Bool =>
        if j13 = true then
         some (false)
        else
         k2 ()) fun k14 =>
       if (a0.text == []) = true then
        k14 ((a0.keys.length : Int) != 0)
       else
        k14 true
      else
       if (a0.kind == 7) = true then
        AR (fun j17 : Bool =>
         if j17 = true then
          some (false)
         else
          k2 ()) fun k18 =>
        if (a0.text == []) = true then
         if ((a0.keys.length : Int) != (a0.items.length : Int)) = true then
          k18 true
         else
          Option.bind (E8 N a0.keys) fun y21 =>
          k18 (!y21)
        else
         k18 true
       else
        some (false)) fun k6 =>
  if (a0.kind == 1) = true then
   k6 (a0.kind == 1)
  else
   if (a0.kind == 3) = true then
    k6 (a0.kind == 3)
   else
    k6 (a0.kind == 2)
def Hm (N : Nat) (a0 : ApiValue) : Option (Bool) :=
 Option.bind (Cn N N a0 0) fun y1 =>
 if (decide (y1 > 0)) = true then
  if (decide (y1 ≤ 20000)) = true then
   Option.bind (C9 N N a0) fun y3 =>
   some (y3)
  else
   some (false)
 else
  some (false)
def Ch (N : Nat) (rec_ref15_long : (ApiValue → Option (Bool))) (k7 : (Unit → Option (Bool))) : List ApiValue → Option (Bool)
  | [] =>
  k7 ()
  | xk10 :: xs =>
  Option.bind (rec_ref15_long xk10) fun y11 =>
  if y11 = true then
   some (true)
  else
   Ch N rec_ref15_long k7 xs 
def Cv (N : Nat) (k2 : (Int → Option (Bool))) : List (List UInt8) → Int → Option (Bool)
  | [], s3 =>
  k2 s3
  | xk5 :: xs, s3 =>
  Cv N k2 xs (wr .i64 (s3 + (xk5.length : Int)))
def Dh (N : Nat) : Nat → ApiValue → Option (Bool)
  | 0, _ => none
  | D + 1, a0 =>
  AR (fun j1 : Int =>
   if (decide (j1 > 1048576)) = true then
    some (true)
   else
    AR (fun j6 : Unit =>
     some (false)) fun k7 =>
    grd (Ac (a0.items.length)) (
     Ch N (Dh N D) k7 a0.items)) fun k2 =>
  grd (Ac (a0.keys.length)) (
   Cv N k2 a0.keys (a0.text.length : Int))
def Bq (N : Nat) (k4 : ((List Int) → Option ((List UInt8) × Int))) : List UInt8 → (List Int) → Option ((List UInt8) × Int)
  | [], s4 =>
  k4 s4
  | xk7 :: xs, s4 =>
  AR (fun j8 : (List Int) =>
   Bq N k4 xs j8) fun k9 =>
  AR (fun j12 : Bool =>
   if j12 = true then
    grd (Bn (s4.length + 2) 1) (
    k9 (s4 ++ [92, (AP xk7)]))
   else
    if ((AP xk7) == 8) = true then
     grd (Bn (s4.length + ([92, 98] : List UInt8).length) 1) (
     k9 (s4 ++ (List.map AP ([92, 98] : List UInt8))))
    else
     if ((AP xk7) == 12) = true then
      grd (Bn (s4.length + ([92, 102] : List UInt8).length) 1) (
      k9 (s4 ++ (List.map AP ([92, 102] : List UInt8))))
     else
      if ((AP xk7) == 10) = true then
       grd (Bn (s4.length + ([92, 110] : List UInt8).length) 1) (
       k9 (s4 ++ (List.map AP ([92, 110] : List UInt8))))
      else
       if ((AP xk7) == 13) = true then
        grd (Bn (s4.length + ([92, 114] : List UInt8).length) 1) (
        k9 (s4 ++ (List.map AP ([92, 114] : List UInt8))))
       else
        if ((AP xk7) == 9) = true then
         grd (Bn (s4.length + ([92, 116] : List UInt8).length) 1) (
         k9 (s4 ++ (List.map AP ([92, 116] : List UInt8))))
        else
         if (decide ((AP xk7) < 32)) = true then
          Option.bind (idx ([48, 49, 50, 51, 52, 53, 54, 55, 56, 57, 97, 98, 99, 100, 101, 102] : List UInt8) (wr .u8 ((AP xk7).tdiv 16))) fun x16 =>
          Option.bind (idx ([48, 49, 50, 51, 52, 53, 54, 55, 56, 57, 97, 98, 99, 100, 101, 102] : List UInt8) ((AP xk7).tmod 16)) fun x17 =>
          grd (Bn (s4.length + 6) 1) (
          k9 (s4 ++ [92, 117, 48, 48, (AP x16), (AP x17)]))
         else
          grd (Bn (s4.length + 1) 1) (
          k9 (s4 ++ [(AP xk7)]))) fun k13 =>
  if ((AP xk7) == 34) = true then
   k13 true
  else
   k13 ((AP xk7) == 92)
def FZ (N : Nat) (a0 : (List UInt8)) : Option ((List UInt8) × Int) :=
 if (decide ((a0.length : Int) > 1048576)) = true then
  some ([], 5)
 else
  Option.bind (Fa N a0) fun y1 =>
  if y1 = true then
   AR (fun j3 : (List Int) =>
    grd (Bn (j3.length + 1) 1) (
    some ((List.map EY (j3 ++ [34])), 0))) fun k4 =>
   grd (Ac (a0.length)) (
    Bq N k4 a0 [34])
  else
   some ([], 7)
def BK (N : Nat) (a0 : ApiValue) (rec_ref15_write : (ApiValue → Option ((List UInt8)))) (k4 : ((List Int) → Option ((List UInt8)))) : List ApiValue → Int → (List Int) → Option ((List UInt8))
  | [], s34, s5 =>
  k4 s5
  | xk7 :: xs, s34, s5 =>
  AR (fun j8 : (List Int) =>
   AR (fun j12 : (List Int) =>
    Option.bind (rec_ref15_write xk7) fun y19 =>
    grd (Bn (j12.length + y19.length) 1) (
    BK N a0 rec_ref15_write k4 xs (s34 + 1) (j12 ++ (List.map AP y19)))) fun k13 =>
   if (a0.kind == 7) = true then
    Option.bind (idx a0.keys s34) fun x16 =>
    Option.bind (FZ N x16) fun y17 =>
    grd (Bn (j8.length + y17.1.length) 1) (
    grd (Bn ((j8 ++ (List.map AP y17.1)).length + 1) 1) (
    k13 ((j8 ++ (List.map AP y17.1)) ++ [58])))
   else
    k13 j8) fun k9 =>
  if (decide (s34 > 0)) = true then
   grd (Bn (s5.length + 1) 1) (
   k9 (s5 ++ [44]))
  else
   k9 s5
def Cr (N : Nat) : Nat → ApiValue → Option ((List UInt8))
  | 0, _ => none
  | D + 1, a0 =>
  if (a0.kind == 1) = true then
   some (([110, 117, 108, 108] : List UInt8))
  else
   if (a0.kind == 2) = true then
    some (([102, 97, 108, 115, 101] : List UInt8))
   else
    if (a0.kind == 3) = true then
     some (([116, 114, 117, 101] : List UInt8))
    else
     if (a0.kind == 4) = true then
      some (a0.text)
     else
      if (a0.kind == 5) = true then
       Option.bind (FZ N a0.text) fun y1 =>
       some (y1.1)
      else
       AR (fun j3 : (List Int) =>
        if (a0.kind == 7) = true then
         grd (Ac (([123] : List UInt8).length + (List.map EY j3).length)) (
         grd (Ac ((([123] : List UInt8) ++ (List.map EY j3)).length + ([125] : List UInt8).length)) (
         some (((([123] : List UInt8) ++ (List.map EY j3)) ++ ([125] : List UInt8)))))
        else
         grd (Ac (([91] : List UInt8).length + (List.map EY j3).length)) (
         grd (Ac ((([91] : List UInt8) ++ (List.map EY j3)).length + ([93] : List UInt8).length)) (
         some (((([91] : List UInt8) ++ (List.map EY j3)) ++ ([93] : List UInt8)))))) fun k4 =>
       grd (Ac (a0.items.length)) (
        BK N a0 (Cr N D) k4 a0.items 0 [])
def CS (N : Nat) (a0 : ApiValue) (a1 : (List UInt8)) (k2 : (Unit → Option (ApiValue × Bool))) : List (List UInt8) → Int → Option (ApiValue × Bool)
  | [], s14 =>
  k2 ()
  | xk5 :: xs, s14 =>
  AR (fun j6 : Bool =>
   if j6 = true then
    Option.bind (idx a0.items s14) fun x10 =>
    some (x10, true)
   else
    CS N a0 a1 k2 xs (s14 + 1) ) fun k7 =>
  if (xk5 == a1) = true then
   k7 (decide (s14 < (a0.items.length : Int)))
  else
   k7 false
def Jc (N : Nat) (a0 : ApiValue) (a1 : (List UInt8)) : Option (ApiValue × Bool) :=
 if (a0.kind != 7) = true then
  some ((ApiValue.mk 0 [] [] []), false)
 else
  AR (fun j1 : Unit =>
   some ((ApiValue.mk 0 [] [] []), false)) fun k2 =>
  grd (Ac (a0.keys.length)) (
   CS N a0 a1 k2 a0.keys 0)
def Bf (N : Nat) (a0 : ApiValue) (rec_ref15_order : (ApiValue → Option (ApiValue))) (k13 : ((List (List UInt8)) × (List ApiValue) → Option (ApiValue))) : List (List UInt8) → (List (List UInt8)) → (List ApiValue) → Option (ApiValue)
  | [], bn2_keys, bn2_items =>
  k13 (bn2_keys, bn2_items)
  | xk18 :: xs, bn2_keys, bn2_items =>
  AR (fun j19 : (List ApiValue) =>
   Bf N a0 rec_ref15_order k13 xs (bn2_keys ++ [xk18]) j19) fun k20 =>
  Option.bind (Jc N a0 xk18) fun y23 =>
  grd (Bn (bn2_keys.length + 1) 16) (
  Option.bind (rec_ref15_order y23.1) fun y25 =>
  grd (Bn (bn2_items.length + 1) 72) (
  k20 (bn2_items ++ [y25])))
def Cb (N : Nat) (rec_ref15_order : (ApiValue → Option (ApiValue))) (k2 : ((List ApiValue) → Option (ApiValue))) : List ApiValue → (List ApiValue) → Option (ApiValue)
  | [], bn2_items =>
  k2 bn2_items
  | xk5 :: xs, bn2_items =>
  AR (fun j6 : (List ApiValue) =>
   Cb N rec_ref15_order k2 xs j6) fun k7 =>
  Option.bind (rec_ref15_order xk5) fun y10 =>
  grd (Bn (bn2_items.length + 1) 72) (
  k7 (bn2_items ++ [y10]))
def CJ (N : Nat) : Nat → ApiValue → Option (ApiValue)
  | 0, _ => none
  | D + 1, a0 =>
  if (a0.kind == 6) = true then
   AR (fun j1 : (List ApiValue) =>
    some ((ApiValue.mk a0.kind a0.text [] j1))) fun k2 =>
   grd (Ac (a0.items.length)) (
    Cb N (CJ N D) k2 a0.items [])
  else
   AR (fun j12 : (List (List UInt8)) × (List ApiValue) =>
    some ((ApiValue.mk a0.kind a0.text j12.1 j12.2))) fun k13 =>
   Option.bind (Cw N N a0.keys) fun y16 =>
   grd (Ac (y16.length)) (
    Bf N a0 (CJ N D) k13 y16 [] [])
def H6 (N : Nat) (a0 : ApiValue) : Option ((List UInt8) × Int) :=
 Option.bind (Hm N a0) fun y1 =>
 if y1 = true then
  Option.bind (Dh N N a0) fun y3 =>
  if y3 = true then
   some ([], 142)
  else
   Option.bind (CJ N N a0) fun y5 =>
   Option.bind (Cr N N y5) fun y7 =>
   if (decide ((y7.length : Int) > 1048576)) = true then
    some ([], 142)
   else
    some (y7, 0)
 else
  some ([], 8)
def Fh (N : Nat) (a0 : ApiValue) : Option ((List UInt8) × Int) :=
 Option.bind (H6 N a0) fun y1 =>
 some (y1.1, y1.2)
def Gi (N : Nat) (kf : List UInt8 → Option Bool) : List (List UInt8) → Int → List UInt8 → Option Bool
  | [], _, t => kf t
  | k :: ks, i, t =>
    Option.bind (Fh N (ApiValue.mk 5 k [] [])) fun q =>
    if decide (i > 0) = true then
      grd (Ac (t.length + ([44] : List UInt8).length)) (grd (Ac (q.1.length + ([58, 110, 117, 108, 108] : List UInt8).length)) (grd (Ac ((t ++ ([44] : List UInt8)).length + (q.1 ++ ([58, 110, 117, 108, 108] : List UInt8)).length))
        (Gi N kf ks (i + 1) ((t ++ ([44] : List UInt8)) ++ (q.1 ++ ([58, 110, 117, 108, 108] : List UInt8))))))
    else
      grd (Ac (q.1.length + ([58, 110, 117, 108, 108] : List UInt8).length)) (grd (Ac (t.length + (q.1 ++ ([58, 110, 117, 108, 108] : List UInt8)).length))
        (Gi N kf ks (i + 1) (t ++ (q.1 ++ ([58, 110, 117, 108, 108] : List UInt8)))))
def ND (N : Nat) (a0 : List (List UInt8)) (s : List UInt8) (t : List UInt8) : Option Bool :=
  Option.bind (Ca N s) fun a =>
  grd (Ac (([123] : List UInt8).length + t.length)) (grd (Ac ((([123] : List UInt8) ++ t).length + ([125] : List UInt8).length))
    (Option.bind (Ca N ((([123] : List UInt8) ++ t) ++ ([125] : List UInt8))) fun b =>
    if (a.2.2 == 0) = true then if ((a.1.keys.length : Int) == (a0.length : Int)) = true then if (b.2.2 == 143) = true then some (b.1.kind == 0) else some false else some false else some false))
def Sl (N : Nat) (a0 : List (List UInt8)) (x y : Int) (s : List UInt8) (ks : List (List UInt8)) : Option Bool :=
  Option.bind (idx ks x) fun k =>
  grd (0 ≤ y ∧ y < (ks.length : Int)) (grd (Ac ks.length) (Gi N (ND N a0 s) (ks.set y.toNat k) 0 []))
def PI (N : Nat) (a0 : List (List UInt8)) (x y : Int) (j9 : List (List UInt8) × List ApiValue) : Option Bool :=
  Option.bind (Fh N (ApiValue.mk 7 [] j9.1 j9.2)) fun y14 =>
  if (y14.2 != 0) = true then some true else
  if (x == y) = true then some true else Sl N a0 x y y14.1 j9.1
def Lb (N : Nat) (kf : List (List UInt8) × List ApiValue → Option Bool) : List (List UInt8) → List (List UInt8) → List ApiValue → Option Bool
  | [], ks, vs => grd (ks ≠ []) (kf (ks, vs))
  | k :: xs, ks, vs => grd (Bn (ks.length + 1) 16) (grd (Bn (vs.length + 1) 72) (Lb N kf xs (ks ++ [k]) (vs ++ [ApiValue.mk 1 [] [] []])))
def Ew (N : Nat) (a0 : List (List UInt8)) (a1 a2 : Int) : Option Bool :=
  Option.bind (Jl N) fun y1 =>
  if y1 = true then
    if ((a0.length : Int) == 0) = true then some true else
    Option.bind (Gb N a0 12 40) fun y7 =>
    if y7 = true then
      grd ((a0.length : Int) ≠ 0) (grd (Ac a0.length) (Lb N (PI N a0 ((wr .i64 a1).tmod (a0.length : Int)) ((wr .i64 a2).tmod (a0.length : Int))) a0 [] []))
    else some true
  else some false
end Go.VM
