/- The functions of the program, as plain functions; written by decomp.py. -/
import Derived.Test.YtbmilkoebhmnnaaGreatDoorTy
set_option linter.unusedVariables false
namespace Go.VM
def token_space (N : Nat) (a0 : Int) : Option (Bool) :=
 if (a0 == 32) = true then
  some (true)
 else
  if (a0 == 9) = true then
   some (true)
  else
   if (a0 == 10) = true then
    some (true)
   else
    some ((a0 == 13))
def internal_stringslite_IndexByte (N : Nat) (a0 : (List UInt8)) (a1 : Int) : Option (Int) :=
 some ((Go.Lib.indexByte a0 (bchr a1)))
def strings_IndexByte (N : Nat) (a0 : (List UInt8)) (a1 : Int) : Option (Int) :=
 Option.bind (internal_stringslite_IndexByte N a0 a1) fun y1 =>
 some (y1)
def utf8text_point (N : Nat) (a0 : Int) : Option (Bool) :=
 if (decide (a0 ≥ 0)) = true then
  if (decide (a0 ≤ 1114111)) = true then
   if (decide (a0 < 55296)) = true then
    some (true)
   else
    some ((decide (a0 > 57343)))
  else
   some (false)
 else
  some (false)
def utf8text_Decode_L2 (N : Nat) (a0 : (List UInt8)) (a1 : Int) (s20 : Int) (k13 : (Int → Option (Int × Int × Int))) : Nat → Int → Int → Option (Int × Int × Int)
  | 0, _, _ => none
  | k + 1, s9, s10 =>
  if (decide (s10 ≤ s20)) = true then
   Option.bind (idx a0 (wr .i64 (a1 + s10))) fun x17 =>
   if ((bandI .u8 (bord x17) 192) != 128) = true then
    some (0, 0, 7)
   else
    utf8text_Decode_L2 N a0 a1 s20 k13 k (borI .i64 (shlI .i64 s9 6) (wr .i64 (bandI .u8 (bord x17) 63))) (wr .i64 (s10 + 1))
  else
   k13 s9
def utf8text_Decode_L1 (N : Nat) (a0 : (List UInt8)) (a1 : Int) (k6 : (Unit → Option (Int × Int × Int))) : Nat → Int → Option (Int × Int × Int)
  | 0, s20 =>
  k6 ()
  | k + 1, s20 =>
  Option.bind (idx tab_utf8text_forms s20) fun x10 =>
  Option.bind (idx a0 a1) fun x11 =>
  if ((bandNotI .u8 (bord x11) x10.mask) != x10.mark) = true then
   utf8text_Decode_L1 N a0 a1 k6 k (s20 + 1) 
  else
   if (decide ((wr .i64 ((wr .i64 ((a0.length : Int) - a1)) - 1)) < s20)) = true then
    k6 ()
   else
    joinK (fun j12 : Int =>
     joinK (fun j18 : Bool =>
      if j18 = true then
       k6 ()
      else
       some (j12, (wr .i64 ((wr .i64 (a1 + s20)) + 1)), 0)) fun k19 =>
     if (decide (j12 < x10.least)) = true then
      k19 true
     else
      Option.bind (utf8text_point N j12) fun y22 =>
      k19 (!y22)) fun k13 =>
    utf8text_Decode_L2 N a0 a1 s20 k13 N (wr .i64 (bandI .u8 (bord x11) x10.mask)) 1
def utf8text_Decode (N : Nat) (a0 : (List UInt8)) (a1 : Int) : Option (Int × Int × Int) :=
 joinK (fun j1 : Bool =>
  if j1 = true then
   some (0, 0, 4)
  else
   joinK (fun j5 : Unit =>
    some (0, 0, 7)) fun k6 =>
   grd ((-4611686018427387904 : Int) ≤ 0 ∧ (4 : Int) ≤ 4611686018427387904) (
    utf8text_Decode_L1 N a0 a1 k6 ((4 : Int) - 0).toNat 0)) fun k2 =>
 if (decide (a1 < 0)) = true then
  k2 true
 else
  k2 (decide (a1 ≥ (a0.length : Int)))
def token_reader_char (N : Nat) (a0 : TokenReader) : Option ((List UInt8) × Int × TokenReader) :=
 joinK (fun j1 : Int × Int =>
  if (j1.2 != 0) = true then
   some ([], 7, a0)
  else
   Option.bind (sub a0.s a0.at_ j1.1) fun x7 =>
   some (x7, 0, (TokenReader.mk a0.s j1.1))) fun k2 =>
 Option.bind (utf8text_Decode N a0.s a0.at_) fun y5 =>
 k2 (y5.2.1, y5.2.2)
def strings_Builder_String (N : Nat) (a0 : StringsBuilder) : Option ((List UInt8) × StringsBuilder) :=
 some (a0.buf, a0)
def ascii_IsDigit (N : Nat) (a0 : Int) : Option (Bool) :=
 if (decide (48 ≤ a0)) = true then
  some ((decide (a0 ≤ 57)))
 else
  some (false)
def number_value (N : Nat) (a0 : Int) : Option (Int) :=
 Option.bind (ascii_IsDigit N a0) fun y1 =>
 if y1 = true then
  some ((wr .u64 (wr .u8 (a0 - 48))))
 else
  some ((wr .u64 ((wr .u64 (wr .u8 ((borI .u8 a0 32) - 97))) + 10)))
def ascii_IsHex (N : Nat) (a0 : Int) : Option (Bool) :=
 Option.bind (ascii_IsDigit N a0) fun y1 =>
 if y1 = true then
  some (true)
 else
  if (decide (97 ≤ (borI .u8 a0 32))) = true then
   some ((decide ((borI .u8 a0 32) ≤ 102)))
  else
   some (false)
def number_parse__ascii_IsHex_L2 (N : Nat) (a1 : Int) (a2 : Int) (k9 : (Int → Option (Int × Int))) : List UInt8 → Int → Option (Int × Int)
  | [], s11 =>
  k9 s11
  | xk12 :: xs, s11 =>
  Option.bind (number_value N (bord xk12)) fun y13 =>
  joinK (fun j15 : Bool =>
   if j15 = true then
    some (0, 4)
   else
    number_parse__ascii_IsHex_L2 N a1 a2 k9 xs (wr .u64 ((wr .u64 (s11 * a1)) + y13))) fun k16 =>
  grd (a1 ≠ 0) (
  if (decide (s11 > (wr .u64 ((wr .u64 (18446744073709551615 - y13)).tdiv a1)))) = true then
   k16 true
  else
   k16 (decide ((wr .u64 ((wr .u64 (s11 * a1)) + y13)) > a2)))
def number_parse__ascii_IsHex_L1 (N : Nat) (k2 : (Unit → Option (Int × Int))) : List UInt8 → Option (Int × Int)
  | [] =>
  k2 ()
  | xk5 :: xs =>
  Option.bind (ascii_IsHex N (bord xk5)) fun y6 =>
  if y6 = true then
   number_parse__ascii_IsHex_L1 N k2 xs 
  else
   some (0, 1)
def number_parse__ascii_IsHex (N : Nat) (a0 : (List UInt8)) (a1 : Int) (a2 : Int) : Option (Int × Int) :=
 if (a0 == []) = true then
  some (0, 3)
 else
  joinK (fun j1 : Unit =>
   joinK (fun j8 : Int =>
    some (j8, 0)) fun k9 =>
   grd (fitsS (a0.length)) (
    number_parse__ascii_IsHex_L2 N a1 a2 k9 a0 0)) fun k2 =>
  grd (fitsS (a0.length)) (
   number_parse__ascii_IsHex_L1 N k2 a0)
def number_Hex (N : Nat) (a0 : (List UInt8)) (a1 : Int) : Option (Int × Int) :=
 Option.bind (number_parse__ascii_IsHex N a0 16 a1) fun y1 =>
 some (y1.1, y1.2)
def token_reader_unit (N : Nat) (a0 : TokenReader) : Option (Int × Bool × TokenReader) :=
 joinK (fun j1 : Bool =>
  if j1 = true then
   some (0, false, a0)
  else
   joinK (fun j6 : Int × Int =>
    if (j6.2 != 0) = true then
     some (0, false, a0)
    else
     some ((wr .i64 j6.1), true, (TokenReader.mk a0.s (wr .i64 (a0.at_ + 6))))) fun k7 =>
   Option.bind (sub a0.s (wr .i64 (a0.at_ + 2)) (wr .i64 (a0.at_ + 6))) fun x10 =>
   Option.bind (number_Hex N x10 65535) fun y11 =>
   k7 (y11.1, y11.2)) fun k2 =>
 if (decide ((wr .i64 ((a0.s.length : Int) - a0.at_)) < 6)) = true then
  k2 true
 else
  Option.bind (sub a0.s a0.at_ (wr .i64 (a0.at_ + 2))) fun x5 =>
  k2 (!(x5 == ([92, 117] : List UInt8)))
def utf8text_Encode_L2 (N : Nat) (j3 : Int) (k14 : (Int × (List Int) → Option ((List UInt8) × Int))) : Nat → Int → Int → (List Int) → Option ((List UInt8) × Int)
  | 0, _, _, _ => none
  | k + 1, s0, s6, bn6 =>
  if (decide (s6 > 0)) = true then
   grd (0 ≤ s6 ∧ s6 < ((wr .i64 (j3 + 1)).toNat : Int)) (
   grd (s6.toNat + 1 ≤ bn6.length) (
   utf8text_Encode_L2 N j3 k14 k (shrI .i64 s0 6) (wr .i64 (s6 - 1)) (bn6.set s6.toNat (borI .u8 128 (wr .u8 (bandI .i64 s0 63))))))
  else
   k14 (s0, bn6)
def utf8text_Encode_L1 (N : Nat) (a0 : Int) (k4 : (Int → Option ((List UInt8) × Int))) : Nat → Int → Option ((List UInt8) × Int)
  | 0, _ => none
  | k + 1, s4 =>
  joinK (fun j8 : Bool =>
   if j8 = true then
    utf8text_Encode_L1 N a0 k4 k (wr .i64 (s4 + 1))
   else
    k4 s4) fun k9 =>
  if (decide (s4 < 3)) = true then
   Option.bind (idx tab_utf8text_forms (wr .i64 (s4 + 1))) fun x12 =>
   k9 (decide (a0 ≥ x12.least))
  else
   k9 false
def utf8text_Encode (N : Nat) (a0 : Int) : Option ((List UInt8) × Int) :=
 Option.bind (utf8text_point N a0) fun y1 =>
 if y1 = true then
  joinK (fun j3 : Int =>
   grd (fitsM (wr .i64 (j3 + 1)) 1) (
   joinK (fun j13 : Int × (List Int) =>
    Option.bind (idx tab_utf8text_forms j3) fun x18 =>
    grd (0 ≤ 0 ∧ 0 < ((wr .i64 (j3 + 1)).toNat : Int)) (
    grd (0 + 1 ≤ j13.2.length) (
    grd ((wr .i64 (j3 + 1)).toNat ≤ j13.2.length ∧ fitsS ((wr .i64 (j3 + 1)).toNat)) (
    some ((List.map bchr (List.take ((wr .i64 (j3 + 1)).toNat) (j13.2.set 0 (borI .u8 x18.mark (wr .u8 j13.1))))), 0))))) fun k14 =>
   utf8text_Encode_L2 N j3 k14 N a0 j3 (List.replicate (wr .i64 (j3 + 1)).toNat 0))) fun k4 =>
  utf8text_Encode_L1 N a0 k4 N 0
 else
  some ([], 4)
def token_reader_peek (N : Nat) (a0 : TokenReader) : Option (Int × TokenReader) :=
 if (decide (a0.at_ < (a0.s.length : Int))) = true then
  Option.bind (idx a0.s a0.at_) fun x1 =>
  some ((bord x1), a0)
 else
  some (0, a0)
def token_reader_escape (N : Nat) (a0 : TokenReader) : Option ((List UInt8) × Int × TokenReader) :=
 Option.bind (token_reader_unit N a0) fun y1 =>
 if y1.2.1 = true then
  joinK (fun j3 : Int × TokenReader =>
   Option.bind (utf8text_Encode N j3.1) fun y17 =>
   if (y17.2 != 0) = true then
    some ([], 7, j3.2)
   else
    some (y17.1, 0, j3.2)) fun k4 =>
  joinK (fun j7 : Bool =>
   if j7 = true then
    Option.bind (token_reader_unit N y1.2.2) fun y11 =>
    joinK (fun j13 : Bool =>
     if j13 = true then
      k4 ((wr .i64 ((wr .i64 ((wr .i64 (65536 + (wr .i64 ((wr .i64 (y1.1 - 55296)) * 1024)))) + y11.1)) - 56320)), y11.2.2)
     else
      k4 (y1.1, y11.2.2)) fun k14 =>
    if y11.2.1 = true then
     if (decide (y11.1 ≥ 56320)) = true then
      k14 (decide (y11.1 ≤ 57343))
     else
      k14 false
    else
     k14 false
   else
    k4 (y1.1, y1.2.2)) fun k8 =>
  if (decide (y1.1 ≥ 55296)) = true then
   k8 (decide (y1.1 ≤ 56319))
  else
   k8 false
 else
  Option.bind (token_reader_peek N (TokenReader.mk y1.2.2.s (wr .i64 (y1.2.2.at_ + 1)))) fun y19 =>
  Option.bind (strings_IndexByte N ([34, 92, 47, 98, 102, 110, 114, 116] : List UInt8) y19.1) fun y21 =>
  joinK (fun j23 : Bool =>
   if j23 = true then
    some ([], 130, y19.2)
   else
    Option.bind (sub ([34, 92, 47, 8, 12, 10, 13, 9] : List UInt8) y21 (wr .i64 (y21 + 1))) fun x27 =>
    some (x27, 0, (TokenReader.mk y19.2.s (wr .i64 (y19.2.at_ + 1))))) fun k24 =>
  if (decide (y19.2.at_ ≥ (y19.2.s.length : Int))) = true then
   k24 true
  else
   k24 (decide (y21 < 0))
def strings_Builder_copyCheck (N : Nat) (a0 : StringsBuilder) : Option (StringsBuilder) :=
 if a0.addr = true then
  some (a0)
 else
  some ((StringsBuilder.mk true a0.buf))
def strings_Builder_WriteString (N : Nat) (a0 : StringsBuilder) (a1 : (List UInt8)) : Option (Int × Unit × StringsBuilder) :=
 Option.bind (strings_Builder_copyCheck N a0) fun y1 =>
 grd (fitsA (y1.buf.length + a1.length) 1) (
 some ((a1.length : Int), (), (StringsBuilder.mk y1.addr (y1.buf ++ a1))))
def token_reader_text_L1 (N : Nat) (k2 : (Bool × (List UInt8) × (List UInt8) × Int → Option ((List UInt8) × Int × TokenReader))) : Nat → Bool → (List UInt8) → (List UInt8) → Int → Option ((List UInt8) × Int × TokenReader)
  | 0, _, _, _, _ => none
  | k + 1, bn_addr, bn_buf, bi0_s, bi0_at_ =>
  if (decide (bi0_at_ < (bi0_s.length : Int))) = true then
   Option.bind (idx bi0_s bi0_at_) fun x6 =>
   if ((bord x6) == 34) = true then
    Option.bind (strings_Builder_String N (StringsBuilder.mk bn_addr bn_buf)) fun y7 =>
    some (y7.1, 0, (TokenReader.mk bi0_s (wr .i64 (bi0_at_ + 1))))
   else
    if ((bord x6) == 92) = true then
     Option.bind (token_reader_escape N (TokenReader.mk bi0_s bi0_at_)) fun y9 =>
     if (y9.2.1 != 0) = true then
      some ([], y9.2.1, y9.2.2)
     else
      Option.bind (strings_Builder_WriteString N (StringsBuilder.mk bn_addr bn_buf) y9.1) fun y11 =>
      token_reader_text_L1 N k2 k y11.2.2.addr y11.2.2.buf y9.2.2.s y9.2.2.at_
    else
     if (decide ((bord x6) < 32)) = true then
      some ([], 130, (TokenReader.mk bi0_s bi0_at_))
     else
      Option.bind (token_reader_char N (TokenReader.mk bi0_s bi0_at_)) fun y13 =>
      if (y13.2.1 != 0) = true then
       some ([], y13.2.1, y13.2.2)
      else
       Option.bind (strings_Builder_WriteString N (StringsBuilder.mk bn_addr bn_buf) y13.1) fun y15 =>
       token_reader_text_L1 N k2 k y15.2.2.addr y15.2.2.buf y13.2.2.s y13.2.2.at_
  else
   k2 (bn_addr, bn_buf, bi0_s, bi0_at_)
def token_reader_text (N : Nat) (a0 : TokenReader) : Option ((List UInt8) × Int × TokenReader) :=
 joinK (fun j1 : Bool × (List UInt8) × (List UInt8) × Int =>
  some ([], 130, (TokenReader.mk j1.2.2.1 j1.2.2.2))) fun k2 =>
 token_reader_text_L1 N k2 N false [] a0.s (wr .i64 (a0.at_ + 1))
def token_reader_take (N : Nat) (a0 : TokenReader) (a1 : (List UInt8)) : Option (Bool × TokenReader) :=
 joinK (fun j1 : Bool =>
  if j1 = true then
   some (true, (TokenReader.mk a0.s (wr .i64 (a0.at_ + 1))))
  else
   some (false, a0)) fun k2 =>
 if (decide (a0.at_ < (a0.s.length : Int))) = true then
  Option.bind (idx a0.s a0.at_) fun x5 =>
  Option.bind (strings_IndexByte N a1 (bord x5)) fun y6 =>
  k2 (decide (y6 ≥ 0))
 else
  k2 false
def token_reader_while__ascii_IsDigit_L1 (N : Nat) (a0 : TokenReader) (k2 : (Int → Option ((List UInt8) × TokenReader))) : Nat → Int → Option ((List UInt8) × TokenReader)
  | 0, bi0_at_ =>
  k2 bi0_at_
  | k + 1, bi0_at_ =>
  Option.bind (idx a0.s bi0_at_) fun x6 =>
  Option.bind (ascii_IsDigit N (bord x6)) fun y7 =>
  if y7 = true then
   token_reader_while__ascii_IsDigit_L1 N a0 k2 k (bi0_at_ + 1) 
  else
   k2 bi0_at_
def token_reader_while__ascii_IsDigit (N : Nat) (a0 : TokenReader) : Option ((List UInt8) × TokenReader) :=
 joinK (fun j1 : Int =>
  Option.bind (sub a0.s a0.at_ j1) fun x9 =>
  some (x9, (TokenReader.mk a0.s j1))) fun k2 =>
 grd ((-4611686018427387904 : Int) ≤ a0.at_ ∧ ((a0.s.length : Int) : Int) ≤ 4611686018427387904) (
  token_reader_while__ascii_IsDigit_L1 N a0 k2 (((a0.s.length : Int) : Int) - a0.at_).toNat a0.at_)
def token_reader_digits (N : Nat) (a0 : TokenReader) (a1 : Int) : Option (TokenReader) :=
 Option.bind (token_reader_while__ascii_IsDigit N a0) fun y1 =>
 if (y1.1 == []) = true then
  some ((TokenReader.mk y1.2.s a1))
 else
  some (y1.2)
def token_reader_number (N : Nat) (a0 : TokenReader) : Option ((List UInt8) × Bool × TokenReader) :=
 Option.bind (token_reader_take N a0 ([45] : List UInt8)) fun y1 =>
 joinK (fun j3 : Bool × TokenReader =>
  if j3.1 = true then
   some ([], false, j3.2)
  else
   joinK (fun j11 : TokenReader =>
    joinK (fun j19 : TokenReader =>
     Option.bind (sub j19.s a0.at_ j19.at_) fun x29 =>
     some (x29, true, j19)) fun k20 =>
    Option.bind (token_reader_take N j11 ([101, 69] : List UInt8)) fun y23 =>
    if y23.1 = true then
     Option.bind (token_reader_take N y23.2 ([43, 45] : List UInt8)) fun y25 =>
     Option.bind (token_reader_digits N y25.2 j11.at_) fun y27 =>
     k20 y27
    else
     k20 y23.2) fun k12 =>
   Option.bind (token_reader_take N j3.2 ([46] : List UInt8)) fun y15 =>
   if y15.1 = true then
    Option.bind (token_reader_digits N y15.2 j3.2.at_) fun y17 =>
    k12 y17
   else
    k12 y15.2) fun k4 =>
 Option.bind (token_reader_take N y1.2 ([48] : List UInt8)) fun y7 =>
 if y7.1 = true then
  k4 (false, y7.2)
 else
  Option.bind (token_reader_while__ascii_IsDigit N y7.2) fun y9 =>
  k4 ((y9.1 == []), y9.2)
def ascii_IsAlpha (N : Nat) (a0 : Int) : Option (Bool) :=
 if (decide (97 ≤ (borI .u8 a0 32))) = true then
  some ((decide ((borI .u8 a0 32) ≤ 122)))
 else
  some (false)
def token_reader_while__ascii_IsAlpha_L1 (N : Nat) (a0 : TokenReader) (k2 : (Int → Option ((List UInt8) × TokenReader))) : Nat → Int → Option ((List UInt8) × TokenReader)
  | 0, bi0_at_ =>
  k2 bi0_at_
  | k + 1, bi0_at_ =>
  Option.bind (idx a0.s bi0_at_) fun x6 =>
  Option.bind (ascii_IsAlpha N (bord x6)) fun y7 =>
  if y7 = true then
   token_reader_while__ascii_IsAlpha_L1 N a0 k2 k (bi0_at_ + 1) 
  else
   k2 bi0_at_
def token_reader_while__ascii_IsAlpha (N : Nat) (a0 : TokenReader) : Option ((List UInt8) × TokenReader) :=
 joinK (fun j1 : Int =>
  Option.bind (sub a0.s a0.at_ j1) fun x9 =>
  some (x9, (TokenReader.mk a0.s j1))) fun k2 =>
 grd ((-4611686018427387904 : Int) ≤ a0.at_ ∧ ((a0.s.length : Int) : Int) ≤ 4611686018427387904) (
  token_reader_while__ascii_IsAlpha_L1 N a0 k2 (((a0.s.length : Int) : Int) - a0.at_).toNat a0.at_)
def token_reader_token (N : Nat) (a0 : TokenReader) : Option (Int × (List UInt8) × Int × TokenReader) :=
 if (a0.at_ == (a0.s.length : Int)) = true then
  some (1, [], 0, a0)
 else
  joinK (fun j1 : TokenReader =>
   some (0, [], 130, j1)) fun k2 =>
  Option.bind (idx a0.s a0.at_) fun x5 =>
  Option.bind (strings_IndexByte N ([123, 125, 91, 93, 58, 44] : List UInt8) (bord x5)) fun y6 =>
  if (decide (y6 ≥ 0)) = true then
   some (2, (utf8Of (bord x5)), 0, (TokenReader.mk a0.s (wr .i64 (a0.at_ + 1))))
  else
   if ((bord x5) == 34) = true then
    Option.bind (token_reader_text N a0) fun y8 =>
    some (3, y8.1, y8.2.1, y8.2.2)
   else
    joinK (fun j10 : Bool =>
     if j10 = true then
      Option.bind (token_reader_number N a0) fun y16 =>
      if y16.2.1 = true then
       some (4, y16.1, 0, y16.2.2)
      else
       k2 y16.2.2
     else
      Option.bind (ascii_IsAlpha N (bord x5)) fun y18 =>
      if y18 = true then
       Option.bind (token_reader_while__ascii_IsAlpha N a0) fun y20 =>
       joinK (fun j22 : Bool =>
        if j22 = true then
         some (5, y20.1, 0, y20.2)
        else
         k2 y20.2) fun k23 =>
       if (y20.1 == ([116, 114, 117, 101] : List UInt8)) = true then
        k23 true
       else
        if (y20.1 == ([102, 97, 108, 115, 101] : List UInt8)) = true then
         k23 true
        else
         k23 (y20.1 == ([110, 117, 108, 108] : List UInt8))
      else
       k2 a0) fun k11 =>
    if ((bord x5) == 45) = true then
     k11 true
    else
     Option.bind (ascii_IsDigit N (bord x5)) fun y14 =>
     k11 y14
def token_reader_while__token_space_L1 (N : Nat) (a0 : TokenReader) (k2 : (Int → Option ((List UInt8) × TokenReader))) : Nat → Int → Option ((List UInt8) × TokenReader)
  | 0, bi0_at_ =>
  k2 bi0_at_
  | k + 1, bi0_at_ =>
  Option.bind (idx a0.s bi0_at_) fun x6 =>
  Option.bind (token_space N (bord x6)) fun y7 =>
  if y7 = true then
   token_reader_while__token_space_L1 N a0 k2 k (bi0_at_ + 1) 
  else
   k2 bi0_at_
def token_reader_while__token_space (N : Nat) (a0 : TokenReader) : Option ((List UInt8) × TokenReader) :=
 joinK (fun j1 : Int =>
  Option.bind (sub a0.s a0.at_ j1) fun x9 =>
  some (x9, (TokenReader.mk a0.s j1))) fun k2 =>
 grd ((-4611686018427387904 : Int) ≤ a0.at_ ∧ ((a0.s.length : Int) : Int) ≤ 4611686018427387904) (
  token_reader_while__token_space_L1 N a0 k2 (((a0.s.length : Int) : Int) - a0.at_).toNat a0.at_)
def token_Next (N : Nat) (a0 : (List UInt8)) (a1 : Int) : Option (ApiToken × Int × Int) :=
 joinK (fun j1 : Bool =>
  if j1 = true then
   some ((ApiToken.mk 0 [] 0), 0, 4)
  else
   Option.bind (token_reader_while__token_space N (TokenReader.mk a0 a1)) fun y5 =>
   Option.bind (token_reader_token N y5.2) fun y7 =>
   if (y7.2.2.1 != 0) = true then
    some ((ApiToken.mk 0 [] 0), 0, y7.2.2.1)
   else
    some ((ApiToken.mk y7.1 y7.2.1 y5.2.at_), y7.2.2.2.at_, 0)) fun k2 =>
 if (decide (a1 < 0)) = true then
  k2 true
 else
  k2 (decide (a1 > (a0.length : Int)))
def jsondoc_opens (N : Nat) (a0 : ApiToken) : Option (Bool) :=
 joinK (fun j1 : Bool =>
  if j1 = true then
   some (true)
  else
   if (a0.kind == 2) = true then
    if (a0.text == ([91] : List UInt8)) = true then
     some (true)
    else
     some ((a0.text == ([123] : List UInt8)))
   else
    some (false)) fun k2 =>
 if (a0.kind == 3) = true then
  k2 (a0.kind == 3)
 else
  if (a0.kind == 4) = true then
   k2 (a0.kind == 4)
  else
   k2 (a0.kind == 5)
def internal_stringslite_Index (N : Nat) (a0 : (List UInt8)) (a1 : (List UInt8)) : Option (Int) :=
 joinK (fun j1 : Bool =>
  if j1 = true then
   some (0)
  else
   if ((a1.length : Int) == 1) = true then
    Option.bind (idx a1 0) fun x5 =>
    Option.bind (internal_stringslite_IndexByte N a0 (bord x5)) fun y6 =>
    some (y6)
   else
    if (decide ((a1.length : Int) ≥ (a0.length : Int))) = true then
     some ((-1))
    else
     (none : Option (Int))) fun k2 =>
 if ((a1.length : Int) == 0) = true then
  k2 true
 else
  k2 (a1 == a0)
def internal_stringslite_Cut (N : Nat) (a0 : (List UInt8)) (a1 : (List UInt8)) : Option ((List UInt8) × (List UInt8) × Bool) :=
 Option.bind (internal_stringslite_Index N a0 a1) fun y1 =>
 if (decide (y1 ≥ 0)) = true then
  Option.bind (sub a0 0 y1) fun x3 =>
  Option.bind (sub a0 (wr .i64 (y1 + (a1.length : Int))) (a0.length : Int)) fun x4 =>
  some (x3, x4, true)
 else
  some (a0, [], false)
def strings_Cut (N : Nat) (a0 : (List UInt8)) (a1 : (List UInt8)) : Option ((List UInt8) × (List UInt8) × Bool) :=
 Option.bind (internal_stringslite_Cut N a0 a1) fun y1 =>
 some (y1.1, y1.2.1, y1.2.2)
def ascii_Lower_L1 (N : Nat) (a0 : (List UInt8)) (k2 : ((List Int) → Option ((List UInt8)))) : List UInt8 → Int → (List Int) → Option ((List UInt8))
  | [], s10, bn =>
  k2 bn
  | xk5 :: xs, s10, bn =>
  joinK (fun j6 : (List Int) =>
   ascii_Lower_L1 N a0 k2 xs (s10 + 1) j6) fun k7 =>
  grd (0 ≤ s10 ∧ s10 < (a0.length : Int)) (
  Option.bind (idx bn s10) fun x10 =>
  joinK (fun j11 : Bool =>
   if j11 = true then
    grd (s10.toNat + 1 ≤ bn.length) (
    k7 (bn.set s10.toNat (wr .u8 (x10 + 32))))
   else
    k7 bn) fun k12 =>
  if (decide (65 ≤ x10)) = true then
   k12 (decide (x10 ≤ 90))
  else
   k12 false)
def ascii_Lower (N : Nat) (a0 : (List UInt8)) : Option ((List UInt8)) :=
 joinK (fun j1 : (List Int) =>
  grd (a0.length ≤ j1.length ∧ fitsS a0.length) (
  some ((List.map bchr (List.take a0.length j1))))) fun k2 =>
 grd (fitsS (a0.length)) (
  ascii_Lower_L1 N a0 k2 a0 0 (List.map bord a0))
def strings_trimLeftByte_L1 (N : Nat) (a1 : Int) (k2 : ((List UInt8) → Option ((List UInt8)))) : Nat → (List UInt8) → Option ((List UInt8))
  | 0, _ => none
  | k + 1, s0 =>
  joinK (fun j6 : Bool =>
   if j6 = true then
    Option.bind (sub s0 1 (s0.length : Int)) fun x11 =>
    strings_trimLeftByte_L1 N a1 k2 k x11
   else
    k2 s0) fun k7 =>
  if (decide ((s0.length : Int) > 0)) = true then
   Option.bind (idx s0 0) fun x10 =>
   k7 ((bord x10) == a1)
  else
   k7 false
def strings_trimLeftByte (N : Nat) (a0 : (List UInt8)) (a1 : Int) : Option ((List UInt8)) :=
 joinK (fun j1 : (List UInt8) =>
  some (j1)) fun k2 =>
 strings_trimLeftByte_L1 N a1 k2 N a0
def strings_makeASCIISet_L1 (N : Nat) (k2 : ((List Bool) → Option ((List Bool) × Bool))) : List UInt8 → (List Bool) → Option ((List Bool) × Bool)
  | [], bn =>
  k2 bn
  | xk5 :: xs, bn =>
  if (decide ((bord xk5) ≥ 128)) = true then
   grd (bn.length = 256) (
   some (bn, false))
  else
   grd (0 ≤ (bord xk5) ∧ (bord xk5) < 256) (
   grd ((bord xk5).toNat + 1 ≤ bn.length) (
   strings_makeASCIISet_L1 N k2 xs (bn.set ((bord xk5).toNat) true)))
def strings_makeASCIISet (N : Nat) (a0 : (List UInt8)) : Option ((List Bool) × Bool) :=
 joinK (fun j1 : (List Bool) =>
  grd (j1.length = 256) (
  some (j1, true))) fun k2 =>
 grd (fitsS (a0.length)) (
  strings_makeASCIISet_L1 N k2 a0 (repB 256))
def strings_asciiSet_contains (N : Nat) (a0 : (List Bool)) (a1 : Int) : Option (Bool × (List Bool)) :=
 grd (0 ≤ a1 ∧ a1 < 256) (
 Option.bind (idx a0 a1) fun x1 =>
 some (x1, a0))
def strings_trimLeftASCII_L1 (N : Nat) (k2 : ((List UInt8) × (List Bool) → Option ((List UInt8) × (List Bool)))) : Nat → (List UInt8) → (List Bool) → Option ((List UInt8) × (List Bool))
  | 0, _, _ => none
  | k + 1, s0, bi1 =>
  if (decide ((s0.length : Int) > 0)) = true then
   Option.bind (idx s0 0) fun x6 =>
   Option.bind (strings_asciiSet_contains N bi1 (bord x6)) fun y7 =>
   if y7.1 = true then
    Option.bind (sub s0 1 (s0.length : Int)) fun x9 =>
    strings_trimLeftASCII_L1 N k2 k x9 y7.2
   else
    k2 (s0, y7.2)
  else
   k2 (s0, bi1)
def strings_trimLeftASCII (N : Nat) (a0 : (List UInt8)) (a1 : (List Bool)) : Option ((List UInt8) × (List Bool)) :=
 joinK (fun j1 : (List UInt8) × (List Bool) =>
  some (j1.1, j1.2)) fun k2 =>
 strings_trimLeftASCII_L1 N k2 N a0 a1
def unicode_utf8_decodeRuneInStringSlow (N : Nat) (a0 : (List UInt8)) : Option (Int × Int) :=
 if (decide ((a0.length : Int) < 1)) = true then
  some (65533, 0)
 else
  Option.bind (idx a0 0) fun x1 =>
  (none : Option (Int × Int))
def unicode_utf8_DecodeRuneInString (N : Nat) (a0 : (List UInt8)) : Option (Int × Int) :=
 joinK (fun j1 : Bool =>
  if j1 = true then
   Option.bind (idx a0 0) fun x6 =>
   some ((wr .i32 (bord x6)), 1)
  else
   Option.bind (unicode_utf8_decodeRuneInStringSlow N a0) fun y7 =>
   some (y7.1, y7.2)) fun k2 =>
 if (a0 == []) = true then
  k2 false
 else
  Option.bind (idx a0 0) fun x5 =>
  k2 (decide ((bord x5) < 128))
def unicode_utf8_ValidRune (N : Nat) (a0 : Int) : Option (Bool) :=
 joinK (fun j1 : Bool =>
  if j1 = true then
   some (true)
  else
   joinK (fun j5 : Bool =>
    if j5 = true then
     some (true)
    else
     some (false)) fun k6 =>
   if (decide (57343 < a0)) = true then
    k6 (decide (a0 ≤ 1114111))
   else
    k6 false) fun k2 =>
 if (decide (0 ≤ a0)) = true then
  k2 (decide (a0 < 55296))
 else
  k2 false
def strings_IndexRune_L1 (N : Nat) (a0 : (List UInt8)) (k8 : (Unit → Option (Int))) : Nat → Nat → Option (Int)
  | 0, _ => none
  | k + 1, s175 =>
  if (decide (s175 < a0.length)) = true then
   if (((decodeAt a0 s175).1 : Int) == 65533) = true then
    some (((s175 : Nat) : Int))
   else
    strings_IndexRune_L1 N a0 k8 k (s175 + (decodeAt a0 s175).2)
  else
   k8 ()
def strings_IndexRune (N : Nat) (a0 : (List UInt8)) (a1 : Int) : Option (Int) :=
 joinK (fun j1 : Bool =>
  if j1 = true then
   Option.bind (strings_IndexByte N a0 (wr .u8 a1)) fun y5 =>
   some (y5)
  else
   if (a1 == 65533) = true then
    joinK (fun j7 : Unit =>
     some ((-1))) fun k8 =>
    strings_IndexRune_L1 N a0 k8 N 0
   else
    Option.bind (unicode_utf8_ValidRune N a1) fun y12 =>
    if y12 = true then
     (none : Option (Int))
    else
     some ((-1))) fun k2 =>
 if (decide (0 ≤ a1)) = true then
  k2 (decide (a1 < 128))
 else
  k2 false
def strings_ContainsRune (N : Nat) (a0 : (List UInt8)) (a1 : Int) : Option (Bool) :=
 Option.bind (strings_IndexRune N a0 a1) fun y1 =>
 some ((decide (y1 ≥ 0)))
def strings_trimLeftUnicode_L1 (N : Nat) (a1 : (List UInt8)) (k2 : ((List UInt8) → Option ((List UInt8)))) : Nat → (List UInt8) → Option ((List UInt8))
  | 0, _ => none
  | k + 1, s0 =>
  if (decide ((s0.length : Int) > 0)) = true then
   Option.bind (unicode_utf8_DecodeRuneInString N s0) fun y6 =>
   Option.bind (strings_ContainsRune N a1 y6.1) fun y8 =>
   if y8 = true then
    Option.bind (sub s0 y6.2 (s0.length : Int)) fun x10 =>
    strings_trimLeftUnicode_L1 N a1 k2 k x10
   else
    k2 s0
  else
   k2 s0
def strings_trimLeftUnicode (N : Nat) (a0 : (List UInt8)) (a1 : (List UInt8)) : Option ((List UInt8)) :=
 joinK (fun j1 : (List UInt8) =>
  some (j1)) fun k2 =>
 strings_trimLeftUnicode_L1 N a1 k2 N a0
def strings_TrimLeft (N : Nat) (a0 : (List UInt8)) (a1 : (List UInt8)) : Option ((List UInt8)) :=
 joinK (fun j1 : Bool =>
  if j1 = true then
   some (a0)
  else
   joinK (fun j5 : Bool =>
    if j5 = true then
     Option.bind (idx a1 0) fun x10 =>
     Option.bind (strings_trimLeftByte N a0 (bord x10)) fun y11 =>
     some (y11)
    else
     Option.bind (strings_makeASCIISet N a1) fun y13 =>
     grd ((repB 256).length = 256) (
     grd (y13.1.length = 256) (
     if y13.2 = true then
      Option.bind (strings_trimLeftASCII N a0 y13.1) fun y15 =>
      some (y15.1)
     else
      Option.bind (strings_trimLeftUnicode N a0 a1) fun y17 =>
      some (y17)))) fun k6 =>
   if ((a1.length : Int) == 1) = true then
    Option.bind (idx a1 0) fun x9 =>
    k6 (decide ((bord x9) < 128))
   else
    k6 false) fun k2 =>
 if (a0 == []) = true then
  k2 true
 else
  k2 (a1 == [])
def strings_trimRightByte_L1 (N : Nat) (a1 : Int) (k2 : ((List UInt8) → Option ((List UInt8)))) : Nat → (List UInt8) → Option ((List UInt8))
  | 0, _ => none
  | k + 1, s0 =>
  joinK (fun j6 : Bool =>
   if j6 = true then
    Option.bind (sub s0 0 (wr .i64 ((s0.length : Int) - 1))) fun x11 =>
    strings_trimRightByte_L1 N a1 k2 k x11
   else
    k2 s0) fun k7 =>
  if (decide ((s0.length : Int) > 0)) = true then
   Option.bind (idx s0 (wr .i64 ((s0.length : Int) - 1))) fun x10 =>
   k7 ((bord x10) == a1)
  else
   k7 false
def strings_trimRightByte (N : Nat) (a0 : (List UInt8)) (a1 : Int) : Option ((List UInt8)) :=
 joinK (fun j1 : (List UInt8) =>
  some (j1)) fun k2 =>
 strings_trimRightByte_L1 N a1 k2 N a0
def strings_trimRightASCII_L1 (N : Nat) (k2 : ((List UInt8) × (List Bool) → Option ((List UInt8) × (List Bool)))) : Nat → (List UInt8) → (List Bool) → Option ((List UInt8) × (List Bool))
  | 0, _, _ => none
  | k + 1, s0, bi1 =>
  if (decide ((s0.length : Int) > 0)) = true then
   Option.bind (idx s0 (wr .i64 ((s0.length : Int) - 1))) fun x6 =>
   Option.bind (strings_asciiSet_contains N bi1 (bord x6)) fun y7 =>
   if y7.1 = true then
    Option.bind (sub s0 0 (wr .i64 ((s0.length : Int) - 1))) fun x9 =>
    strings_trimRightASCII_L1 N k2 k x9 y7.2
   else
    k2 (s0, y7.2)
  else
   k2 (s0, bi1)
def strings_trimRightASCII (N : Nat) (a0 : (List UInt8)) (a1 : (List Bool)) : Option ((List UInt8) × (List Bool)) :=
 joinK (fun j1 : (List UInt8) × (List Bool) =>
  some (j1.1, j1.2)) fun k2 =>
 strings_trimRightASCII_L1 N k2 N a0 a1
def unicode_utf8_RuneStart (N : Nat) (a0 : Int) : Option (Bool) :=
 some (((bandI .u8 a0 192) != 128))
def unicode_utf8_DecodeLastRuneInString_L1 (N : Nat) (a0 : (List UInt8)) (k3 : (Int → Option (Int × Int))) : Nat → Int → Option (Int × Int)
  | 0, _ => none
  | k + 1, s5 =>
  if (decide (s5 ≥ (if 0 > (wr .i64 ((a0.length : Int) - 4)) then 0 else (wr .i64 ((a0.length : Int) - 4))))) = true then
   Option.bind (idx a0 s5) fun x7 =>
   Option.bind (unicode_utf8_RuneStart N (bord x7)) fun y8 =>
   if y8 = true then
    k3 s5
   else
    unicode_utf8_DecodeLastRuneInString_L1 N a0 k3 k (wr .i64 (s5 - 1))
  else
   k3 s5
def unicode_utf8_DecodeLastRuneInString (N : Nat) (a0 : (List UInt8)) : Option (Int × Int) :=
 if ((a0.length : Int) == 0) = true then
  some (65533, 0)
 else
  Option.bind (idx a0 (wr .i64 ((a0.length : Int) - 1))) fun x1 =>
  if (decide ((wr .i32 (bord x1)) < 128)) = true then
   some ((wr .i32 (bord x1)), 1)
  else
   joinK (fun j2 : Int =>
    joinK (fun j10 : Int =>
     Option.bind (sub a0 j10 (a0.length : Int)) fun x14 =>
     Option.bind (unicode_utf8_DecodeRuneInString N x14) fun y15 =>
     if ((wr .i64 (j10 + y15.2)) != (a0.length : Int)) = true then
      some (65533, 1)
     else
      some (y15.1, y15.2)) fun k11 =>
    if (decide (j2 < 0)) = true then
     k11 0
    else
     k11 j2) fun k3 =>
   unicode_utf8_DecodeLastRuneInString_L1 N a0 k3 N (wr .i64 ((wr .i64 ((a0.length : Int) - 1)) - 1))
def strings_trimRightUnicode_L1 (N : Nat) (a1 : (List UInt8)) (k2 : ((List UInt8) → Option ((List UInt8)))) : Nat → (List UInt8) → Option ((List UInt8))
  | 0, _ => none
  | k + 1, s0 =>
  if (decide ((s0.length : Int) > 0)) = true then
   Option.bind (idx s0 (wr .i64 ((s0.length : Int) - 1))) fun x6 =>
   joinK (fun j7 : Int × Int =>
    Option.bind (strings_ContainsRune N a1 j7.1) fun y13 =>
    if y13 = true then
     Option.bind (sub s0 0 (wr .i64 ((s0.length : Int) - j7.2))) fun x15 =>
     strings_trimRightUnicode_L1 N a1 k2 k x15
    else
     k2 s0) fun k8 =>
   if (decide ((wr .i32 (bord x6)) ≥ 128)) = true then
    Option.bind (unicode_utf8_DecodeLastRuneInString N s0) fun y11 =>
    k8 (y11.1, y11.2)
   else
    k8 ((wr .i32 (bord x6)), 1)
  else
   k2 s0
def strings_trimRightUnicode (N : Nat) (a0 : (List UInt8)) (a1 : (List UInt8)) : Option ((List UInt8)) :=
 joinK (fun j1 : (List UInt8) =>
  some (j1)) fun k2 =>
 strings_trimRightUnicode_L1 N a1 k2 N a0
def strings_TrimRight (N : Nat) (a0 : (List UInt8)) (a1 : (List UInt8)) : Option ((List UInt8)) :=
 joinK (fun j1 : Bool =>
  if j1 = true then
   some (a0)
  else
   joinK (fun j5 : Bool =>
    if j5 = true then
     Option.bind (idx a1 0) fun x10 =>
     Option.bind (strings_trimRightByte N a0 (bord x10)) fun y11 =>
     some (y11)
    else
     Option.bind (strings_makeASCIISet N a1) fun y13 =>
     grd ((repB 256).length = 256) (
     grd (y13.1.length = 256) (
     if y13.2 = true then
      Option.bind (strings_trimRightASCII N a0 y13.1) fun y15 =>
      some (y15.1)
     else
      Option.bind (strings_trimRightUnicode N a0 a1) fun y17 =>
      some (y17)))) fun k6 =>
   if ((a1.length : Int) == 1) = true then
    Option.bind (idx a1 0) fun x9 =>
    k6 (decide ((bord x9) < 128))
   else
    k6 false) fun k2 =>
 if (a0 == []) = true then
  k2 true
 else
  k2 (a1 == [])
def number_parse__ascii_IsDigit_L2 (N : Nat) (a1 : Int) (a2 : Int) (k9 : (Int → Option (Int × Int))) : List UInt8 → Int → Option (Int × Int)
  | [], s11 =>
  k9 s11
  | xk12 :: xs, s11 =>
  Option.bind (number_value N (bord xk12)) fun y13 =>
  joinK (fun j15 : Bool =>
   if j15 = true then
    some (0, 4)
   else
    number_parse__ascii_IsDigit_L2 N a1 a2 k9 xs (wr .u64 ((wr .u64 (s11 * a1)) + y13))) fun k16 =>
  grd (a1 ≠ 0) (
  if (decide (s11 > (wr .u64 ((wr .u64 (18446744073709551615 - y13)).tdiv a1)))) = true then
   k16 true
  else
   k16 (decide ((wr .u64 ((wr .u64 (s11 * a1)) + y13)) > a2)))
def number_parse__ascii_IsDigit_L1 (N : Nat) (k2 : (Unit → Option (Int × Int))) : List UInt8 → Option (Int × Int)
  | [] =>
  k2 ()
  | xk5 :: xs =>
  Option.bind (ascii_IsDigit N (bord xk5)) fun y6 =>
  if y6 = true then
   number_parse__ascii_IsDigit_L1 N k2 xs 
  else
   some (0, 1)
def number_parse__ascii_IsDigit (N : Nat) (a0 : (List UInt8)) (a1 : Int) (a2 : Int) : Option (Int × Int) :=
 if (a0 == []) = true then
  some (0, 3)
 else
  joinK (fun j1 : Unit =>
   joinK (fun j8 : Int =>
    some (j8, 0)) fun k9 =>
   grd (fitsS (a0.length)) (
    number_parse__ascii_IsDigit_L2 N a1 a2 k9 a0 0)) fun k2 =>
  grd (fitsS (a0.length)) (
   number_parse__ascii_IsDigit_L1 N k2 a0)
def number_Parse (N : Nat) (a0 : (List UInt8)) (a1 : Int) : Option (Int × Int) :=
 Option.bind (number_parse__ascii_IsDigit N a0 10 a1) fun y1 =>
 some (y1.1, y1.2)
def internal_stringslite_HasPrefix (N : Nat) (a0 : (List UInt8)) (a1 : (List UInt8)) : Option (Bool) :=
 if (decide ((a0.length : Int) ≥ (a1.length : Int))) = true then
  Option.bind (sub a0 0 (a1.length : Int)) fun x1 =>
  some ((x1 == a1))
 else
  some (false)
def strings_HasPrefix (N : Nat) (a0 : (List UInt8)) (a1 : (List UInt8)) : Option (Bool) :=
 Option.bind (internal_stringslite_HasPrefix N a0 a1) fun y1 =>
 some (y1)
def token_exponent (N : Nat) (a0 : (List UInt8)) : Option (Int) :=
 Option.bind (strings_TrimLeft N a0 ([43, 45] : List UInt8)) fun y1 =>
 Option.bind (number_Parse N y1 1099511627776) fun y3 =>
 joinK (fun j5 : Int =>
  Option.bind (strings_HasPrefix N a0 ([45] : List UInt8)) fun y9 =>
  if y9 = true then
   some ((wr .i64 (0 - (wr .i64 j5))))
  else
   some ((wr .i64 j5))) fun k6 =>
 if (y3.2 == 3) = true then
  some (0)
 else
  if (y3.2 != 0) = true then
   k6 1099511627776
  else
   k6 y3.1
def number_Format_L1 (N : Nat) (k2 : (Int × Int × (List Int) → Option ((List UInt8)))) : Nat → Int → Int → (List Int) → Option ((List UInt8))
  | 0, _, _, _ => none
  | k + 1, s0, s4, bn =>
  if (decide (s0 ≥ 10)) = true then
   grd (0 ≤ s4 ∧ s4 < 20) (
   grd (s4.toNat + 1 ≤ bn.length) (
   number_Format_L1 N k2 k (wr .u64 (s0.tdiv 10)) (wr .i64 (s4 - 1)) (bn.set s4.toNat (wr .u8 (wr .u64 (48 + (s0.tmod 10)))))))
  else
   k2 (s0, s4, bn)
def number_Format (N : Nat) (a0 : Int) : Option ((List UInt8)) :=
 joinK (fun j1 : Int × Int × (List Int) =>
  grd (0 ≤ j1.2.1 ∧ j1.2.1 < 20) (
  grd (j1.2.1.toNat + 1 ≤ j1.2.2.length) (
  grd (0 ≤ j1.2.1 ∧ j1.2.1 ≤ 20) (
  grd ((20 - j1.2.1.toNat) ≤ j1.2.2.length - j1.2.1.toNat ∧ fitsS (20 - j1.2.1.toNat)) (
  some ((List.map bchr (List.take (20 - j1.2.1.toNat) (List.drop j1.2.1.toNat (j1.2.2.set j1.2.1.toNat (wr .u8 (wr .u64 (48 + j1.1))))))))))))) fun k2 =>
 number_Format_L1 N k2 N a0 19 (List.replicate 20 0)
def token_Number (N : Nat) (a0 : (List UInt8)) : Option ((List UInt8) × Int) :=
 Option.bind (token_reader_number N (TokenReader.mk a0 0)) fun y1 =>
 joinK (fun j3 : Bool =>
  if j3 = true then
   some ([], 130)
  else
   joinK (fun j7 : (List UInt8) × (List UInt8) =>
    Option.bind (ascii_Lower N j7.2) fun y13 =>
    Option.bind (strings_Cut N y13 ([101] : List UInt8)) fun y15 =>
    Option.bind (strings_Cut N y15.1 ([46] : List UInt8)) fun y17 =>
    grd (fitsS (y17.1.length + y17.2.1.length)) (
    Option.bind (strings_TrimLeft N (y17.1 ++ y17.2.1) ([48] : List UInt8)) fun y19 =>
    Option.bind (strings_TrimRight N y19 ([48] : List UInt8)) fun y21 =>
    if (y21 == []) = true then
     some (([48] : List UInt8), 0)
    else
     Option.bind (token_exponent N y15.2.1) fun y23 =>
     joinK (fun j25 : Bool =>
      if j25 = true then
       some ([], 144)
      else
       if (decide ((wr .i64 ((wr .i64 ((wr .i64 (y23 - (y17.2.1.length : Int))) + (y19.length : Int))) - (y21.length : Int))) < 0)) = true then
        grd (fitsS (j7.1.length + y21.length)) (
        grd (fitsS ((j7.1 ++ y21).length + ([101, 45] : List UInt8).length)) (
        Option.bind (number_Format N (wr .u64 (wr .i64 (0 - (wr .i64 ((wr .i64 ((wr .i64 (y23 - (y17.2.1.length : Int))) + (y19.length : Int))) - (y21.length : Int))))))) fun y29 =>
        grd (fitsS (((j7.1 ++ y21) ++ ([101, 45] : List UInt8)).length + y29.length)) (
        some ((((j7.1 ++ y21) ++ ([101, 45] : List UInt8)) ++ y29), 0))))
       else
        if (decide ((wr .i64 ((wr .i64 ((wr .i64 (y23 - (y17.2.1.length : Int))) + (y19.length : Int))) - (y21.length : Int))) > 0)) = true then
         grd (fitsS (j7.1.length + y21.length)) (
         grd (fitsS ((j7.1 ++ y21).length + ([101] : List UInt8).length)) (
         Option.bind (number_Format N (wr .u64 (wr .i64 ((wr .i64 ((wr .i64 (y23 - (y17.2.1.length : Int))) + (y19.length : Int))) - (y21.length : Int))))) fun y31 =>
         grd (fitsS (((j7.1 ++ y21) ++ ([101] : List UInt8)).length + y31.length)) (
         some ((((j7.1 ++ y21) ++ ([101] : List UInt8)) ++ y31), 0))))
        else
         grd (fitsS (j7.1.length + y21.length)) (
         some ((j7.1 ++ y21), 0))) fun k26 =>
     if (decide ((y21.length : Int) > 40)) = true then
      k26 true
     else
      if (decide ((wr .i64 ((wr .i64 ((wr .i64 (y23 - (y17.2.1.length : Int))) + (y19.length : Int))) - (y21.length : Int))) < (-400))) = true then
       k26 true
      else
       k26 (decide ((wr .i64 ((wr .i64 ((wr .i64 (y23 - (y17.2.1.length : Int))) + (y19.length : Int))) - (y21.length : Int))) > 400)))) fun k8 =>
   Option.bind (idx a0 0) fun x11 =>
   if ((bord x11) == 45) = true then
    Option.bind (sub a0 1 (a0.length : Int)) fun x12 =>
    k8 (([45] : List UInt8), x12)
   else
    k8 ([], a0)) fun k4 =>
 if y1.2.1 = true then
  k4 ((y1.1.length : Int) != (a0.length : Int))
 else
  k4 true
-- deps: webfinger/token.Next webfinger/token.Number webfinger/jsondoc.opens
/-- the parser of JSON texts: the open arrays and objects, the innermost last; a level's set of keys is its list of keys -/
structure JPsr where
  stack : List ApiValue
  want : Int
  nodes : Int
  out : ApiValue
def jd_zero : ApiValue := ⟨0, [], [], []⟩
def jd_opens (t : ApiToken) : Bool := t.kind == 3 || t.kind == 4 || t.kind == 5 || t.kind == 2 && (t.text == [91] || t.text == [123])
def jd_closing (p : JPsr) : List UInt8 := match p.stack.getLast? with | none => [] | some v => if v.kind == 7 then [125] else [93]
def jd_ends (p : JPsr) (t : ApiToken) : Bool := t.kind == 2 && t.text == jd_closing p
def jd_fits (p : JPsr) (t : ApiToken) : Bool :=
  if p.want == 0 then jd_opens t else if p.want == 1 then jd_opens t || jd_ends p t else if p.want == 2 then t.kind == 3 else if p.want == 3 then t.kind == 3 || jd_ends p t
  else if p.want == 4 then t.kind == 2 && t.text == [58] else if p.want == 5 then t.kind == 2 && t.text == [44] || jd_ends p t else t.kind == 1
def jd_done (p : JPsr) (v : ApiValue) : JPsr :=
  match p.stack.getLast? with
  | none => { p with out := v, want := 6 }
  | some l => { p with stack := p.stack.dropLast ++ [{ l with items := l.items ++ [v] }], want := 5 }
def jd_open (p : JPsr) (kind want : Int) : JPsr × Int :=
  if p.stack.length ≥ 64 then (p, 141) else if p.nodes + 1 > 20000 then ({ p with nodes := p.nodes + 1 }, 142)
  else ({ p with stack := p.stack ++ [⟨kind, [], [], []⟩], nodes := p.nodes + 1, want := want }, 0)
def jd_key (p : JPsr) (s : List UInt8) : Option (JPsr × Int) :=
  match p.stack.getLast? with
  | none => none
  | some l => if s ∈ l.keys then some (p, 143) else some ({ p with stack := p.stack.dropLast ++ [{ l with keys := l.keys ++ [s] }], want := 4 }, 0)
def jd_word (s : List UInt8) : Int := if s == [110, 117, 108, 108] then 1 else if s == [102, 97, 108, 115, 101] then 2 else if s == [116, 114, 117, 101] then 3 else 0
def jd_put (p : JPsr) (v : ApiValue) : JPsr × Int :=
  if p.nodes + 1 > 20000 then ({ p with nodes := p.nodes + 1 }, 142) else (jd_done { p with nodes := p.nodes + 1 } v, 0)
def jd_plain (N : Nat) (p : JPsr) (t : ApiToken) : Option (JPsr × Int) :=
  if t.kind == 4 then Option.bind (token_Number N t.text) fun y => if y.2 != 0 then some (p, 144) else some (jd_put p ⟨4, y.1, [], []⟩)
  else if t.kind == 5 then some (jd_put p ⟨jd_word t.text, [], [], []⟩) else some (jd_put p ⟨5, t.text, [], []⟩)
def jd_punct (p : JPsr) (c : List UInt8) : Option (JPsr × Int) :=
  if c == [91] then some (jd_open p 6 1) else if c == [123] then some (jd_open p 7 3) else if c == [58] then some ({ p with want := 0 }, 0)
  else match p.stack.getLast? with
  | none => none
  | some l => if c == [44] then some ({ p with want := if l.kind == 7 then 2 else 0 }, 0) else some (jd_done { p with stack := p.stack.dropLast } l, 0)
def jd_take (N : Nat) (p : JPsr) (t : ApiToken) : Option (JPsr × Int) :=
  if jd_fits p t = false then some (p, 140) else if t.kind == 2 then jd_punct p t.text else if p.want == 2 || p.want == 3 then jd_key p t.text else if t.kind == 1 then some (p, 0) else jd_plain N p t
def jd_loop (N : Nat) (s : List UInt8) : Nat → Int → JPsr → Option (ApiValue × Int × Int)
  | 0, _, _ => none
  | D + 1, at_, p =>
    Option.bind (token_Next N s at_) fun y =>
    if y.2.2 != 0 then some (jd_zero, at_, y.2.2) else
    Option.bind (jd_take N p y.1) fun q =>
    if q.2 != 0 then some (jd_zero, y.1.at_, q.2) else
    if y.1.kind == 1 then some (q.1.out, s.length, 0) else jd_loop N s D y.2.1 q.1
def jsondoc_Parse (N : Nat) (a0 : List UInt8) : Option (ApiValue × Int × Int) :=
  if N > 1099511627776 then none else if a0.length > 1048576 then some (jd_zero, 0, 142) else jd_loop N a0 N 0 ⟨[], 0, 0, jd_zero⟩
def law14_sane (N : Nat)  : Option (Bool) :=
 Option.bind (jsondoc_Parse N ([123, 34, 97, 34, 58, 91, 49, 44, 50, 46, 53, 48, 93, 44, 34, 98, 34, 58, 110, 117, 108, 108, 125] : List UInt8)) fun y1 =>
 Option.bind (jsondoc_Parse N ([123, 34, 97, 34, 58, 49, 44, 34, 97, 34, 58, 50, 125] : List UInt8)) fun y3 =>
 if (y1.2.2 == 0) = true then
  if (y1.2.1 == 23) = true then
   if ((y1.1.keys.length : Int) == 2) = true then
    if ((y1.1.items.length : Int) == 2) = true then
     Option.bind (idx y1.1.items 0) fun x5 =>
     if ((x5.items.length : Int) == 2) = true then
      Option.bind (idx x5.items 1) fun x6 =>
      if (x6.text == ([50, 53, 101, 45, 49] : List UInt8)) = true then
       if (y3.2.2 == 143) = true then
        some ((y3.2.1 == 7))
       else
        some (false)
      else
       some (false)
     else
      some (false)
    else
     some (false)
   else
    some (false)
  else
   some (false)
 else
  some (false)
def ref14_parser_stop (N : Nat) (a0 : Ref14Parser) (a1 : Int) (a2 : Int) : Option (Ref14Parser) :=
 if (a0.fail == 0) = true then
  some ((Ref14Parser.mk a0.s a0.at_ a0.nodes a2 a1))
 else
  some (a0)
def ref14_is (N : Nat) (a0 : ApiToken) (a1 : (List UInt8)) : Option (Bool) :=
 if (a0.kind == 2) = true then
  some ((a0.text == a1))
 else
  some (false)
def ref13_tail (N : Nat) (a0 : (List UInt8)) (a1 : Int) : Option ((List UInt8)) :=
 if (decide (a1 ≥ (a0.length : Int))) = true then
  some ([])
 else
  Option.bind (sub a0 a1 (a0.length : Int)) fun x1 =>
  some (x1)
def ref01_In_L1 (N : Nat) (a0 : Int) (k2 : (Unit → Option (Bool))) : List UInt8 → Option (Bool)
  | [] =>
  k2 ()
  | xk5 :: xs =>
  if ((bord xk5) == a0) = true then
   some (true)
  else
   ref01_In_L1 N a0 k2 xs 
def ref01_In (N : Nat) (a0 : Int) (a1 : (List UInt8)) : Option (Bool) :=
 joinK (fun j1 : Unit =>
  some (false)) fun k2 =>
 grd (fitsS (a1.length)) (
  ref01_In_L1 N a0 k2 a1)
def ref01_IsDigit (N : Nat) (a0 : Int) : Option (Bool) :=
 if (decide (a0 ≥ 48)) = true then
  some ((decide (a0 ≤ 57)))
 else
  some (false)
def ref13_run_L1 (N : Nat) (a0 : (List UInt8)) (k2 : (Int → Option (Int))) : Nat → Int → Option (Int)
  | 0, _ => none
  | k + 1, s3 =>
  joinK (fun j6 : Bool =>
   if j6 = true then
    ref13_run_L1 N a0 k2 k (wr .i64 (s3 + 1))
   else
    k2 s3) fun k7 =>
  if (decide (s3 < (a0.length : Int))) = true then
   Option.bind (idx a0 s3) fun x10 =>
   Option.bind (ref01_IsDigit N (bord x10)) fun y11 =>
   k7 y11
  else
   k7 false
def ref13_run (N : Nat) (a0 : (List UInt8)) : Option (Int) :=
 joinK (fun j1 : Int =>
  some (j1)) fun k2 =>
 ref13_run_L1 N a0 k2 N 0
def ref13_numeral (N : Nat) (a0 : (List UInt8)) : Option (Int) :=
 joinK (fun j1 : Int =>
  joinK (fun j10 : Bool =>
   if j10 = true then
    some (0)
   else
    joinK (fun j17 : Int =>
     joinK (fun j25 : Int =>
      joinK (fun j38 : Int =>
       some (j38)) fun k39 =>
      joinK (fun j42 : Bool =>
       if j42 = true then
        joinK (fun j49 : Int =>
         Option.bind (ref13_tail N a0 j49) fun y60 =>
         Option.bind (ref13_run N y60) fun y62 =>
         if (decide (y62 > 0)) = true then
          k39 (wr .i64 (j49 + y62))
         else
          k39 j25) fun k50 =>
        joinK (fun j53 : Bool =>
         if j53 = true then
          k50 (wr .i64 ((wr .i64 (j25 + 1)) + 1))
         else
          k50 (wr .i64 (j25 + 1))) fun k54 =>
        if (decide ((wr .i64 (j25 + 1)) < (a0.length : Int))) = true then
         Option.bind (idx a0 (wr .i64 (j25 + 1))) fun x57 =>
         Option.bind (ref01_In N (bord x57) ([43, 45] : List UInt8)) fun y58 =>
         k54 y58
        else
         k54 false
       else
        k39 j25) fun k43 =>
      if (decide (j25 < (a0.length : Int))) = true then
       Option.bind (idx a0 j25) fun x46 =>
       Option.bind (ref01_In N (bord x46) ([101, 69] : List UInt8)) fun y47 =>
       k43 y47
      else
       k43 false) fun k26 =>
     Option.bind (ref13_tail N a0 (wr .i64 (j17 + 1))) fun y29 =>
     Option.bind (ref13_run N y29) fun y31 =>
     joinK (fun j33 : Bool =>
      if j33 = true then
       k26 (wr .i64 (j17 + (wr .i64 (1 + y31))))
      else
       k26 j17) fun k34 =>
     if (decide (j17 < (a0.length : Int))) = true then
      Option.bind (idx a0 j17) fun x37 =>
      if ((bord x37) == 46) = true then
       k34 (decide (y31 > 0))
      else
       k34 false
     else
      k34 false) fun k18 =>
    Option.bind (idx a0 j1) fun x21 =>
    if ((bord x21) == 48) = true then
     k18 (wr .i64 (j1 + 1))
    else
     Option.bind (sub a0 j1 (a0.length : Int)) fun x22 =>
     Option.bind (ref13_run N x22) fun y23 =>
     k18 (wr .i64 (j1 + y23))) fun k11 =>
  if (j1 == (a0.length : Int)) = true then
   k11 true
  else
   Option.bind (idx a0 j1) fun x14 =>
   Option.bind (ref01_IsDigit N (bord x14)) fun y15 =>
   k11 (!y15)) fun k2 =>
 joinK (fun j5 : Bool =>
  if j5 = true then
   k2 (wr .i64 (0 + 1))
  else
   k2 0) fun k6 =>
 if (decide (0 < (a0.length : Int))) = true then
  Option.bind (idx a0 0) fun x9 =>
  k6 ((bord x9) == 45)
 else
  k6 false
def ref01_Index_L1 (N : Nat) (a1 : (List UInt8)) (k2 : (Unit → Option (Int))) : List UInt8 → Int → Option (Int)
  | [], s5 =>
  k2 ()
  | xk5 :: xs, s5 =>
  Option.bind (ref01_In N (bord xk5) a1) fun y6 =>
  if y6 = true then
   some (s5)
  else
   ref01_Index_L1 N a1 k2 xs (s5 + 1) 
def ref01_Index (N : Nat) (a0 : (List UInt8)) (a1 : (List UInt8)) : Option (Int) :=
 joinK (fun j1 : Unit =>
  some ((a0.length : Int))) fun k2 =>
 grd (fitsS (a0.length)) (
  ref01_Index_L1 N a1 k2 a0 0)
def ref13_exponent_L1 (N : Nat) (k19 : (Int → Option (Int))) : List UInt8 → Int → Option (Int)
  | [], s4 =>
  k19 s4
  | xk22 :: xs, s4 =>
  ref13_exponent_L1 N k19 xs (if 1073741824 < (wr .i64 ((wr .i64 (s4 * 10)) + (wr .i64 (wr .u8 ((bord xk22) - 48))))) then 1073741824 else (wr .i64 ((wr .i64 (s4 * 10)) + (wr .i64 (wr .u8 ((bord xk22) - 48))))))
def ref13_exponent (N : Nat) (a0 : (List UInt8)) : Option (Int) :=
 joinK (fun j1 : Bool =>
  joinK (fun j6 : (List UInt8) =>
   joinK (fun j18 : Int =>
    if j1 = true then
     some ((wr .i64 (0 - j18)))
    else
     some (j18)) fun k19 =>
   grd (fitsS (j6.length)) (
    ref13_exponent_L1 N k19 j6 0)) fun k7 =>
  joinK (fun j10 : Bool =>
   if j10 = true then
    Option.bind (sub a0 1 (a0.length : Int)) fun x17 =>
    k7 x17
   else
    k7 a0) fun k11 =>
  if (a0 == []) = true then
   k11 false
  else
   Option.bind (idx a0 0) fun x14 =>
   Option.bind (ref01_In N (bord x14) ([43, 45] : List UInt8)) fun y15 =>
   k11 y15) fun k2 =>
 if (a0 == []) = true then
  k2 false
 else
  Option.bind (idx a0 0) fun x5 =>
  k2 ((bord x5) == 45)
def ref04_Format_L1 (N : Nat) : Nat → Int → (List UInt8) → Option ((List UInt8))
  | 0, _, _ => none
  | k + 1, s0, s3 =>
  grd (fitsS ((List.map bchr [(wr .u8 (wr .u64 (48 + (s0.tmod 10))))]).length + s3.length)) (
  if ((wr .u64 (s0.tdiv 10)) == 0) = true then
   some (((List.map bchr [(wr .u8 (wr .u64 (48 + (s0.tmod 10))))]) ++ s3))
  else
   ref04_Format_L1 N k (wr .u64 (s0.tdiv 10)) ((List.map bchr [(wr .u8 (wr .u64 (48 + (s0.tmod 10))))]) ++ s3))
def ref04_Format (N : Nat) (a0 : Int) : Option ((List UInt8)) :=
 ref04_Format_L1 N N a0 []
def ref13_Number_L2 (N : Nat) (k40 : (Int × (List UInt8) → Option ((List UInt8) × Int))) : Nat → Int → (List UInt8) → Option ((List UInt8) × Int)
  | 0, _, _ => none
  | k + 1, s6, s7 =>
  Option.bind (idx s7 (wr .i64 ((s7.length : Int) - 1))) fun x44 =>
  if ((bord x44) == 48) = true then
   Option.bind (sub s7 0 (wr .i64 ((s7.length : Int) - 1))) fun x45 =>
   ref13_Number_L2 N k40 k (wr .i64 (s6 + 1)) x45
  else
   k40 (s6, s7)
def ref13_Number_L1 (N : Nat) (k29 : ((List UInt8) → Option ((List UInt8) × Int))) : Nat → (List UInt8) → Option ((List UInt8) × Int)
  | 0, _ => none
  | k + 1, s7 =>
  joinK (fun j33 : Bool =>
   if j33 = true then
    Option.bind (sub s7 1 (s7.length : Int)) fun x38 =>
    ref13_Number_L1 N k29 k x38
   else
    k29 s7) fun k34 =>
  if (decide ((s7.length : Int) > 0)) = true then
   Option.bind (idx s7 0) fun x37 =>
   k34 ((bord x37) == 48)
  else
   k34 false
def ref13_Number (N : Nat) (a0 : (List UInt8)) : Option ((List UInt8) × Int) :=
 joinK (fun j1 : Bool =>
  if j1 = true then
   some ([], 130)
  else
   joinK (fun j7 : (List UInt8) × (List UInt8) =>
    Option.bind (ref01_Index N j7.1 ([101, 69] : List UInt8)) fun y13 =>
    Option.bind (ref13_tail N j7.1 (wr .i64 (y13 + 1))) fun y15 =>
    Option.bind (ref13_exponent N y15) fun y17 =>
    Option.bind (sub j7.1 0 y13) fun x19 =>
    joinK (fun j20 : Int × (List UInt8) =>
     joinK (fun j28 : (List UInt8) =>
      if (j28 == []) = true then
       some (([48] : List UInt8), 0)
      else
       joinK (fun j39 : Int × (List UInt8) =>
        joinK (fun j46 : Bool =>
         if j46 = true then
          some ([], 144)
         else
          if (decide (j39.1 < 0)) = true then
           grd (fitsS (j7.2.length + j39.2.length)) (
           grd (fitsS ((j7.2 ++ j39.2).length + ([101, 45] : List UInt8).length)) (
           Option.bind (ref04_Format N (wr .u64 (wr .i64 (0 - j39.1)))) fun y50 =>
           grd (fitsS (((j7.2 ++ j39.2) ++ ([101, 45] : List UInt8)).length + y50.length)) (
           some ((((j7.2 ++ j39.2) ++ ([101, 45] : List UInt8)) ++ y50), 0))))
          else
           if (decide (j39.1 > 0)) = true then
            grd (fitsS (j7.2.length + j39.2.length)) (
            grd (fitsS ((j7.2 ++ j39.2).length + ([101] : List UInt8).length)) (
            Option.bind (ref04_Format N (wr .u64 j39.1)) fun y52 =>
            grd (fitsS (((j7.2 ++ j39.2) ++ ([101] : List UInt8)).length + y52.length)) (
            some ((((j7.2 ++ j39.2) ++ ([101] : List UInt8)) ++ y52), 0))))
           else
            grd (fitsS (j7.2.length + j39.2.length)) (
            some ((j7.2 ++ j39.2), 0))) fun k47 =>
        if (decide ((j39.2.length : Int) > 40)) = true then
         k47 true
        else
         if (decide (j39.1 > 400)) = true then
          k47 true
         else
          k47 (decide (j39.1 < (-400)))) fun k40 =>
       ref13_Number_L2 N k40 N j20.1 j28) fun k29 =>
     ref13_Number_L1 N k29 N j20.2) fun k21 =>
    Option.bind (ref01_Index N x19 ([46] : List UInt8)) fun y24 =>
    if (decide (y24 < (x19.length : Int))) = true then
     Option.bind (sub x19 0 y24) fun x26 =>
     Option.bind (sub x19 (wr .i64 (y24 + 1)) (x19.length : Int)) fun x27 =>
     grd (fitsS (x26.length + x27.length)) (
     k21 ((wr .i64 (y17 - (wr .i64 ((wr .i64 ((x19.length : Int) - y24)) - 1)))), (x26 ++ x27)))
    else
     k21 (y17, x19)) fun k8 =>
   Option.bind (idx a0 0) fun x11 =>
   if ((bord x11) == 45) = true then
    Option.bind (sub a0 1 (a0.length : Int)) fun x12 =>
    k8 (x12, ([45] : List UInt8))
   else
    k8 (a0, [])) fun k2 =>
 if (a0 == []) = true then
  k2 true
 else
  Option.bind (ref13_numeral N a0) fun y5 =>
  k2 (y5 != (a0.length : Int))
def ref14_word (N : Nat) (a0 : (List UInt8)) : Option (Int) :=
 if (a0 == ([116, 114, 117, 101] : List UInt8)) = true then
  some (3)
 else
  if (a0 == ([102, 97, 108, 115, 101] : List UInt8)) = true then
   some (2)
  else
   some (1)
def ref13_white (N : Nat) (a0 : Int) : Option (Bool) :=
 Option.bind (ref01_In N a0 ([32, 9, 10, 13] : List UInt8)) fun y1 =>
 some (y1)
def ref01_IsHex (N : Nat) (a0 : Int) : Option (Bool) :=
 Option.bind (ref01_IsDigit N a0) fun y1 =>
 if y1 = true then
  some (true)
 else
  if (decide (a0 ≥ 65)) = true then
   if (decide (a0 ≤ 70)) = true then
    some (true)
   else
    if (decide (a0 ≥ 97)) = true then
     some ((decide (a0 ≤ 102)))
    else
     some (false)
  else
   if (decide (a0 ≥ 97)) = true then
    some ((decide (a0 ≤ 102)))
   else
    some (false)
def ref04_parse_L2 (N : Nat) (a1 : Int) (a2 : Int) (k17 : (Int → Option (Int × Int))) : List UInt8 → Int → Option (Int × Int)
  | [], s9 =>
  k17 s9
  | xk20 :: xs, s9 =>
  joinK (fun j21 : Int =>
   joinK (fun j25 : Bool =>
    if j25 = true then
     some (0, 4)
    else
     ref04_parse_L2 N a1 a2 k17 xs (wr .u64 ((wr .u64 (s9 * a1)) + j21))) fun k26 =>
   grd (a1 ≠ 0) (
   if (decide (s9 > (wr .u64 (a2.tdiv a1)))) = true then
    k26 true
   else
    if (decide ((wr .u64 (s9 * a1)) > (wr .u64 (a2 - j21)))) = true then
     k26 true
    else
     k26 (decide (j21 > a2)))) fun k22 =>
  if (decide ((bord xk20) > 57)) = true then
   k22 (wr .u64 ((wr .u64 ((wr .u64 (borI .u8 (bord xk20) 32)) - 97)) + 10))
  else
   k22 (wr .u64 (wr .u8 ((bord xk20) - 48)))
def ref04_parse_L1 (N : Nat) (a1 : Int) (k2 : (Unit → Option (Int × Int))) : List UInt8 → Option (Int × Int)
  | [] =>
  k2 ()
  | xk5 :: xs =>
  joinK (fun j6 : Bool =>
   if j6 = true then
    some (0, 1)
   else
    ref04_parse_L1 N a1 k2 xs ) fun k7 =>
  if (a1 == 10) = true then
   Option.bind (ref01_IsDigit N (bord xk5)) fun y10 =>
   if y10 = true then
    if (a1 == 16) = true then
     Option.bind (ref01_IsHex N (bord xk5)) fun y12 =>
     k7 (!y12)
    else
     k7 false
   else
    k7 true
  else
   if (a1 == 16) = true then
    Option.bind (ref01_IsHex N (bord xk5)) fun y14 =>
    k7 (!y14)
   else
    k7 false
def ref04_parse (N : Nat) (a0 : (List UInt8)) (a1 : Int) (a2 : Int) : Option (Int × Int) :=
 if (a0 == []) = true then
  some (0, 3)
 else
  joinK (fun j1 : Unit =>
   joinK (fun j16 : Int =>
    some (j16, 0)) fun k17 =>
   grd (fitsS (a0.length)) (
    ref04_parse_L2 N a1 a2 k17 a0 0)) fun k2 =>
  grd (fitsS (a0.length)) (
   ref04_parse_L1 N a1 k2 a0)
def ref04_Hex (N : Nat) (a0 : (List UInt8)) (a1 : Int) : Option (Int × Int) :=
 Option.bind (ref04_parse N a0 16 a1) fun y1 =>
 some (y1.1, y1.2)
def ref13_unit (N : Nat) (a0 : (List UInt8)) (a1 : Int) : Option (Int × Bool) :=
 joinK (fun j1 : Bool =>
  if j1 = true then
   some (0, false)
  else
   Option.bind (sub a0 (wr .i64 (a1 + 2)) (wr .i64 (a1 + 6))) fun x7 =>
   Option.bind (ref04_Hex N x7 65535) fun y8 =>
   some ((wr .i64 y8.1), (y8.2 == 0))) fun k2 =>
 if (decide ((wr .i64 (a1 + 6)) > (a0.length : Int))) = true then
  k2 true
 else
  Option.bind (idx a0 a1) fun x5 =>
  if ((bord x5) != 92) = true then
   k2 true
  else
   Option.bind (idx a0 (wr .i64 (a1 + 1))) fun x6 =>
   k2 ((bord x6) != 117)
def ref02_point (N : Nat) (a0 : Int) : Option (Bool) :=
 if (decide (a0 ≥ 0)) = true then
  if (decide (a0 ≤ 1114111)) = true then
   if (decide (a0 < 55296)) = true then
    some (true)
   else
    some ((decide (a0 > 57343)))
  else
   some (false)
 else
  some (false)
def ref02_Encode (N : Nat) (a0 : Int) : Option ((List UInt8) × Int) :=
 Option.bind (ref02_point N a0) fun y1 =>
 if y1 = true then
  if (decide (a0 < 128)) = true then
   some ((List.map bchr [(wr .u8 a0)]), 0)
  else
   if (decide (a0 < 2048)) = true then
    letL ([(wr .u8 (borI .i64 192 (shrI .i64 a0 6))), (wr .u8 (borI .i64 128 (bandI .i64 a0 63)))] : (List Int)) fun l3 =>
    some ((List.map bchr l3), 0)
   else
    if (decide (a0 < 65536)) = true then
     letL ([(wr .u8 (borI .i64 224 (shrI .i64 a0 12))), (wr .u8 (borI .i64 128 (bandI .i64 (shrI .i64 a0 6) 63))), (wr .u8 (borI .i64 128 (bandI .i64 a0 63)))] : (List Int)) fun l4 =>
     some ((List.map bchr l4), 0)
    else
     letL ([(wr .u8 (borI .i64 240 (shrI .i64 a0 18))), (wr .u8 (borI .i64 128 (bandI .i64 (shrI .i64 a0 12) 63))), (wr .u8 (borI .i64 128 (bandI .i64 (shrI .i64 a0 6) 63))), (wr .u8 (borI .i64 128 (bandI .i64 a0 63)))] : (List Int)) fun l5 =>
     some ((List.map bchr l5), 0)
 else
  some ([], 4)
def ref13_escape_L1 (N : Nat) (a0 : (List UInt8)) (a1 : Int) (k2 : (Unit → Option ((List UInt8) × Int × Int))) : Nat → Nat → Option ((List UInt8) × Int × Int)
  | 0, _ => none
  | k + 1, s20 =>
  if (decide (s20 < 8)) = true then
   Option.bind (idx ([34, 92, 47, 98, 102, 110, 114, 116] : List UInt8) ((s20 : Nat) : Int)) fun x6 =>
   Option.bind (idx a0 (wr .i64 (a1 + 1))) fun x7 =>
   if ((bord x6) == (bord x7)) = true then
    Option.bind (sub ([34, 92, 47, 8, 12, 10, 13, 9] : List UInt8) ((s20 : Nat) : Int) (wr .i64 (((s20 : Nat) : Int) + 1))) fun x8 =>
    some (x8, (wr .i64 (a1 + 2)), 0)
   else
    ref13_escape_L1 N a0 a1 k2 k (s20 + (decodeAt ([34, 92, 47, 98, 102, 110, 114, 116] : List UInt8) s20).2)
  else
   k2 ()
def ref13_escape (N : Nat) (a0 : (List UInt8)) (a1 : Int) : Option ((List UInt8) × Int × Int) :=
 joinK (fun j1 : Unit =>
  Option.bind (ref13_unit N a0 a1) fun y9 =>
  if y9.2 = true then
   joinK (fun j11 : Bool =>
    if j11 = true then
     Option.bind (ref02_Encode N y9.1) fun y15 =>
     some (y15.1, (wr .i64 (a1 + 6)), 0)
    else
     Option.bind (ref13_unit N a0 (wr .i64 (a1 + 6))) fun y17 =>
     joinK (fun j19 : Bool =>
      if j19 = true then
       some ([], 0, 7)
      else
       Option.bind (ref02_Encode N (wr .i64 ((wr .i64 ((wr .i64 (65536 + (wr .i64 ((wr .i64 (y9.1 - 55296)) * 1024)))) + y17.1)) - 56320))) fun y23 =>
       some (y23.1, (wr .i64 (a1 + 12)), 0)) fun k20 =>
     if (decide (y9.1 > 56319)) = true then
      k20 true
     else
      if y17.2 = true then
       if (decide (y17.1 < 56320)) = true then
        k20 true
       else
        k20 (decide (y17.1 > 57343))
      else
       k20 true) fun k12 =>
   if (decide (y9.1 < 55296)) = true then
    k12 true
   else
    k12 (decide (y9.1 > 57343))
  else
   some ([], 0, 130)) fun k2 =>
 if (decide ((wr .i64 (a1 + 1)) < (a0.length : Int))) = true then
  ref13_escape_L1 N a0 a1 k2 N 0
 else
  k2 ()
def ref02_value_L1 (N : Nat) (a0 : (List UInt8)) (k4 : (Int → Option (Int))) : Nat → Int → Int → Option (Int)
  | 0, s4, s3 =>
  k4 s3
  | k + 1, s4, s3 =>
  Option.bind (idx a0 s4) fun x8 =>
  ref02_value_L1 N a0 k4 k (s4 + 1) (borI .i64 (shlI .i64 s3 6) (bandI .i64 (wr .i64 (bord x8)) 63))
def ref02_value (N : Nat) (a0 : (List UInt8)) : Option (Int) :=
 if ((a0.length : Int) == 1) = true then
  Option.bind (idx a0 0) fun x1 =>
  some ((wr .i64 (bord x1)))
 else
  Option.bind (idx a0 0) fun x2 =>
  grd (¬ (wr .i64 (7 - (a0.length : Int))) < 0) (
  joinK (fun j3 : Int =>
   some (j3)) fun k4 =>
  grd ((-4611686018427387904 : Int) ≤ 1 ∧ ((a0.length : Int) : Int) ≤ 4611686018427387904) (
   ref02_value_L1 N a0 k4 (((a0.length : Int) : Int) - 1).toNat 1 (bandI .i64 (wr .i64 (bord x2)) (wr .i64 ((shlI .i64 1 (wr .i64 (7 - (a0.length : Int)))) - 1)))))
def ref02_Decode_L1 (N : Nat) (a0 : (List UInt8)) (a1 : Int) (k6 : (Unit → Option (Int × Int × Int))) : Nat → Int → Option (Int × Int × Int)
  | 0, _ => none
  | k + 1, s7 =>
  joinK (fun j10 : Bool =>
   if j10 = true then
    Option.bind (sub a0 a1 (wr .i64 (a1 + s7))) fun x14 =>
    Option.bind (ref02_value N x14) fun y15 =>
    Option.bind (ref02_Encode N y15) fun y17 =>
    joinK (fun j19 : Bool =>
     if j19 = true then
      some (y15, (wr .i64 (a1 + s7)), 0)
     else
      ref02_Decode_L1 N a0 a1 k6 k (wr .i64 (s7 + 1))) fun k20 =>
    if (y17.2 == 0) = true then
     k20 (y17.1 == x14)
    else
     k20 false
   else
    k6 ()) fun k11 =>
  if (decide (s7 ≤ 4)) = true then
   k11 (decide ((wr .i64 (a1 + s7)) ≤ (a0.length : Int)))
  else
   k11 false
def ref02_Decode (N : Nat) (a0 : (List UInt8)) (a1 : Int) : Option (Int × Int × Int) :=
 joinK (fun j1 : Bool =>
  if j1 = true then
   some (0, 0, 4)
  else
   joinK (fun j5 : Unit =>
    some (0, 0, 7)) fun k6 =>
   ref02_Decode_L1 N a0 a1 k6 N 1) fun k2 =>
 if (decide (a1 < 0)) = true then
  k2 true
 else
  k2 (decide (a1 ≥ (a0.length : Int)))
def ref13_text_L1 (N : Nat) (a0 : (List UInt8)) (k2 : (Unit → Option ((List UInt8) × Int × Int))) : Nat → (List UInt8) → Int → Option ((List UInt8) × Int × Int)
  | 0, _, _ => none
  | k + 1, s7, s8 =>
  if (decide (s8 < (a0.length : Int))) = true then
   Option.bind (idx a0 s8) fun x6 =>
   if ((bord x6) == 34) = true then
    some (s7, (wr .i64 (s8 + 1)), 0)
   else
    if ((bord x6) == 92) = true then
     Option.bind (ref13_escape N a0 s8) fun y7 =>
     if (y7.2.2 != 0) = true then
      some ([], 0, y7.2.2)
     else
      grd (fitsS (s7.length + y7.1.length)) (
      ref13_text_L1 N a0 k2 k (s7 ++ y7.1) y7.2.1)
    else
     if (decide ((bord x6) < 32)) = true then
      some ([], 0, 130)
     else
      Option.bind (ref02_Decode N a0 s8) fun y9 =>
      if (y9.2.2 != 0) = true then
       some ([], 0, y9.2.2)
      else
       Option.bind (sub a0 s8 y9.2.1) fun x11 =>
       grd (fitsS (s7.length + x11.length)) (
       ref13_text_L1 N a0 k2 k (s7 ++ x11) y9.2.1)
  else
   k2 ()
def ref13_text (N : Nat) (a0 : (List UInt8)) (a1 : Int) : Option ((List UInt8) × Int × Int) :=
 joinK (fun j1 : Unit =>
  some ([], 0, 130)) fun k2 =>
 ref13_text_L1 N a0 k2 N [] (wr .i64 (a1 + 1))
def ref01_IsAlpha (N : Nat) (a0 : Int) : Option (Bool) :=
 if (decide (a0 ≥ 65)) = true then
  if (decide (a0 ≤ 90)) = true then
   some (true)
  else
   if (decide (a0 ≥ 97)) = true then
    some ((decide (a0 ≤ 122)))
   else
    some (false)
 else
  if (decide (a0 ≥ 97)) = true then
   some ((decide (a0 ≤ 122)))
  else
   some (false)
def ref13_Next_L2 (N : Nat) (a0 : (List UInt8)) (j5 : Int) (k34 : (Int → Option (ApiToken × Int × Int))) : Nat → Int → Option (ApiToken × Int × Int)
  | 0, _ => none
  | k + 1, s12 =>
  joinK (fun j38 : Bool =>
   if j38 = true then
    ref13_Next_L2 N a0 j5 k34 k (wr .i64 (s12 + 1))
   else
    k34 s12) fun k39 =>
  if (decide ((wr .i64 (j5 + s12)) < (a0.length : Int))) = true then
   Option.bind (idx a0 (wr .i64 (j5 + s12))) fun x42 =>
   Option.bind (ref01_IsAlpha N (bord x42)) fun y43 =>
   k39 y43
  else
   k39 false
def ref13_Next_L1 (N : Nat) (a0 : (List UInt8)) (k6 : (Int → Option (ApiToken × Int × Int))) : Nat → Int → Option (ApiToken × Int × Int)
  | 0, _ => none
  | k + 1, s1 =>
  joinK (fun j10 : Bool =>
   if j10 = true then
    ref13_Next_L1 N a0 k6 k (wr .i64 (s1 + 1))
   else
    k6 s1) fun k11 =>
  if (decide (s1 < (a0.length : Int))) = true then
   Option.bind (idx a0 s1) fun x14 =>
   Option.bind (ref13_white N (bord x14)) fun y15 =>
   k11 y15
  else
   k11 false
def ref13_Next (N : Nat) (a0 : (List UInt8)) (a1 : Int) : Option (ApiToken × Int × Int) :=
 joinK (fun j1 : Bool =>
  if j1 = true then
   some ((ApiToken.mk 0 [] 0), 0, 4)
  else
   joinK (fun j5 : Int =>
    if (j5 == (a0.length : Int)) = true then
     some ((ApiToken.mk 1 [] j5), j5, 0)
    else
     Option.bind (idx a0 j5) fun x17 =>
     Option.bind (ref01_In N (bord x17) ([123, 125, 91, 93, 58, 44] : List UInt8)) fun y18 =>
     if y18 = true then
      Option.bind (sub a0 j5 (wr .i64 (j5 + 1))) fun x20 =>
      some ((ApiToken.mk 2 x20 j5), (wr .i64 (j5 + 1)), 0)
     else
      if ((bord x17) == 34) = true then
       Option.bind (ref13_text N a0 j5) fun y21 =>
       if (y21.2.2 != 0) = true then
        some ((ApiToken.mk 0 [] 0), 0, y21.2.2)
       else
        some ((ApiToken.mk 3 y21.1 j5), y21.2.1, 0)
      else
       joinK (fun j23 : Bool =>
        if j23 = true then
         Option.bind (sub a0 j5 (a0.length : Int)) fun x29 =>
         Option.bind (ref13_numeral N x29) fun y30 =>
         if (y30 == 0) = true then
          some ((ApiToken.mk 0 [] 0), 0, 130)
         else
          Option.bind (sub a0 j5 (wr .i64 (j5 + y30))) fun x32 =>
          some ((ApiToken.mk 4 x32 j5), (wr .i64 (j5 + y30)), 0)
        else
         joinK (fun j33 : Int =>
          Option.bind (sub a0 j5 (wr .i64 (j5 + j33))) fun x45 =>
          joinK (fun j46 : Bool =>
           if j46 = true then
            some ((ApiToken.mk 5 x45 j5), (wr .i64 (j5 + j33)), 0)
           else
            some ((ApiToken.mk 0 [] 0), 0, 130)) fun k47 =>
          if (x45 == ([116, 114, 117, 101] : List UInt8)) = true then
           k47 true
          else
           if (x45 == ([102, 97, 108, 115, 101] : List UInt8)) = true then
            k47 true
           else
            k47 (x45 == ([110, 117, 108, 108] : List UInt8))) fun k34 =>
         ref13_Next_L2 N a0 j5 k34 N 0) fun k24 =>
       if ((bord x17) == 45) = true then
        k24 true
       else
        Option.bind (ref01_IsDigit N (bord x17)) fun y27 =>
        k24 y27) fun k6 =>
   ref13_Next_L1 N a0 k6 N a1) fun k2 =>
 if (decide (a1 < 0)) = true then
  k2 true
 else
  k2 (decide (a1 > (a0.length : Int)))
def ref14_parser_next (N : Nat) (a0 : Ref14Parser) : Option (ApiToken × Ref14Parser) :=
 if (a0.fail != 0) = true then
  some ((ApiToken.mk 0 [] 0), a0)
 else
  joinK (fun j2 : Int × Int × ApiToken =>
   if (j2.2.1 != 0) = true then
    Option.bind (ref14_parser_stop N a0 a0.at_ j2.2.1) fun y8 =>
    some ((ApiToken.mk 0 [] 0), y8)
   else
    some (j2.2.2, (Ref14Parser.mk a0.s j2.1 a0.nodes a0.fail a0.where_))) fun k3 =>
  Option.bind (ref13_Next N a0.s a0.at_) fun y6 =>
  k3 (y6.2.1, y6.2.2, y6.1)
def ref14_Get_L1 (N : Nat) (a0 : ApiValue) (a1 : (List UInt8)) (k2 : (Unit → Option (ApiValue × Bool))) : List (List UInt8) → Int → Option (ApiValue × Bool)
  | [], s14 =>
  k2 ()
  | xk5 :: xs, s14 =>
  joinK (fun j6 : Bool =>
   if j6 = true then
    Option.bind (idx a0.items s14) fun x10 =>
    some (x10, true)
   else
    ref14_Get_L1 N a0 a1 k2 xs (s14 + 1) ) fun k7 =>
  if (xk5 == a1) = true then
   k7 (decide (s14 < (a0.items.length : Int)))
  else
   k7 false
def ref14_Get (N : Nat) (a0 : ApiValue) (a1 : (List UInt8)) : Option (ApiValue × Bool) :=
 if (a0.kind != 7) = true then
  some ((ApiValue.mk 0 [] [] []), false)
 else
  joinK (fun j1 : Unit =>
   some ((ApiValue.mk 0 [] [] []), false)) fun k2 =>
  grd (fitsS (a0.keys.length)) (
   ref14_Get_L1 N a0 a1 k2 a0.keys 0)
def ref14_parser_array_L1 (N : Nat) (a1 : Int) (rec_ref14_parser_value : (Ref14Parser → ApiToken → Int → Option (ApiValue × Ref14Parser))) (k6 : (ApiToken × (List ApiValue) × Ref14Parser → Option (ApiValue × Ref14Parser))) : Nat → ApiToken → (List ApiValue) → Ref14Parser → Option (ApiValue × Ref14Parser)
  | 0, _, _, _ => none
  | k + 1, bn2, bn1_items, bi0 =>
  if (bi0.fail == 0) = true then
   joinK (fun j10 : (List ApiValue) × Ref14Parser =>
    Option.bind (ref14_parser_next N j10.2) fun y16 =>
    Option.bind (ref14_is N y16.1 ([93] : List UInt8)) fun y18 =>
    if y18 = true then
     some ((ApiValue.mk 6 [] [] j10.1), y16.2)
    else
     joinK (fun j20 : Ref14Parser =>
      Option.bind (ref14_parser_next N j20) fun y32 =>
      ref14_parser_array_L1 N a1 rec_ref14_parser_value k6 k y32.1 j10.1 y32.2) fun k21 =>
     joinK (fun j24 : Bool =>
      if j24 = true then
       Option.bind (ref14_parser_stop N y16.2 y16.1.at_ 140) fun y30 =>
       k21 y30
      else
       k21 y16.2) fun k25 =>
     if (y16.2.fail == 0) = true then
      Option.bind (ref14_is N y16.1 ([44] : List UInt8)) fun y28 =>
      k25 (!y28)
     else
      k25 false) fun k11 =>
   Option.bind (rec_ref14_parser_value bi0 bn2 a1) fun y14 =>
   grd (fitsA (bn1_items.length + 1) 72) (
   k11 ((bn1_items ++ [y14.1]), y14.2))
  else
   k6 (bn2, bn1_items, bi0)
def ref14_parser_object_L1 (N : Nat) (a1 : Int) (rec_ref14_parser_value : (Ref14Parser → ApiToken → Int → Option (ApiValue × Ref14Parser))) (k6 : (ApiToken × (List (List UInt8)) × (List ApiValue) × Ref14Parser → Option (ApiValue × Ref14Parser))) : Nat → ApiToken → (List (List UInt8)) → (List ApiValue) → Ref14Parser → Option (ApiValue × Ref14Parser)
  | 0, _, _, _, _ => none
  | k + 1, bn2, bn1_keys, bn1_items, bi0 =>
  if (bi0.fail == 0) = true then
   joinK (fun j10 : Ref14Parser =>
    joinK (fun j16 : Ref14Parser =>
     joinK (fun j24 : ApiToken × Ref14Parser =>
      Option.bind (ref14_parser_next N j24.2) fun y38 =>
      Option.bind (rec_ref14_parser_value y38.2 y38.1 a1) fun y40 =>
      grd (fitsA (bn1_keys.length + 1) 16) (
      grd (fitsA (bn1_items.length + 1) 72) (
      Option.bind (ref14_parser_next N y40.2) fun y42 =>
      Option.bind (ref14_is N y42.1 ([125] : List UInt8)) fun y44 =>
      if y44 = true then
       some ((ApiValue.mk 7 [] (bn1_keys ++ [bn2.text]) (bn1_items ++ [y40.1])), y42.2)
      else
       joinK (fun j46 : Ref14Parser =>
        Option.bind (ref14_parser_next N j46) fun y58 =>
        ref14_parser_object_L1 N a1 rec_ref14_parser_value k6 k y58.1 (bn1_keys ++ [bn2.text]) (bn1_items ++ [y40.1]) y58.2) fun k47 =>
       joinK (fun j50 : Bool =>
        if j50 = true then
         Option.bind (ref14_parser_stop N y42.2 y42.1.at_ 140) fun y56 =>
         k47 y56
        else
         k47 y42.2) fun k51 =>
       if (y42.2.fail == 0) = true then
        Option.bind (ref14_is N y42.1 ([44] : List UInt8)) fun y54 =>
        k51 (!y54)
       else
        k51 false))) fun k25 =>
     Option.bind (ref14_parser_next N j16) fun y28 =>
     joinK (fun j30 : Bool =>
      if j30 = true then
       Option.bind (ref14_parser_stop N y28.2 y28.1.at_ 140) fun y36 =>
       k25 (y28.1, y36)
      else
       k25 (y28.1, y28.2)) fun k31 =>
     if (y28.2.fail == 0) = true then
      Option.bind (ref14_is N y28.1 ([58] : List UInt8)) fun y34 =>
      k31 (!y34)
     else
      k31 false) fun k17 =>
    Option.bind (ref14_Get N (ApiValue.mk 7 [] bn1_keys bn1_items) bn2.text) fun y20 =>
    if y20.2 = true then
     Option.bind (ref14_parser_stop N j10 bn2.at_ 143) fun y22 =>
     k17 y22
    else
     k17 j10) fun k11 =>
   if (bn2.kind != 3) = true then
    Option.bind (ref14_parser_stop N bi0 bn2.at_ 140) fun y14 =>
    k11 y14
   else
    k11 bi0
  else
   k6 (bn2, bn1_keys, bn1_items, bi0)
mutual
def ref14_parser_array (N : Nat) : Nat → Ref14Parser → Int → Option (ApiValue × Ref14Parser)
  | 0, _, _ => none
  | D + 1, a0, a1 =>
  Option.bind (ref14_parser_next N a0) fun y1 =>
  Option.bind (ref14_is N y1.1 ([93] : List UInt8)) fun y3 =>
  if y3 = true then
   some ((ApiValue.mk 6 [] [] []), y1.2)
  else
   joinK (fun j5 : ApiToken × (List ApiValue) × Ref14Parser =>
    some ((ApiValue.mk 6 [] [] j5.2.1), j5.2.2)) fun k6 =>
   ref14_parser_array_L1 N a1 (ref14_parser_value N D) k6 N y1.1 [] y1.2
def ref14_parser_object (N : Nat) : Nat → Ref14Parser → Int → Option (ApiValue × Ref14Parser)
  | 0, _, _ => none
  | D + 1, a0, a1 =>
  Option.bind (ref14_parser_next N a0) fun y1 =>
  Option.bind (ref14_is N y1.1 ([125] : List UInt8)) fun y3 =>
  if y3 = true then
   some ((ApiValue.mk 7 [] [] []), y1.2)
  else
   joinK (fun j5 : ApiToken × (List (List UInt8)) × (List ApiValue) × Ref14Parser =>
    some ((ApiValue.mk 7 [] j5.2.1 j5.2.2.1), j5.2.2.2)) fun k6 =>
   ref14_parser_object_L1 N a1 (ref14_parser_value N D) k6 N y1.1 [] [] y1.2
def ref14_parser_value (N : Nat) : Nat → Ref14Parser → ApiToken → Int → Option (ApiValue × Ref14Parser)
  | 0, _, _, _ => none
  | D + 1, a0, a1, a2 =>
  joinK (fun j1 : Bool =>
   if (a0.fail != 0) = true then
    some ((ApiValue.mk 0 [] [] []), a0)
   else
    if j1 = true then
     joinK (fun j9 : Bool =>
      if j9 = true then
       Option.bind (ref14_parser_stop N a0 a1.at_ 141) fun y13 =>
       some ((ApiValue.mk 0 [] [] []), y13)
      else
       joinK (fun j15 : Int × (List UInt8) × Ref14Parser =>
        joinK (fun j27 : (List UInt8) × Int × Int × Int × Int =>
         if (a1.kind == 5) = true then
          Option.bind (ref14_word N a1.text) fun y33 =>
          some ((ApiValue.mk y33 [] [] []), (Ref14Parser.mk j27.1 j27.2.1 j27.2.2.1 j27.2.2.2.1 j27.2.2.2.2))
         else
          Option.bind (ref14_is N a1 ([91] : List UInt8)) fun y35 =>
          if y35 = true then
           Option.bind ((ref14_parser_array N D) (Ref14Parser.mk j27.1 j27.2.1 j27.2.2.1 j27.2.2.2.1 j27.2.2.2.2) (wr .i64 (a2 + 1))) fun y37 =>
           some (y37.1, y37.2)
          else
           Option.bind (ref14_is N a1 ([123] : List UInt8)) fun y39 =>
           if y39 = true then
            Option.bind ((ref14_parser_object N D) (Ref14Parser.mk j27.1 j27.2.1 j27.2.2.1 j27.2.2.2.1 j27.2.2.2.2) (wr .i64 (a2 + 1))) fun y41 =>
            some (y41.1, y41.2)
           else
            some ((ApiValue.mk j15.1 j15.2.1 [] []), (Ref14Parser.mk j27.1 j27.2.1 j27.2.2.1 j27.2.2.2.1 j27.2.2.2.2))) fun k28 =>
        if (decide ((wr .i64 (j15.2.2.nodes + 1)) > 20000)) = true then
         Option.bind (ref14_parser_stop N (Ref14Parser.mk j15.2.2.s j15.2.2.at_ (wr .i64 (j15.2.2.nodes + 1)) j15.2.2.fail j15.2.2.where_) a1.at_ 142) fun y31 =>
         k28 (y31.s, y31.at_, y31.nodes, y31.fail, y31.where_)
        else
         k28 (j15.2.2.s, j15.2.2.at_, (wr .i64 (j15.2.2.nodes + 1)), j15.2.2.fail, j15.2.2.where_)) fun k16 =>
       if (a1.kind == 4) = true then
        Option.bind (ref13_Number N a1.text) fun y19 =>
        joinK (fun j21 : Ref14Parser =>
         k16 (4, y19.1, j21)) fun k22 =>
        if (y19.2 != 0) = true then
         Option.bind (ref14_parser_stop N a0 a1.at_ y19.2) fun y25 =>
         k22 y25
        else
         k22 a0
       else
        k16 (5, a1.text, a0)) fun k10 =>
     if (a1.kind == 2) = true then
      k10 (a2 == 64)
     else
      k10 false
    else
     Option.bind (ref14_parser_stop N a0 a1.at_ 140) fun y43 =>
     some ((ApiValue.mk 0 [] [] []), y43)) fun k2 =>
  if (a1.kind == 3) = true then
   k2 true
  else
   if (a1.kind == 4) = true then
    k2 true
   else
    if (a1.kind == 5) = true then
     k2 true
    else
     Option.bind (ref14_is N a1 ([91] : List UInt8)) fun y5 =>
     if y5 = true then
      k2 true
     else
      Option.bind (ref14_is N a1 ([123] : List UInt8)) fun y7 =>
      k2 y7
end
def ref14_Parse (N : Nat) (a0 : (List UInt8)) : Option (ApiValue × Int × Int) :=
 if (decide ((a0.length : Int) > 1048576)) = true then
  some ((ApiValue.mk 0 [] [] []), 0, 142)
 else
  Option.bind (ref14_parser_next N (Ref14Parser.mk a0 0 0 0 0)) fun y1 =>
  Option.bind (ref14_parser_value N N y1.2 y1.1 0) fun y3 =>
  joinK (fun j5 : Ref14Parser =>
   if (j5.fail != 0) = true then
    some ((ApiValue.mk 0 [] [] []), j5.where_, j5.fail)
   else
    some (y3.1, (a0.length : Int), 0)) fun k6 =>
  Option.bind (ref14_parser_next N y3.2) fun y9 =>
  joinK (fun j11 : Bool =>
   if j11 = true then
    Option.bind (ref14_parser_stop N y9.2 y9.1.at_ 140) fun y15 =>
    k6 y15
   else
    k6 y9.2) fun k12 =>
  if (y9.2.fail == 0) = true then
   k12 (y9.1.kind != 1)
  else
   k12 false
def ref14_Same_L2 (N : Nat) (a1 : ApiValue) (k14 : (Unit → Option (Bool))) : List (List UInt8) → Int → Option (Bool)
  | [], s59 =>
  k14 ()
  | xk17 :: xs, s59 =>
  Option.bind (idx a1.keys s59) fun x18 =>
  if (xk17 == x18) = true then
   ref14_Same_L2 N a1 k14 xs (s59 + 1) 
  else
   some (false)
def ref14_Same_L1 (N : Nat) (a1 : ApiValue) (rec_ref14_Same : (ApiValue → ApiValue → Option (Bool))) (k6 : (Unit → Option (Bool))) : List ApiValue → Int → Option (Bool)
  | [], s40 =>
  k6 ()
  | xk9 :: xs, s40 =>
  Option.bind (idx a1.items s40) fun x10 =>
  Option.bind (rec_ref14_Same xk9 x10) fun y11 =>
  if y11 = true then
   ref14_Same_L1 N a1 rec_ref14_Same k6 xs (s40 + 1) 
  else
   some (false)
def ref14_Same (N : Nat) : Nat → ApiValue → ApiValue → Option (Bool)
  | 0, _, _ => none
  | D + 1, a0, a1 =>
  joinK (fun j1 : Bool =>
   if j1 = true then
    some (false)
   else
    joinK (fun j5 : Unit =>
     joinK (fun j13 : Unit =>
      some (true)) fun k14 =>
     grd (fitsS (a0.keys.length)) (
      ref14_Same_L2 N a1 k14 a0.keys 0)) fun k6 =>
    grd (fitsS (a0.items.length)) (
     ref14_Same_L1 N a1 (ref14_Same N D) k6 a0.items 0)) fun k2 =>
  if (a0.kind != a1.kind) = true then
   k2 true
  else
   if (a0.text == a1.text) = true then
    if ((a0.items.length : Int) != (a1.items.length : Int)) = true then
     k2 true
    else
     k2 ((a0.keys.length : Int) != (a1.keys.length : Int))
   else
    k2 true
def law14_JsondocParses (N : Nat) (a0 : (List UInt8)) : Option (Bool) :=
 Option.bind (law14_sane N) fun y1 =>
 if y1 = true then
  if (decide ((a0.length : Int) > 3000)) = true then
   some (true)
  else
   Option.bind (jsondoc_Parse N a0) fun y3 =>
   Option.bind (ref14_Parse N a0) fun y5 =>
   if (y3.2.1 == y5.2.1) = true then
    if (y3.2.2 == y5.2.2) = true then
     Option.bind (ref14_Same N N y3.1 y5.1) fun y7 =>
     some (y7)
    else
     some (false)
   else
    some (false)
 else
  some (false)
-- deps:
end Go.VM
