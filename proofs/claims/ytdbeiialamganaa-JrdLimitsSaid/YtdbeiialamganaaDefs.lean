/- The functions of the program, as plain functions; written by decomp.py. -/
import Derived.Test.YtdbeiialamganaaTy
set_option linter.unusedVariables false
namespace Go.VM
def ref14_parser_stop (N : Nat) (a0 : Ref14Parser) (a1 : Int) (a2 : Int) : Option (Ref14Parser) :=
 if (a0.fail == 0) = true then
  some ((Ref14Parser.mk a0.s a0.at_ a0.nodes a2 a1))
 else
  some (a0)
def ref14_is (N : Nat) (a0 : ApiToken) (a1 : (List UInt8)) : Option (Bool) :=
 if (a0.kind == 2) = true then
  some ((a0.text == a1))
 else
  some (false)
def ref13_tail (N : Nat) (a0 : (List UInt8)) (a1 : Int) : Option ((List UInt8)) :=
 if (decide (a1 ≥ (a0.length : Int))) = true then
  some ([])
 else
  Option.bind (sub a0 a1 (a0.length : Int)) fun x1 =>
  some (x1)
def ref01_In_L1 (N : Nat) (a0 : Int) (k2 : (Unit → Option (Bool))) : List UInt8 → Option (Bool)
  | [] =>
  k2 ()
  | xk5 :: xs =>
  if ((bord xk5) == a0) = true then
   some (true)
  else
   ref01_In_L1 N a0 k2 xs 
def ref01_In (N : Nat) (a0 : Int) (a1 : (List UInt8)) : Option (Bool) :=
 joinK (fun j1 : Unit =>
  some (false)) fun k2 =>
 grd (fitsS (a1.length)) (
  ref01_In_L1 N a0 k2 a1)
def ref01_IsDigit (N : Nat) (a0 : Int) : Option (Bool) :=
 if (decide (a0 ≥ 48)) = true then
  some ((decide (a0 ≤ 57)))
 else
  some (false)
def ref13_run_L1 (N : Nat) (a0 : (List UInt8)) (k2 : (Int → Option (Int))) : Nat → Int → Option (Int)
  | 0, _ => none
  | k + 1, s3 =>
  joinK (fun j6 : Bool =>
   if j6 = true then
    ref13_run_L1 N a0 k2 k (wr .i64 (s3 + 1))
   else
    k2 s3) fun k7 =>
  if (decide (s3 < (a0.length : Int))) = true then
   Option.bind (idx a0 s3) fun x10 =>
   Option.bind (ref01_IsDigit N (bord x10)) fun y11 =>
   k7 y11
  else
   k7 false
def ref13_run (N : Nat) (a0 : (List UInt8)) : Option (Int) :=
 joinK (fun j1 : Int =>
  some (j1)) fun k2 =>
 ref13_run_L1 N a0 k2 N 0
def ref13_numeral (N : Nat) (a0 : (List UInt8)) : Option (Int) :=
 joinK (fun j1 : Int =>
  joinK (fun j10 : Bool =>
   if j10 = true then
    some (0)
   else
    joinK (fun j17 : Int =>
     joinK (fun j25 : Int =>
      joinK (fun j38 : Int =>
       some (j38)) fun k39 =>
      joinK (fun j42 : Bool =>
       if j42 = true then
        joinK (fun j49 : Int =>
         Option.bind (ref13_tail N a0 j49) fun y60 =>
         Option.bind (ref13_run N y60) fun y62 =>
         if (decide (y62 > 0)) = true then
          k39 (wr .i64 (j49 + y62))
         else
          k39 j25) fun k50 =>
        joinK (fun j53 : Bool =>
         if j53 = true then
          k50 (wr .i64 ((wr .i64 (j25 + 1)) + 1))
         else
          k50 (wr .i64 (j25 + 1))) fun k54 =>
        if (decide ((wr .i64 (j25 + 1)) < (a0.length : Int))) = true then
         Option.bind (idx a0 (wr .i64 (j25 + 1))) fun x57 =>
         Option.bind (ref01_In N (bord x57) ([43, 45] : List UInt8)) fun y58 =>
         k54 y58
        else
         k54 false
       else
        k39 j25) fun k43 =>
      if (decide (j25 < (a0.length : Int))) = true then
       Option.bind (idx a0 j25) fun x46 =>
       Option.bind (ref01_In N (bord x46) ([101, 69] : List UInt8)) fun y47 =>
       k43 y47
      else
       k43 false) fun k26 =>
     Option.bind (ref13_tail N a0 (wr .i64 (j17 + 1))) fun y29 =>
     Option.bind (ref13_run N y29) fun y31 =>
     joinK (fun j33 : Bool =>
      if j33 = true then
       k26 (wr .i64 (j17 + (wr .i64 (1 + y31))))
      else
       k26 j17) fun k34 =>
     if (decide (j17 < (a0.length : Int))) = true then
      Option.bind (idx a0 j17) fun x37 =>
      if ((bord x37) == 46) = true then
       k34 (decide (y31 > 0))
      else
       k34 false
     else
      k34 false) fun k18 =>
    Option.bind (idx a0 j1) fun x21 =>
    if ((bord x21) == 48) = true then
     k18 (wr .i64 (j1 + 1))
    else
     Option.bind (sub a0 j1 (a0.length : Int)) fun x22 =>
     Option.bind (ref13_run N x22) fun y23 =>
     k18 (wr .i64 (j1 + y23))) fun k11 =>
  if (j1 == (a0.length : Int)) = true then
   k11 true
  else
   Option.bind (idx a0 j1) fun x14 =>
   Option.bind (ref01_IsDigit N (bord x14)) fun y15 =>
   k11 (!y15)) fun k2 =>
 joinK (fun j5 : Bool =>
  if j5 = true then
   k2 (wr .i64 (0 + 1))
  else
   k2 0) fun k6 =>
 if (decide (0 < (a0.length : Int))) = true then
  Option.bind (idx a0 0) fun x9 =>
  k6 ((bord x9) == 45)
 else
  k6 false
def ref01_Index_L1 (N : Nat) (a1 : (List UInt8)) (k2 : (Unit → Option (Int))) : List UInt8 → Int → Option (Int)
  | [], s5 =>
  k2 ()
  | xk5 :: xs, s5 =>
  Option.bind (ref01_In N (bord xk5) a1) fun y6 =>
  if y6 = true then
   some (s5)
  else
   ref01_Index_L1 N a1 k2 xs (s5 + 1) 
def ref01_Index (N : Nat) (a0 : (List UInt8)) (a1 : (List UInt8)) : Option (Int) :=
 joinK (fun j1 : Unit =>
  some ((a0.length : Int))) fun k2 =>
 grd (fitsS (a0.length)) (
  ref01_Index_L1 N a1 k2 a0 0)
def ref13_exponent_L1 (N : Nat) (k19 : (Int → Option (Int))) : List UInt8 → Int → Option (Int)
  | [], s4 =>
  k19 s4
  | xk22 :: xs, s4 =>
  ref13_exponent_L1 N k19 xs (if 1073741824 < (wr .i64 ((wr .i64 (s4 * 10)) + (wr .i64 (wr .u8 ((bord xk22) - 48))))) then 1073741824 else (wr .i64 ((wr .i64 (s4 * 10)) + (wr .i64 (wr .u8 ((bord xk22) - 48))))))
def ref13_exponent (N : Nat) (a0 : (List UInt8)) : Option (Int) :=
 joinK (fun j1 : Bool =>
  joinK (fun j6 : (List UInt8) =>
   joinK (fun j18 : Int =>
    if j1 = true then
     some ((wr .i64 (0 - j18)))
    else
     some (j18)) fun k19 =>
   grd (fitsS (j6.length)) (
    ref13_exponent_L1 N k19 j6 0)) fun k7 =>
  joinK (fun j10 : Bool =>
   if j10 = true then
    Option.bind (sub a0 1 (a0.length : Int)) fun x17 =>
    k7 x17
   else
    k7 a0) fun k11 =>
  if (a0 == []) = true then
   k11 false
  else
   Option.bind (idx a0 0) fun x14 =>
   Option.bind (ref01_In N (bord x14) ([43, 45] : List UInt8)) fun y15 =>
   k11 y15) fun k2 =>
 if (a0 == []) = true then
  k2 false
 else
  Option.bind (idx a0 0) fun x5 =>
  k2 ((bord x5) == 45)
def ref04_Format_L1 (N : Nat) : Nat → Int → (List UInt8) → Option ((List UInt8))
  | 0, _, _ => none
  | k + 1, s0, s3 =>
  grd (fitsS ((List.map bchr [(wr .u8 (wr .u64 (48 + (s0.tmod 10))))]).length + s3.length)) (
  if ((wr .u64 (s0.tdiv 10)) == 0) = true then
   some (((List.map bchr [(wr .u8 (wr .u64 (48 + (s0.tmod 10))))]) ++ s3))
  else
   ref04_Format_L1 N k (wr .u64 (s0.tdiv 10)) ((List.map bchr [(wr .u8 (wr .u64 (48 + (s0.tmod 10))))]) ++ s3))
def ref04_Format (N : Nat) (a0 : Int) : Option ((List UInt8)) :=
 ref04_Format_L1 N N a0 []
def ref13_Number_L2 (N : Nat) (k40 : (Int × (List UInt8) → Option ((List UInt8) × Int))) : Nat → Int → (List UInt8) → Option ((List UInt8) × Int)
  | 0, _, _ => none
  | k + 1, s6, s7 =>
  Option.bind (idx s7 (wr .i64 ((s7.length : Int) - 1))) fun x44 =>
  if ((bord x44) == 48) = true then
   Option.bind (sub s7 0 (wr .i64 ((s7.length : Int) - 1))) fun x45 =>
   ref13_Number_L2 N k40 k (wr .i64 (s6 + 1)) x45
  else
   k40 (s6, s7)
def ref13_Number_L1 (N : Nat) (k29 : ((List UInt8) → Option ((List UInt8) × Int))) : Nat → (List UInt8) → Option ((List UInt8) × Int)
  | 0, _ => none
  | k + 1, s7 =>
  joinK (fun j33 : Bool =>
   if j33 = true then
    Option.bind (sub s7 1 (s7.length : Int)) fun x38 =>
    ref13_Number_L1 N k29 k x38
   else
    k29 s7) fun k34 =>
  if (decide ((s7.length : Int) > 0)) = true then
   Option.bind (idx s7 0) fun x37 =>
   k34 ((bord x37) == 48)
  else
   k34 false
def ref13_Number (N : Nat) (a0 : (List UInt8)) : Option ((List UInt8) × Int) :=
 joinK (fun j1 : Bool =>
  if j1 = true then
   some ([], 130)
  else
   joinK (fun j7 : (List UInt8) × (List UInt8) =>
    Option.bind (ref01_Index N j7.1 ([101, 69] : List UInt8)) fun y13 =>
    Option.bind (ref13_tail N j7.1 (wr .i64 (y13 + 1))) fun y15 =>
    Option.bind (ref13_exponent N y15) fun y17 =>
    Option.bind (sub j7.1 0 y13) fun x19 =>
    joinK (fun j20 : Int × (List UInt8) =>
     joinK (fun j28 : (List UInt8) =>
      if (j28 == []) = true then
       some (([48] : List UInt8), 0)
      else
       joinK (fun j39 : Int × (List UInt8) =>
        joinK (fun j46 : Bool =>
         if j46 = true then
          some ([], 144)
         else
          if (decide (j39.1 < 0)) = true then
           grd (fitsS (j7.2.length + j39.2.length)) (
           grd (fitsS ((j7.2 ++ j39.2).length + ([101, 45] : List UInt8).length)) (
           Option.bind (ref04_Format N (wr .u64 (wr .i64 (0 - j39.1)))) fun y50 =>
           grd (fitsS (((j7.2 ++ j39.2) ++ ([101, 45] : List UInt8)).length + y50.length)) (
           some ((((j7.2 ++ j39.2) ++ ([101, 45] : List UInt8)) ++ y50), 0))))
          else
           if (decide (j39.1 > 0)) = true then
            grd (fitsS (j7.2.length + j39.2.length)) (
            grd (fitsS ((j7.2 ++ j39.2).length + ([101] : List UInt8).length)) (
            Option.bind (ref04_Format N (wr .u64 j39.1)) fun y52 =>
            grd (fitsS (((j7.2 ++ j39.2) ++ ([101] : List UInt8)).length + y52.length)) (
            some ((((j7.2 ++ j39.2) ++ ([101] : List UInt8)) ++ y52), 0))))
           else
            grd (fitsS (j7.2.length + j39.2.length)) (
            some ((j7.2 ++ j39.2), 0))) fun k47 =>
        if (decide ((j39.2.length : Int) > 40)) = true then
         k47 true
        else
         if (decide (j39.1 > 400)) = true then
          k47 true
         else
          k47 (decide (j39.1 < (-400)))) fun k40 =>
       ref13_Number_L2 N k40 N j20.1 j28) fun k29 =>
     ref13_Number_L1 N k29 N j20.2) fun k21 =>
    Option.bind (ref01_Index N x19 ([46] : List UInt8)) fun y24 =>
    if (decide (y24 < (x19.length : Int))) = true then
     Option.bind (sub x19 0 y24) fun x26 =>
     Option.bind (sub x19 (wr .i64 (y24 + 1)) (x19.length : Int)) fun x27 =>
     grd (fitsS (x26.length + x27.length)) (
     k21 ((wr .i64 (y17 - (wr .i64 ((wr .i64 ((x19.length : Int) - y24)) - 1)))), (x26 ++ x27)))
    else
     k21 (y17, x19)) fun k8 =>
   Option.bind (idx a0 0) fun x11 =>
   if ((bord x11) == 45) = true then
    Option.bind (sub a0 1 (a0.length : Int)) fun x12 =>
    k8 (x12, ([45] : List UInt8))
   else
    k8 (a0, [])) fun k2 =>
 if (a0 == []) = true then
  k2 true
 else
  Option.bind (ref13_numeral N a0) fun y5 =>
  k2 (y5 != (a0.length : Int))
def ref14_word (N : Nat) (a0 : (List UInt8)) : Option (Int) :=
 if (a0 == ([116, 114, 117, 101] : List UInt8)) = true then
  some (3)
 else
  if (a0 == ([102, 97, 108, 115, 101] : List UInt8)) = true then
   some (2)
  else
   some (1)
def ref13_white (N : Nat) (a0 : Int) : Option (Bool) :=
 Option.bind (ref01_In N a0 ([32, 9, 10, 13] : List UInt8)) fun y1 =>
 some (y1)
def ref01_IsHex (N : Nat) (a0 : Int) : Option (Bool) :=
 Option.bind (ref01_IsDigit N a0) fun y1 =>
 if y1 = true then
  some (true)
 else
  if (decide (a0 ≥ 65)) = true then
   if (decide (a0 ≤ 70)) = true then
    some (true)
   else
    if (decide (a0 ≥ 97)) = true then
     some ((decide (a0 ≤ 102)))
    else
     some (false)
  else
   if (decide (a0 ≥ 97)) = true then
    some ((decide (a0 ≤ 102)))
   else
    some (false)
def ref04_parse_L2 (N : Nat) (a1 : Int) (a2 : Int) (k17 : (Int → Option (Int × Int))) : List UInt8 → Int → Option (Int × Int)
  | [], s9 =>
  k17 s9
  | xk20 :: xs, s9 =>
  joinK (fun j21 : Int =>
   joinK (fun j25 : Bool =>
    if j25 = true then
     some (0, 4)
    else
     ref04_parse_L2 N a1 a2 k17 xs (wr .u64 ((wr .u64 (s9 * a1)) + j21))) fun k26 =>
   grd (a1 ≠ 0) (
   if (decide (s9 > (wr .u64 (a2.tdiv a1)))) = true then
    k26 true
   else
    if (decide ((wr .u64 (s9 * a1)) > (wr .u64 (a2 - j21)))) = true then
     k26 true
    else
     k26 (decide (j21 > a2)))) fun k22 =>
  if (decide ((bord xk20) > 57)) = true then
   k22 (wr .u64 ((wr .u64 ((wr .u64 (borI .u8 (bord xk20) 32)) - 97)) + 10))
  else
   k22 (wr .u64 (wr .u8 ((bord xk20) - 48)))
def ref04_parse_L1 (N : Nat) (a1 : Int) (k2 : (Unit → Option (Int × Int))) : List UInt8 → Option (Int × Int)
  | [] =>
  k2 ()
  | xk5 :: xs =>
  joinK (fun j6 : Bool =>
   if j6 = true then
    some (0, 1)
   else
    ref04_parse_L1 N a1 k2 xs ) fun k7 =>
  if (a1 == 10) = true then
   Option.bind (ref01_IsDigit N (bord xk5)) fun y10 =>
   if y10 = true then
    if (a1 == 16) = true then
     Option.bind (ref01_IsHex N (bord xk5)) fun y12 =>
     k7 (!y12)
    else
     k7 false
   else
    k7 true
  else
   if (a1 == 16) = true then
    Option.bind (ref01_IsHex N (bord xk5)) fun y14 =>
    k7 (!y14)
   else
    k7 false
def ref04_parse (N : Nat) (a0 : (List UInt8)) (a1 : Int) (a2 : Int) : Option (Int × Int) :=
 if (a0 == []) = true then
  some (0, 3)
 else
  joinK (fun j1 : Unit =>
   joinK (fun j16 : Int =>
    some (j16, 0)) fun k17 =>
   grd (fitsS (a0.length)) (
    ref04_parse_L2 N a1 a2 k17 a0 0)) fun k2 =>
  grd (fitsS (a0.length)) (
   ref04_parse_L1 N a1 k2 a0)
def ref04_Hex (N : Nat) (a0 : (List UInt8)) (a1 : Int) : Option (Int × Int) :=
 Option.bind (ref04_parse N a0 16 a1) fun y1 =>
 some (y1.1, y1.2)
def ref13_unit (N : Nat) (a0 : (List UInt8)) (a1 : Int) : Option (Int × Bool) :=
 joinK (fun j1 : Bool =>
  if j1 = true then
   some (0, false)
  else
   Option.bind (sub a0 (wr .i64 (a1 + 2)) (wr .i64 (a1 + 6))) fun x7 =>
   Option.bind (ref04_Hex N x7 65535) fun y8 =>
   some ((wr .i64 y8.1), (y8.2 == 0))) fun k2 =>
 if (decide ((wr .i64 (a1 + 6)) > (a0.length : Int))) = true then
  k2 true
 else
  Option.bind (idx a0 a1) fun x5 =>
  if ((bord x5) != 92) = true then
   k2 true
  else
   Option.bind (idx a0 (wr .i64 (a1 + 1))) fun x6 =>
   k2 ((bord x6) != 117)
def ref02_point (N : Nat) (a0 : Int) : Option (Bool) :=
 if (decide (a0 ≥ 0)) = true then
  if (decide (a0 ≤ 1114111)) = true then
   if (decide (a0 < 55296)) = true then
    some (true)
   else
    some ((decide (a0 > 57343)))
  else
   some (false)
 else
  some (false)
def ref02_Encode (N : Nat) (a0 : Int) : Option ((List UInt8) × Int) :=
 Option.bind (ref02_point N a0) fun y1 =>
 if y1 = true then
  if (decide (a0 < 128)) = true then
   some ((List.map bchr [(wr .u8 a0)]), 0)
  else
   if (decide (a0 < 2048)) = true then
    letL ([(wr .u8 (borI .i64 192 (shrI .i64 a0 6))), (wr .u8 (borI .i64 128 (bandI .i64 a0 63)))] : (List Int)) fun l3 =>
    some ((List.map bchr l3), 0)
   else
    if (decide (a0 < 65536)) = true then
     letL ([(wr .u8 (borI .i64 224 (shrI .i64 a0 12))), (wr .u8 (borI .i64 128 (bandI .i64 (shrI .i64 a0 6) 63))), (wr .u8 (borI .i64 128 (bandI .i64 a0 63)))] : (List Int)) fun l4 =>
     some ((List.map bchr l4), 0)
    else
     letL ([(wr .u8 (borI .i64 240 (shrI .i64 a0 18))), (wr .u8 (borI .i64 128 (bandI .i64 (shrI .i64 a0 12) 63))), (wr .u8 (borI .i64 128 (bandI .i64 (shrI .i64 a0 6) 63))), (wr .u8 (borI .i64 128 (bandI .i64 a0 63)))] : (List Int)) fun l5 =>
     some ((List.map bchr l5), 0)
 else
  some ([], 4)
def ref13_escape_L1 (N : Nat) (a0 : (List UInt8)) (a1 : Int) (k2 : (Unit → Option ((List UInt8) × Int × Int))) : Nat → Nat → Option ((List UInt8) × Int × Int)
  | 0, _ => none
  | k + 1, s20 =>
  if (decide (s20 < 8)) = true then
   Option.bind (idx ([34, 92, 47, 98, 102, 110, 114, 116] : List UInt8) ((s20 : Nat) : Int)) fun x6 =>
   Option.bind (idx a0 (wr .i64 (a1 + 1))) fun x7 =>
   if ((bord x6) == (bord x7)) = true then
    Option.bind (sub ([34, 92, 47, 8, 12, 10, 13, 9] : List UInt8) ((s20 : Nat) : Int) (wr .i64 (((s20 : Nat) : Int) + 1))) fun x8 =>
    some (x8, (wr .i64 (a1 + 2)), 0)
   else
    ref13_escape_L1 N a0 a1 k2 k (s20 + (decodeAt ([34, 92, 47, 98, 102, 110, 114, 116] : List UInt8) s20).2)
  else
   k2 ()
def ref13_escape (N : Nat) (a0 : (List UInt8)) (a1 : Int) : Option ((List UInt8) × Int × Int) :=
 joinK (fun j1 : Unit =>
  Option.bind (ref13_unit N a0 a1) fun y9 =>
  if y9.2 = true then
   joinK (fun j11 : Bool =>
    if j11 = true then
     Option.bind (ref02_Encode N y9.1) fun y15 =>
     some (y15.1, (wr .i64 (a1 + 6)), 0)
    else
     Option.bind (ref13_unit N a0 (wr .i64 (a1 + 6))) fun y17 =>
     joinK (fun j19 : Bool =>
      if j19 = true then
       some ([], 0, 7)
      else
       Option.bind (ref02_Encode N (wr .i64 ((wr .i64 ((wr .i64 (65536 + (wr .i64 ((wr .i64 (y9.1 - 55296)) * 1024)))) + y17.1)) - 56320))) fun y23 =>
       some (y23.1, (wr .i64 (a1 + 12)), 0)) fun k20 =>
     if (decide (y9.1 > 56319)) = true then
      k20 true
     else
      if y17.2 = true then
       if (decide (y17.1 < 56320)) = true then
        k20 true
       else
        k20 (decide (y17.1 > 57343))
      else
       k20 true) fun k12 =>
   if (decide (y9.1 < 55296)) = true then
    k12 true
   else
    k12 (decide (y9.1 > 57343))
  else
   some ([], 0, 130)) fun k2 =>
 if (decide ((wr .i64 (a1 + 1)) < (a0.length : Int))) = true then
  ref13_escape_L1 N a0 a1 k2 N 0
 else
  k2 ()
def ref02_value_L1 (N : Nat) (a0 : (List UInt8)) (k4 : (Int → Option (Int))) : Nat → Int → Int → Option (Int)
  | 0, s4, s3 =>
  k4 s3
  | k + 1, s4, s3 =>
  Option.bind (idx a0 s4) fun x8 =>
  ref02_value_L1 N a0 k4 k (s4 + 1) (borI .i64 (shlI .i64 s3 6) (bandI .i64 (wr .i64 (bord x8)) 63))
def ref02_value (N : Nat) (a0 : (List UInt8)) : Option (Int) :=
 if ((a0.length : Int) == 1) = true then
  Option.bind (idx a0 0) fun x1 =>
  some ((wr .i64 (bord x1)))
 else
  Option.bind (idx a0 0) fun x2 =>
  grd (¬ (wr .i64 (7 - (a0.length : Int))) < 0) (
  joinK (fun j3 : Int =>
   some (j3)) fun k4 =>
  grd ((-4611686018427387904 : Int) ≤ 1 ∧ ((a0.length : Int) : Int) ≤ 4611686018427387904) (
   ref02_value_L1 N a0 k4 (((a0.length : Int) : Int) - 1).toNat 1 (bandI .i64 (wr .i64 (bord x2)) (wr .i64 ((shlI .i64 1 (wr .i64 (7 - (a0.length : Int)))) - 1)))))
def ref02_Decode_L1 (N : Nat) (a0 : (List UInt8)) (a1 : Int) (k6 : (Unit → Option (Int × Int × Int))) : Nat → Int → Option (Int × Int × Int)
  | 0, _ => none
  | k + 1, s7 =>
  joinK (fun j10 : Bool =>
   if j10 = true then
    Option.bind (sub a0 a1 (wr .i64 (a1 + s7))) fun x14 =>
    Option.bind (ref02_value N x14) fun y15 =>
    Option.bind (ref02_Encode N y15) fun y17 =>
    joinK (fun j19 : Bool =>
     if j19 = true then
      some (y15, (wr .i64 (a1 + s7)), 0)
     else
      ref02_Decode_L1 N a0 a1 k6 k (wr .i64 (s7 + 1))) fun k20 =>
    if (y17.2 == 0) = true then
     k20 (y17.1 == x14)
    else
     k20 false
   else
    k6 ()) fun k11 =>
  if (decide (s7 ≤ 4)) = true then
   k11 (decide ((wr .i64 (a1 + s7)) ≤ (a0.length : Int)))
  else
   k11 false
def ref02_Decode (N : Nat) (a0 : (List UInt8)) (a1 : Int) : Option (Int × Int × Int) :=
 joinK (fun j1 : Bool =>
  if j1 = true then
   some (0, 0, 4)
  else
   joinK (fun j5 : Unit =>
    some (0, 0, 7)) fun k6 =>
   ref02_Decode_L1 N a0 a1 k6 N 1) fun k2 =>
 if (decide (a1 < 0)) = true then
  k2 true
 else
  k2 (decide (a1 ≥ (a0.length : Int)))
def ref13_text_L1 (N : Nat) (a0 : (List UInt8)) (k2 : (Unit → Option ((List UInt8) × Int × Int))) : Nat → (List UInt8) → Int → Option ((List UInt8) × Int × Int)
  | 0, _, _ => none
  | k + 1, s7, s8 =>
  if (decide (s8 < (a0.length : Int))) = true then
   Option.bind (idx a0 s8) fun x6 =>
   if ((bord x6) == 34) = true then
    some (s7, (wr .i64 (s8 + 1)), 0)
   else
    if ((bord x6) == 92) = true then
     Option.bind (ref13_escape N a0 s8) fun y7 =>
     if (y7.2.2 != 0) = true then
      some ([], 0, y7.2.2)
     else
      grd (fitsS (s7.length + y7.1.length)) (
      ref13_text_L1 N a0 k2 k (s7 ++ y7.1) y7.2.1)
    else
     if (decide ((bord x6) < 32)) = true then
      some ([], 0, 130)
     else
      Option.bind (ref02_Decode N a0 s8) fun y9 =>
      if (y9.2.2 != 0) = true then
       some ([], 0, y9.2.2)
      else
       Option.bind (sub a0 s8 y9.2.1) fun x11 =>
       grd (fitsS (s7.length + x11.length)) (
       ref13_text_L1 N a0 k2 k (s7 ++ x11) y9.2.1)
  else
   k2 ()
def ref13_text (N : Nat) (a0 : (List UInt8)) (a1 : Int) : Option ((List UInt8) × Int × Int) :=
 joinK (fun j1 : Unit =>
  some ([], 0, 130)) fun k2 =>
 ref13_text_L1 N a0 k2 N [] (wr .i64 (a1 + 1))
def ref01_IsAlpha (N : Nat) (a0 : Int) : Option (Bool) :=
 if (decide (a0 ≥ 65)) = true then
  if (decide (a0 ≤ 90)) = true then
   some (true)
  else
   if (decide (a0 ≥ 97)) = true then
    some ((decide (a0 ≤ 122)))
   else
    some (false)
 else
  if (decide (a0 ≥ 97)) = true then
   some ((decide (a0 ≤ 122)))
  else
   some (false)
def ref13_Next_L2 (N : Nat) (a0 : (List UInt8)) (j5 : Int) (k34 : (Int → Option (ApiToken × Int × Int))) : Nat → Int → Option (ApiToken × Int × Int)
  | 0, _ => none
  | k + 1, s12 =>
  joinK (fun j38 : Bool =>
   if j38 = true then
    ref13_Next_L2 N a0 j5 k34 k (wr .i64 (s12 + 1))
   else
    k34 s12) fun k39 =>
  if (decide ((wr .i64 (j5 + s12)) < (a0.length : Int))) = true then
   Option.bind (idx a0 (wr .i64 (j5 + s12))) fun x42 =>
   Option.bind (ref01_IsAlpha N (bord x42)) fun y43 =>
   k39 y43
  else
   k39 false
def ref13_Next_L1 (N : Nat) (a0 : (List UInt8)) (k6 : (Int → Option (ApiToken × Int × Int))) : Nat → Int → Option (ApiToken × Int × Int)
  | 0, _ => none
  | k + 1, s1 =>
  joinK (fun j10 : Bool =>
   if j10 = true then
    ref13_Next_L1 N a0 k6 k (wr .i64 (s1 + 1))
   else
    k6 s1) fun k11 =>
  if (decide (s1 < (a0.length : Int))) = true then
   Option.bind (idx a0 s1) fun x14 =>
   Option.bind (ref13_white N (bord x14)) fun y15 =>
   k11 y15
  else
   k11 false
def ref13_Next (N : Nat) (a0 : (List UInt8)) (a1 : Int) : Option (ApiToken × Int × Int) :=
 joinK (fun j1 : Bool =>
  if j1 = true then
   some ((ApiToken.mk 0 [] 0), 0, 4)
  else
   joinK (fun j5 : Int =>
    if (j5 == (a0.length : Int)) = true then
     some ((ApiToken.mk 1 [] j5), j5, 0)
    else
     Option.bind (idx a0 j5) fun x17 =>
     Option.bind (ref01_In N (bord x17) ([123, 125, 91, 93, 58, 44] : List UInt8)) fun y18 =>
     if y18 = true then
      Option.bind (sub a0 j5 (wr .i64 (j5 + 1))) fun x20 =>
      some ((ApiToken.mk 2 x20 j5), (wr .i64 (j5 + 1)), 0)
     else
      if ((bord x17) == 34) = true then
       Option.bind (ref13_text N a0 j5) fun y21 =>
       if (y21.2.2 != 0) = true then
        some ((ApiToken.mk 0 [] 0), 0, y21.2.2)
       else
        some ((ApiToken.mk 3 y21.1 j5), y21.2.1, 0)
      else
       joinK (fun j23 : Bool =>
        if j23 = true then
         Option.bind (sub a0 j5 (a0.length : Int)) fun x29 =>
         Option.bind (ref13_numeral N x29) fun y30 =>
         if (y30 == 0) = true then
          some ((ApiToken.mk 0 [] 0), 0, 130)
         else
          Option.bind (sub a0 j5 (wr .i64 (j5 + y30))) fun x32 =>
          some ((ApiToken.mk 4 x32 j5), (wr .i64 (j5 + y30)), 0)
        else
         joinK (fun j33 : Int =>
          Option.bind (sub a0 j5 (wr .i64 (j5 + j33))) fun x45 =>
          joinK (fun j46 : Bool =>
           if j46 = true then
            some ((ApiToken.mk 5 x45 j5), (wr .i64 (j5 + j33)), 0)
           else
            some ((ApiToken.mk 0 [] 0), 0, 130)) fun k47 =>
          if (x45 == ([116, 114, 117, 101] : List UInt8)) = true then
           k47 true
          else
           if (x45 == ([102, 97, 108, 115, 101] : List UInt8)) = true then
            k47 true
           else
            k47 (x45 == ([110, 117, 108, 108] : List UInt8))) fun k34 =>
         ref13_Next_L2 N a0 j5 k34 N 0) fun k24 =>
       if ((bord x17) == 45) = true then
        k24 true
       else
        Option.bind (ref01_IsDigit N (bord x17)) fun y27 =>
        k24 y27) fun k6 =>
   ref13_Next_L1 N a0 k6 N a1) fun k2 =>
 if (decide (a1 < 0)) = true then
  k2 true
 else
  k2 (decide (a1 > (a0.length : Int)))
def ref14_parser_next (N : Nat) (a0 : Ref14Parser) : Option (ApiToken × Ref14Parser) :=
 if (a0.fail != 0) = true then
  some ((ApiToken.mk 0 [] 0), a0)
 else
  joinK (fun j2 : Int × Int × ApiToken =>
   if (j2.2.1 != 0) = true then
    Option.bind (ref14_parser_stop N a0 a0.at_ j2.2.1) fun y8 =>
    some ((ApiToken.mk 0 [] 0), y8)
   else
    some (j2.2.2, (Ref14Parser.mk a0.s j2.1 a0.nodes a0.fail a0.where_))) fun k3 =>
  Option.bind (ref13_Next N a0.s a0.at_) fun y6 =>
  k3 (y6.2.1, y6.2.2, y6.1)
def ref14_Get_L1 (N : Nat) (a0 : ApiValue) (a1 : (List UInt8)) (k2 : (Unit → Option (ApiValue × Bool))) : List (List UInt8) → Int → Option (ApiValue × Bool)
  | [], s14 =>
  k2 ()
  | xk5 :: xs, s14 =>
  joinK (fun j6 : Bool =>
   if j6 = true then
    Option.bind (idx a0.items s14) fun x10 =>
    some (x10, true)
   else
    ref14_Get_L1 N a0 a1 k2 xs (s14 + 1) ) fun k7 =>
  if (xk5 == a1) = true then
   k7 (decide (s14 < (a0.items.length : Int)))
  else
   k7 false
def ref14_Get (N : Nat) (a0 : ApiValue) (a1 : (List UInt8)) : Option (ApiValue × Bool) :=
 if (a0.kind != 7) = true then
  some ((ApiValue.mk 0 [] [] []), false)
 else
  joinK (fun j1 : Unit =>
   some ((ApiValue.mk 0 [] [] []), false)) fun k2 =>
  grd (fitsS (a0.keys.length)) (
   ref14_Get_L1 N a0 a1 k2 a0.keys 0)
def ref14_parser_array_L1 (N : Nat) (a1 : Int) (rec_ref14_parser_value : (Ref14Parser → ApiToken → Int → Option (ApiValue × Ref14Parser))) (k6 : (ApiToken × (List ApiValue) × Ref14Parser → Option (ApiValue × Ref14Parser))) : Nat → ApiToken → (List ApiValue) → Ref14Parser → Option (ApiValue × Ref14Parser)
  | 0, _, _, _ => none
  | k + 1, bn2, bn1_items, bi0 =>
  if (bi0.fail == 0) = true then
   joinK (fun j10 : (List ApiValue) × Ref14Parser =>
    Option.bind (ref14_parser_next N j10.2) fun y16 =>
    Option.bind (ref14_is N y16.1 ([93] : List UInt8)) fun y18 =>
    if y18 = true then
     some ((ApiValue.mk 6 [] [] j10.1), y16.2)
    else
     joinK (fun j20 : Ref14Parser =>
      Option.bind (ref14_parser_next N j20) fun y32 =>
      ref14_parser_array_L1 N a1 rec_ref14_parser_value k6 k y32.1 j10.1 y32.2) fun k21 =>
     joinK (fun j24 : Bool =>
      if j24 = true then
       Option.bind (ref14_parser_stop N y16.2 y16.1.at_ 140) fun y30 =>
       k21 y30
      else
       k21 y16.2) fun k25 =>
     if (y16.2.fail == 0) = true then
      Option.bind (ref14_is N y16.1 ([44] : List UInt8)) fun y28 =>
      k25 (!y28)
     else
      k25 false) fun k11 =>
   Option.bind (rec_ref14_parser_value bi0 bn2 a1) fun y14 =>
   grd (fitsA (bn1_items.length + 1) 72) (
   k11 ((bn1_items ++ [y14.1]), y14.2))
  else
   k6 (bn2, bn1_items, bi0)
def ref14_parser_object_L1 (N : Nat) (a1 : Int) (rec_ref14_parser_value : (Ref14Parser → ApiToken → Int → Option (ApiValue × Ref14Parser))) (k6 : (ApiToken × (List (List UInt8)) × (List ApiValue) × Ref14Parser → Option (ApiValue × Ref14Parser))) : Nat → ApiToken → (List (List UInt8)) → (List ApiValue) → Ref14Parser → Option (ApiValue × Ref14Parser)
  | 0, _, _, _, _ => none
  | k + 1, bn2, bn1_keys, bn1_items, bi0 =>
  if (bi0.fail == 0) = true then
   joinK (fun j10 : Ref14Parser =>
    joinK (fun j16 : Ref14Parser =>
     joinK (fun j24 : ApiToken × Ref14Parser =>
      Option.bind (ref14_parser_next N j24.2) fun y38 =>
      Option.bind (rec_ref14_parser_value y38.2 y38.1 a1) fun y40 =>
      grd (fitsA (bn1_keys.length + 1) 16) (
      grd (fitsA (bn1_items.length + 1) 72) (
      Option.bind (ref14_parser_next N y40.2) fun y42 =>
      Option.bind (ref14_is N y42.1 ([125] : List UInt8)) fun y44 =>
      if y44 = true then
       some ((ApiValue.mk 7 [] (bn1_keys ++ [bn2.text]) (bn1_items ++ [y40.1])), y42.2)
      else
       joinK (fun j46 : Ref14Parser =>
        Option.bind (ref14_parser_next N j46) fun y58 =>
        ref14_parser_object_L1 N a1 rec_ref14_parser_value k6 k y58.1 (bn1_keys ++ [bn2.text]) (bn1_items ++ [y40.1]) y58.2) fun k47 =>
       joinK (fun j50 : Bool =>
        if j50 = true then
         Option.bind (ref14_parser_stop N y42.2 y42.1.at_ 140) fun y56 =>
         k47 y56
        else
         k47 y42.2) fun k51 =>
       if (y42.2.fail == 0) = true then
        Option.bind (ref14_is N y42.1 ([44] : List UInt8)) fun y54 =>
        k51 (!y54)
       else
        k51 false))) fun k25 =>
     Option.bind (ref14_parser_next N j16) fun y28 =>
     joinK (fun j30 : Bool =>
      if j30 = true then
       Option.bind (ref14_parser_stop N y28.2 y28.1.at_ 140) fun y36 =>
       k25 (y28.1, y36)
      else
       k25 (y28.1, y28.2)) fun k31 =>
     if (y28.2.fail == 0) = true then
      Option.bind (ref14_is N y28.1 ([58] : List UInt8)) fun y34 =>
      k31 (!y34)
     else
      k31 false) fun k17 =>
    Option.bind (ref14_Get N (ApiValue.mk 7 [] bn1_keys bn1_items) bn2.text) fun y20 =>
    if y20.2 = true then
     Option.bind (ref14_parser_stop N j10 bn2.at_ 143) fun y22 =>
     k17 y22
    else
     k17 j10) fun k11 =>
   if (bn2.kind != 3) = true then
    Option.bind (ref14_parser_stop N bi0 bn2.at_ 140) fun y14 =>
    k11 y14
   else
    k11 bi0
  else
   k6 (bn2, bn1_keys, bn1_items, bi0)
mutual
def ref14_parser_array (N : Nat) : Nat → Ref14Parser → Int → Option (ApiValue × Ref14Parser)
  | 0, _, _ => none
  | D + 1, a0, a1 =>
  Option.bind (ref14_parser_next N a0) fun y1 =>
  Option.bind (ref14_is N y1.1 ([93] : List UInt8)) fun y3 =>
  if y3 = true then
   some ((ApiValue.mk 6 [] [] []), y1.2)
  else
   joinK (fun j5 : ApiToken × (List ApiValue) × Ref14Parser =>
    some ((ApiValue.mk 6 [] [] j5.2.1), j5.2.2)) fun k6 =>
   ref14_parser_array_L1 N a1 (ref14_parser_value N D) k6 N y1.1 [] y1.2
def ref14_parser_object (N : Nat) : Nat → Ref14Parser → Int → Option (ApiValue × Ref14Parser)
  | 0, _, _ => none
  | D + 1, a0, a1 =>
  Option.bind (ref14_parser_next N a0) fun y1 =>
  Option.bind (ref14_is N y1.1 ([125] : List UInt8)) fun y3 =>
  if y3 = true then
   some ((ApiValue.mk 7 [] [] []), y1.2)
  else
   joinK (fun j5 : ApiToken × (List (List UInt8)) × (List ApiValue) × Ref14Parser =>
    some ((ApiValue.mk 7 [] j5.2.1 j5.2.2.1), j5.2.2.2)) fun k6 =>
   ref14_parser_object_L1 N a1 (ref14_parser_value N D) k6 N y1.1 [] [] y1.2
def ref14_parser_value (N : Nat) : Nat → Ref14Parser → ApiToken → Int → Option (ApiValue × Ref14Parser)
  | 0, _, _, _ => none
  | D + 1, a0, a1, a2 =>
  joinK (fun j1 : Bool =>
   if (a0.fail != 0) = true then
    some ((ApiValue.mk 0 [] [] []), a0)
   else
    if j1 = true then
     joinK (fun j9 : Bool =>
      if j9 = true then
       Option.bind (ref14_parser_stop N a0 a1.at_ 141) fun y13 =>
       some ((ApiValue.mk 0 [] [] []), y13)
      else
       joinK (fun j15 : Int × (List UInt8) × Ref14Parser =>
        joinK (fun j27 : (List UInt8) × Int × Int × Int × Int =>
         if (a1.kind == 5) = true then
          Option.bind (ref14_word N a1.text) fun y33 =>
          some ((ApiValue.mk y33 [] [] []), (Ref14Parser.mk j27.1 j27.2.1 j27.2.2.1 j27.2.2.2.1 j27.2.2.2.2))
         else
          Option.bind (ref14_is N a1 ([91] : List UInt8)) fun y35 =>
          if y35 = true then
           Option.bind ((ref14_parser_array N D) (Ref14Parser.mk j27.1 j27.2.1 j27.2.2.1 j27.2.2.2.1 j27.2.2.2.2) (wr .i64 (a2 + 1))) fun y37 =>
           some (y37.1, y37.2)
          else
           Option.bind (ref14_is N a1 ([123] : List UInt8)) fun y39 =>
           if y39 = true then
            Option.bind ((ref14_parser_object N D) (Ref14Parser.mk j27.1 j27.2.1 j27.2.2.1 j27.2.2.2.1 j27.2.2.2.2) (wr .i64 (a2 + 1))) fun y41 =>
            some (y41.1, y41.2)
           else
            some ((ApiValue.mk j15.1 j15.2.1 [] []), (Ref14Parser.mk j27.1 j27.2.1 j27.2.2.1 j27.2.2.2.1 j27.2.2.2.2))) fun k28 =>
        if (decide ((wr .i64 (j15.2.2.nodes + 1)) > 20000)) = true then
         Option.bind (ref14_parser_stop N (Ref14Parser.mk j15.2.2.s j15.2.2.at_ (wr .i64 (j15.2.2.nodes + 1)) j15.2.2.fail j15.2.2.where_) a1.at_ 142) fun y31 =>
         k28 (y31.s, y31.at_, y31.nodes, y31.fail, y31.where_)
        else
         k28 (j15.2.2.s, j15.2.2.at_, (wr .i64 (j15.2.2.nodes + 1)), j15.2.2.fail, j15.2.2.where_)) fun k16 =>
       if (a1.kind == 4) = true then
        Option.bind (ref13_Number N a1.text) fun y19 =>
        joinK (fun j21 : Ref14Parser =>
         k16 (4, y19.1, j21)) fun k22 =>
        if (y19.2 != 0) = true then
         Option.bind (ref14_parser_stop N a0 a1.at_ y19.2) fun y25 =>
         k22 y25
        else
         k22 a0
       else
        k16 (5, a1.text, a0)) fun k10 =>
     if (a1.kind == 2) = true then
      k10 (a2 == 64)
     else
      k10 false
    else
     Option.bind (ref14_parser_stop N a0 a1.at_ 140) fun y43 =>
     some ((ApiValue.mk 0 [] [] []), y43)) fun k2 =>
  if (a1.kind == 3) = true then
   k2 true
  else
   if (a1.kind == 4) = true then
    k2 true
   else
    if (a1.kind == 5) = true then
     k2 true
    else
     Option.bind (ref14_is N a1 ([91] : List UInt8)) fun y5 =>
     if y5 = true then
      k2 true
     else
      Option.bind (ref14_is N a1 ([123] : List UInt8)) fun y7 =>
      k2 y7
end
def ref14_Parse (N : Nat) (a0 : (List UInt8)) : Option (ApiValue × Int × Int) :=
 if (decide ((a0.length : Int) > 1048576)) = true then
  some ((ApiValue.mk 0 [] [] []), 0, 142)
 else
  Option.bind (ref14_parser_next N (Ref14Parser.mk a0 0 0 0 0)) fun y1 =>
  Option.bind (ref14_parser_value N N y1.2 y1.1 0) fun y3 =>
  joinK (fun j5 : Ref14Parser =>
   if (j5.fail != 0) = true then
    some ((ApiValue.mk 0 [] [] []), j5.where_, j5.fail)
   else
    some (y3.1, (a0.length : Int), 0)) fun k6 =>
  Option.bind (ref14_parser_next N y3.2) fun y9 =>
  joinK (fun j11 : Bool =>
   if j11 = true then
    Option.bind (ref14_parser_stop N y9.2 y9.1.at_ 140) fun y15 =>
    k6 y15
   else
    k6 y9.2) fun k12 =>
  if (y9.2.fail == 0) = true then
   k12 (y9.1.kind != 1)
  else
   k12 false
def jrd_decoder_fail (N : Nat) (a0 : JrdDecoder) (a1 : Int) : Option (JrdDecoder) :=
 if (a0.e == 0) = true then
  some ((JrdDecoder.mk a1))
 else
  some (a0)
def jrd_decoder_text (N : Nat) (a0 : JrdDecoder) (a1 : ApiValue) : Option ((List UInt8) × JrdDecoder) :=
 if (a1.kind != 5) = true then
  Option.bind (jrd_decoder_fail N a0 160) fun y1 =>
  some ([], y1)
 else
  some (a1.text, a0)
def jsondoc_Get_L1 (N : Nat) (a0 : ApiValue) (a1 : (List UInt8)) (k2 : (Unit → Option (ApiValue × Bool))) : List (List UInt8) → Int → Option (ApiValue × Bool)
  | [], s11 =>
  k2 ()
  | xk5 :: xs, s11 =>
  joinK (fun j6 : Bool =>
   if j6 = true then
    Option.bind (idx a0.items s11) fun x10 =>
    some (x10, true)
   else
    jsondoc_Get_L1 N a0 a1 k2 xs (s11 + 1) ) fun k7 =>
  if (a0.kind == 7) = true then
   if (decide (s11 < (a0.items.length : Int))) = true then
    k7 (xk5 == a1)
   else
    k7 false
  else
   k7 false
def jsondoc_Get (N : Nat) (a0 : ApiValue) (a1 : (List UInt8)) : Option (ApiValue × Bool) :=
 joinK (fun j1 : Unit =>
  some ((ApiValue.mk 0 [] [] []), false)) fun k2 =>
 grd (fitsS (a0.keys.length)) (
  jsondoc_Get_L1 N a0 a1 k2 a0.keys 0)
def jrd_decoder_member (N : Nat) (a0 : JrdDecoder) (a1 : ApiValue) (a2 : (List UInt8)) : Option ((List UInt8) × JrdDecoder) :=
 Option.bind (jsondoc_Get N a1 a2) fun y1 =>
 if y1.2 = true then
  Option.bind (jrd_decoder_text N a0 y1.1) fun y3 =>
  some (y3.1, y3.2)
 else
  some ([], a0)
def jrd_count (N : Nat) (a0 : ApiValue) : Option (Int) :=
 if (a0.kind == 7) = true then
  some ((if (a0.items.length : Int) < (a0.keys.length : Int) then (a0.items.length : Int) else (a0.keys.length : Int)))
 else
  some ((a0.items.length : Int))
def jrd_decoder_items (N : Nat) (a0 : JrdDecoder) (a1 : ApiValue) (a2 : (List UInt8)) (a3 : Int) (a4 : Int) : Option (ApiValue × JrdDecoder) :=
 Option.bind (jsondoc_Get N a1 a2) fun y1 =>
 joinK (fun j3 : Bool =>
  if j3 = true then
   some ((ApiValue.mk 0 [] [] []), a0)
  else
   if (y1.1.kind != a3) = true then
    Option.bind (jrd_decoder_fail N a0 160) fun y7 =>
    some ((ApiValue.mk 0 [] [] []), y7)
   else
    Option.bind (jrd_count N y1.1) fun y9 =>
    if (decide (y9 > a4)) = true then
     Option.bind (jrd_decoder_fail N a0 161) fun y11 =>
     some ((ApiValue.mk 0 [] [] []), y11)
    else
     some (y1.1, a0)) fun k4 =>
 if y1.2 = true then
  k4 (a0.e != 0)
 else
  k4 true
def jrd_decoder_properties_L1 (N : Nat) (a3 : Bool) (y1 : ApiValue × JrdDecoder) (k4 : ((List ApiProperty) × JrdDecoder → Option ((List ApiProperty) × JrdDecoder))) : List ApiValue → Int → (List ApiProperty) → JrdDecoder → Option ((List ApiProperty) × JrdDecoder)
  | [], s21, s9, bi0 =>
  k4 (s9, bi0)
  | xk7 :: xs, s21, s9, bi0 =>
  if (decide (s21 ≥ (y1.1.keys.length : Int))) = true then
   k4 (s9, bi0)
  else
   Option.bind (idx y1.1.keys s21) fun x8 =>
   joinK (fun j9 : (List UInt8) × Bool × JrdDecoder =>
    grd (fitsA (s9.length + 1) 40) (
    jrd_decoder_properties_L1 N a3 y1 k4 xs (s21 + 1) (s9 ++ [(ApiProperty.mk x8 j9.1 j9.2.1)]) j9.2.2)) fun k10 =>
   joinK (fun j13 : Bool =>
    if j13 = true then
     k10 ([], true, bi0)
    else
     Option.bind (jrd_decoder_text N bi0 xk7) fun y17 =>
     k10 (y17.1, false, y17.2)) fun k14 =>
   if a3 = true then
    k14 (xk7.kind == 1)
   else
    k14 false
def jrd_decoder_properties (N : Nat) (a0 : JrdDecoder) (a1 : ApiValue) (a2 : (List UInt8)) (a3 : Bool) : Option ((List ApiProperty) × JrdDecoder) :=
 Option.bind (jrd_decoder_items N a0 a1 a2 7 64) fun y1 =>
 joinK (fun j3 : (List ApiProperty) × JrdDecoder =>
  some (j3.1, j3.2)) fun k4 =>
 grd (fitsS (y1.1.items.length)) (
  jrd_decoder_properties_L1 N a3 y1 k4 y1.1.items 0 [] y1.2)
def jrd_decoder_link (N : Nat) (a0 : JrdDecoder) (a1 : ApiValue) : Option (ApiLink × JrdDecoder) :=
 joinK (fun j1 : JrdDecoder =>
  Option.bind (jrd_decoder_member N j1 a1 ([114, 101, 108] : List UInt8)) fun y9 =>
  Option.bind (jrd_decoder_member N y9.2 a1 ([116, 121, 112, 101] : List UInt8)) fun y11 =>
  Option.bind (jrd_decoder_member N y11.2 a1 ([104, 114, 101, 102] : List UInt8)) fun y13 =>
  Option.bind (jrd_decoder_member N y13.2 a1 ([116, 101, 109, 112, 108, 97, 116, 101] : List UInt8)) fun y15 =>
  Option.bind (jrd_decoder_properties N y15.2 a1 ([116, 105, 116, 108, 101, 115] : List UInt8) false) fun y17 =>
  Option.bind (jrd_decoder_properties N y17.2 a1 ([112, 114, 111, 112, 101, 114, 116, 105, 101, 115] : List UInt8) true) fun y19 =>
  some ((ApiLink.mk y9.1 y11.1 y13.1 y15.1 y17.1 y19.1), y19.2)) fun k2 =>
 Option.bind (jsondoc_Get N a1 ([114, 101, 108] : List UInt8)) fun y5 =>
 if y5.2 = true then
  k2 a0
 else
  Option.bind (jrd_decoder_fail N a0 160) fun y7 =>
  k2 y7
def jrd_Decode_L2 (N : Nat) (k19 : ((List ApiLink) × JrdDecoder → Option (ApiJRD × Int))) : List ApiValue → (List ApiLink) → JrdDecoder → Option (ApiJRD × Int)
  | [], bn3_links, bn2 =>
  k19 (bn3_links, bn2)
  | xk24 :: xs, bn3_links, bn2 =>
  joinK (fun j25 : (List ApiLink) × JrdDecoder =>
   jrd_Decode_L2 N k19 xs j25.1 j25.2) fun k26 =>
  Option.bind (jrd_decoder_link N bn2 xk24) fun y29 =>
  grd (fitsA (bn3_links.length + 1) 112) (
  k26 ((bn3_links ++ [y29.1]), y29.2))
def jrd_Decode_L1 (N : Nat) (k4 : ((List (List UInt8)) × JrdDecoder → Option (ApiJRD × Int))) : List ApiValue → (List (List UInt8)) → JrdDecoder → Option (ApiJRD × Int)
  | [], bn3_aliases, bn2 =>
  k4 (bn3_aliases, bn2)
  | xk9 :: xs, bn3_aliases, bn2 =>
  joinK (fun j10 : (List (List UInt8)) × JrdDecoder =>
   jrd_Decode_L1 N k4 xs j10.1 j10.2) fun k11 =>
  Option.bind (jrd_decoder_text N bn2 xk9) fun y14 =>
  grd (fitsA (bn3_aliases.length + 1) 16) (
  k11 ((bn3_aliases ++ [y14.1]), y14.2))
def jrd_Decode (N : Nat) (a0 : ApiValue) : Option (ApiJRD × Int) :=
 if (a0.kind != 7) = true then
  some ((ApiJRD.mk [] [] [] []), 160)
 else
  Option.bind (jrd_decoder_member N (JrdDecoder.mk 0) a0 ([115, 117, 98, 106, 101, 99, 116] : List UInt8)) fun y1 =>
  joinK (fun j3 : (List (List UInt8)) × JrdDecoder =>
   Option.bind (jrd_decoder_properties N j3.2 a0 ([112, 114, 111, 112, 101, 114, 116, 105, 101, 115] : List UInt8) true) fun y16 =>
   joinK (fun j18 : (List ApiLink) × JrdDecoder =>
    if (j18.2.e != 0) = true then
     some ((ApiJRD.mk [] [] [] []), j18.2.e)
    else
     some ((ApiJRD.mk y1.1 j3.1 y16.1 j18.1), 0)) fun k19 =>
   Option.bind (jrd_decoder_items N y16.2 a0 ([108, 105, 110, 107, 115] : List UInt8) 6 64) fun y22 =>
   grd (fitsS (y22.1.items.length)) (
    jrd_Decode_L2 N k19 y22.1.items [] y22.2)) fun k4 =>
  Option.bind (jrd_decoder_items N y1.2 a0 ([97, 108, 105, 97, 115, 101, 115] : List UInt8) 6 64) fun y7 =>
  grd (fitsS (y7.1.items.length)) (
   jrd_Decode_L1 N k4 y7.1.items [] y7.2)
def jrd_Find_L1 (N : Nat) (a1 : (List UInt8)) (k2 : ((List ApiLink) → Option ((List ApiLink)))) : List ApiLink → (List ApiLink) → Option ((List ApiLink))
  | [], s5 =>
  k2 s5
  | xk5 :: xs, s5 =>
  joinK (fun j6 : (List ApiLink) =>
   jrd_Find_L1 N a1 k2 xs j6) fun k7 =>
  if (xk5.rel == a1) = true then
   grd (fitsA (([] : List ApiProperty).length + xk5.titles.length) 40) (
   grd (fitsA (([] : List ApiProperty).length + xk5.properties.length) 40) (
   grd (fitsA (s5.length + 1) 112) (
   k7 (s5 ++ [xk5]))))
  else
   k7 s5
def jrd_Find (N : Nat) (a0 : ApiJRD) (a1 : (List UInt8)) : Option ((List ApiLink)) :=
 joinK (fun j1 : (List ApiLink) =>
  some (j1)) fun k2 =>
 grd (fitsS (a0.links.length)) (
  jrd_Find_L1 N a1 k2 a0.links [])
def law16_sane (N : Nat)  : Option (Bool) :=
 Option.bind (ref14_Parse N ([123, 34, 115, 117, 98, 106, 101, 99, 116, 34, 58, 34, 97, 99, 99, 116, 58, 97, 64, 98, 46, 101, 120, 97, 109, 112, 108, 101, 34, 44, 34, 108, 105, 110, 107, 115, 34, 58, 91, 123, 34, 114, 101, 108, 34, 58, 34, 115, 101, 108, 102, 34, 44, 34, 104, 114, 101, 102, 34, 58, 34, 104, 116, 116, 112, 115, 58, 47, 47, 98, 46, 101, 120, 97, 109, 112, 108, 101, 47, 97, 34, 125, 93, 125] : List UInt8)) fun y1 =>
 Option.bind (ref14_Parse N ([123, 34, 108, 105, 110, 107, 115, 34, 58, 91, 123, 125, 93, 125] : List UInt8)) fun y3 =>
 Option.bind (jrd_Decode N y1.1) fun y5 =>
 Option.bind (jrd_Decode N y3.1) fun y7 =>
 if (y5.2 == 0) = true then
  if (y5.1.subject == ([97, 99, 99, 116, 58, 97, 64, 98, 46, 101, 120, 97, 109, 112, 108, 101] : List UInt8)) = true then
   if ((y5.1.links.length : Int) == 1) = true then
    Option.bind (idx y5.1.links 0) fun x9 =>
    if (x9.rel == ([115, 101, 108, 102] : List UInt8)) = true then
     if (y7.2 == 160) = true then
      Option.bind (jrd_Find N y5.1 ([115, 101, 108, 102] : List UInt8)) fun y10 =>
      some (((y10.length : Int) == 1))
     else
      some (false)
    else
     some (false)
   else
    some (false)
  else
   some (false)
 else
  some (false)
def ref16_Text (N : Nat) (a0 : (List UInt8)) : Option (ApiValue) :=
 some ((ApiValue.mk 5 a0 [] []))
def law16_JrdLimits_L1 (N : Nat) (a1 : Int) (k4 : ((List (List UInt8)) × (List ApiValue) × (List ApiValue) → Option (Bool))) : Nat → Int → (List (List UInt8)) → (List ApiValue) → (List ApiValue) → Option (Bool)
  | 0, s8, bn21_keys, bn21_items, bn2_items =>
  k4 (bn21_keys, bn21_items, bn2_items)
  | k + 1, s8, bn21_keys, bn21_items, bn2_items =>
  letL ([(wr .u8 (wr .i64 (97 + (wr .i64 (s8.tdiv 26))))), (wr .u8 (wr .i64 (97 + (s8.tmod 26))))] : (List Int)) fun l8 =>
  Option.bind (ref16_Text N (List.map bchr l8)) fun y9 =>
  grd (fitsA (bn21_keys.length + 1) 16) (
  grd (fitsA (bn21_items.length + 1) 72) (
  joinK (fun j11 : Int × (List UInt8) × (List (List UInt8)) × (List ApiValue) =>
   grd (fitsA (bn2_items.length + 1) 72) (
   law16_JrdLimits_L1 N a1 k4 k (s8 + 1) (bn21_keys ++ [y9.text]) (bn21_items ++ [y9]) (bn2_items ++ [(ApiValue.mk j11.1 j11.2.1 j11.2.2.1 j11.2.2.2)]))) fun k12 =>
  if ((a1.tmod 4) == 2) = true then
   k12 (7, [], [([114, 101, 108] : List UInt8)], [y9])
  else
   k12 (y9.kind, y9.text, y9.keys, y9.items)))
def law16_JrdLimits (N : Nat) (a0 : Int) (a1 : Int) : Option (Bool) :=
 Option.bind (law16_sane N) fun y1 =>
 if y1 = true then
  joinK (fun j3 : (List (List UInt8)) × (List ApiValue) × (List ApiValue) =>
   letL ([([97, 108, 105, 97, 115, 101, 115] : List UInt8), ([112, 114, 111, 112, 101, 114, 116, 105, 101, 115] : List UInt8), ([108, 105, 110, 107, 115] : List UInt8), ([108, 105, 110, 107, 115] : List UInt8)] : (List (List UInt8))) fun l15 =>
   Option.bind (idx l15 (a1.tmod 4)) fun x16 =>
   joinK (fun j20 : Int × (List (List UInt8)) × (List ApiValue) =>
    Option.bind (jrd_Decode N (ApiValue.mk 7 [] [x16] [(ApiValue.mk j20.1 [] j20.2.1 j20.2.2)])) fun y28 =>
    if (decide ((wr .i64 (62 + (wr .i64 (a0.tmod 5)))) > 64)) = true then
     if (y28.2 == 161) = true then
      some (((wr .i64 ((wr .i64 ((y28.1.aliases.length : Int) + (y28.1.properties.length : Int))) + (y28.1.links.length : Int))) == 0))
     else
      some (false)
    else
     if (y28.2 == 0) = true then
      letL ([(wr .i64 (62 + (wr .i64 (a0.tmod 5)))), (wr .i64 (62 + (wr .i64 (a0.tmod 5)))), (wr .i64 (62 + (wr .i64 (a0.tmod 5)))), 1] : (List Int)) fun l30 =>
      Option.bind (idx l30 (a1.tmod 4)) fun x31 =>
      some (((wr .i64 ((wr .i64 ((y28.1.aliases.length : Int) + (y28.1.properties.length : Int))) + (y28.1.links.length : Int))) == x31))
     else
      some (false)) fun k21 =>
   if ((a1.tmod 4) == 1) = true then
    k21 (7, j3.1, j3.2.1)
   else
    if ((a1.tmod 4) == 3) = true then
     letL ([([116, 105, 116, 108, 101, 115] : List UInt8), ([114, 101, 108] : List UInt8)] : (List (List UInt8))) fun l24 =>
     Option.bind (ref16_Text N ([120] : List UInt8)) fun y25 =>
     letL ([(ApiValue.mk 7 [] j3.1 j3.2.1), y25] : (List ApiValue)) fun l27 =>
     k21 (6, [], [(ApiValue.mk 7 [] l24 l27)])
    else
     k21 (6, [], j3.2.2)) fun k4 =>
  grd ((-4611686018427387904 : Int) ≤ 0 ∧ ((wr .i64 (62 + (wr .i64 (a0.tmod 5)))) : Int) ≤ 4611686018427387904) (
   law16_JrdLimits_L1 N a1 k4 (((wr .i64 (62 + (wr .i64 (a0.tmod 5)))) : Int) - 0).toNat 0 [] [] [])
 else
  some (false)
end Go.VM
