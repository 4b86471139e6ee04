/- The functions of the program, as plain functions; written by decomp.py. -/
import Derived.Test.YtdbeiialamganaaTy
set_option linter.unusedVariables false
namespace Go.VM
def ref14_parser_stop (N : Nat) (a0 : Ref14Parser) (a1 : Int) (a2 : Int) : Option (Ref14Parser) :=
 if (a0.fail == 0) = true then
  some ((Ref14Parser.mk a0.s a0.at_ a0.nodes a2 a1))
 else
  some (a0)
def ref14_is (N : Nat) (a0 : ApiToken) (a1 : (List UInt8)) : Option (Bool) :=
 if (a0.kind == 2) = true then
  some ((a0.text == a1))
 else
  some (false)
def ref13_tail (N : Nat) (a0 : (List UInt8)) (a1 : Int) : Option ((List UInt8)) :=
 if (decide (a1 ≥ (a0.length : Int))) = true then
  some ([])
 else
  Option.bind (sub a0 a1 (a0.length : Int)) fun x11 =>
  some (x11)
def ref01_In_L1 (N : Nat) (a0 : Int) (a1 : (List UInt8)) (k5 : (Unit → Option (Bool))) : Nat → Int → Option (Bool)
  | 0, _ => none
  | k + 1, s5 =>
  if (decide (s5 < (a1.length : Int))) = true then
   Option.bind (idx a1 s5) fun x20 =>
   if ((bord x20) == a0) = true then
    some (true)
   else
    ref01_In_L1 N a0 a1 k5 k (wr .i64 (s5 + 1))
  else
   k5 ()
def ref01_In (N : Nat) (a0 : Int) (a1 : (List UInt8)) : Option (Bool) :=
 joinK (fun j4 : Unit =>
  some (false)) fun k5 =>
 ref01_In_L1 N a0 a1 k5 N 0
def ref01_IsDigit (N : Nat) (a0 : Int) : Option (Bool) :=
 if (decide (a0 ≥ 48)) = true then
  some ((decide (a0 ≤ 57)))
 else
  some (false)
def ref13_run_L1 (N : Nat) (a0 : (List UInt8)) (k7 : (Int → Option (Int))) : Nat → Int → Option (Int)
  | 0, _ => none
  | k + 1, s3 =>
  joinK (fun j14 : Bool =>
   if j14 = true then
    ref13_run_L1 N a0 k7 k (wr .i64 (s3 + 1))
   else
    k7 s3) fun k15 =>
  if (decide (s3 < (a0.length : Int))) = true then
   Option.bind (idx a0 s3) fun x20 =>
   Option.bind (ref01_IsDigit N (bord x20)) fun y22 =>
   k15 y22
  else
   k15 false
def ref13_run (N : Nat) (a0 : (List UInt8)) : Option (Int) :=
 joinK (fun j6 : Int =>
  some (j6)) fun k7 =>
 ref13_run_L1 N a0 k7 N 0
def ref13_numeral (N : Nat) (a0 : (List UInt8)) : Option (Int) :=
 joinK (fun j6 : Int =>
  joinK (fun j24 : Bool =>
   if j24 = true then
    some (0)
   else
    joinK (fun j40 : Int =>
     joinK (fun j58 : Int =>
      joinK (fun j86 : Int =>
       some (j86)) fun k87 =>
      joinK (fun j91 : Bool =>
       if j91 = true then
        joinK (fun j107 : Int =>
         Option.bind (ref13_tail N a0 j107) fun y129 =>
         Option.bind (ref13_run N y129) fun y133 =>
         if (decide (y133 > 0)) = true then
          k87 (wr .i64 (j107 + y133))
         else
          k87 j58) fun k108 =>
        joinK (fun j112 : Bool =>
         if j112 = true then
          k108 (wr .i64 ((wr .i64 (j58 + 1)) + 1))
         else
          k108 (wr .i64 (j58 + 1))) fun k113 =>
        if (decide ((wr .i64 (j58 + 1)) < (a0.length : Int))) = true then
         Option.bind (idx a0 (wr .i64 (j58 + 1))) fun x118 =>
         Option.bind (ref01_In N (bord x118) ([43, 45] : List UInt8)) fun y120 =>
         k113 y120
        else
         k113 false
       else
        k87 j58) fun k92 =>
      if (decide (j58 < (a0.length : Int))) = true then
       Option.bind (idx a0 j58) fun x97 =>
       Option.bind (ref01_In N (bord x97) ([101, 69] : List UInt8)) fun y99 =>
       k92 y99
      else
       k92 false) fun k59 =>
     Option.bind (ref13_tail N a0 (wr .i64 (j40 + 1))) fun y64 =>
     Option.bind (ref13_run N y64) fun y68 =>
     joinK (fun j73 : Bool =>
      if j73 = true then
       k59 (wr .i64 (j40 + (wr .i64 (1 + y68))))
      else
       k59 j40) fun k74 =>
     if (decide (j40 < (a0.length : Int))) = true then
      Option.bind (idx a0 j40) fun x79 =>
      if ((bord x79) == 46) = true then
       k74 (decide (y68 > 0))
      else
       k74 false
     else
      k74 false) fun k41 =>
    Option.bind (idx a0 j6) fun x46 =>
    if ((bord x46) == 48) = true then
     k41 (wr .i64 (j6 + 1))
    else
     Option.bind (sub a0 j6 (a0.length : Int)) fun x51 =>
     Option.bind (ref13_run N x51) fun y53 =>
     k41 (wr .i64 (j6 + y53))) fun k25 =>
  if (j6 == (a0.length : Int)) = true then
   k25 true
  else
   Option.bind (idx a0 j6) fun x30 =>
   Option.bind (ref01_IsDigit N (bord x30)) fun y32 =>
   k25 (!y32)) fun k7 =>
 joinK (fun j11 : Bool =>
  if j11 = true then
   k7 (wr .i64 (0 + 1))
  else
   k7 0) fun k12 =>
 if (decide (0 < (a0.length : Int))) = true then
  Option.bind (idx a0 0) fun x17 =>
  k12 ((bord x17) == 45)
 else
  k12 false
def ref01_Index_L1 (N : Nat) (a0 : (List UInt8)) (a1 : (List UInt8)) (k5 : (Unit → Option (Int))) : Nat → Int → Option (Int)
  | 0, _ => none
  | k + 1, s5 =>
  if (decide (s5 < (a0.length : Int))) = true then
   Option.bind (idx a0 s5) fun x20 =>
   Option.bind (ref01_In N (bord x20) a1) fun y22 =>
   if y22 = true then
    some (s5)
   else
    ref01_Index_L1 N a0 a1 k5 k (wr .i64 (s5 + 1))
  else
   k5 ()
def ref01_Index (N : Nat) (a0 : (List UInt8)) (a1 : (List UInt8)) : Option (Int) :=
 joinK (fun j4 : Unit =>
  some ((a0.length : Int))) fun k5 =>
 ref01_Index_L1 N a0 a1 k5 N 0
def ref13_exponent_L1 (N : Nat) (j13 : (List UInt8)) (k39 : (Int → Option (Int))) : Nat → Int → Int → Option (Int)
  | 0, _, _ => none
  | k + 1, s4, s5 =>
  if (decide (s5 < (j13.length : Int))) = true then
   Option.bind (idx j13 s5) fun x53 =>
   ref13_exponent_L1 N j13 k39 k (if 1073741824 < (wr .i64 ((wr .i64 (s4 * 10)) + (wr .i64 (wr .u8 ((bord x53) - 48))))) then 1073741824 else (wr .i64 ((wr .i64 (s4 * 10)) + (wr .i64 (wr .u8 ((bord x53) - 48)))))) (wr .i64 (s5 + 1))
  else
   k39 s4
def ref13_exponent (N : Nat) (a0 : (List UInt8)) : Option (Int) :=
 joinK (fun j4 : Bool =>
  joinK (fun j13 : (List UInt8) =>
   joinK (fun j38 : Int =>
    if j4 = true then
     some ((wr .i64 (0 - j38)))
    else
     some (j38)) fun k39 =>
   ref13_exponent_L1 N j13 k39 N 0 0) fun k14 =>
  joinK (fun j18 : Bool =>
   if j18 = true then
    Option.bind (sub a0 1 (a0.length : Int)) fun x32 =>
    k14 x32
   else
    k14 a0) fun k19 =>
  if (a0 == []) = true then
   k19 false
  else
   Option.bind (idx a0 0) fun x24 =>
   Option.bind (ref01_In N (bord x24) ([43, 45] : List UInt8)) fun y26 =>
   k19 y26) fun k5 =>
 if (a0 == []) = true then
  k5 false
 else
  Option.bind (idx a0 0) fun x10 =>
  k5 ((bord x10) == 45)
def ref04_Format_L1 (N : Nat) : Nat → Int → (List UInt8) → Option ((List UInt8))
  | 0, _, _ => none
  | k + 1, s0, s3 =>
  grd (fitsS ((List.map bchr [(wr .u8 (wr .u64 (48 + (s0.tmod 10))))]).length + s3.length)) (
  if ((wr .u64 (s0.tdiv 10)) == 0) = true then
   some (((List.map bchr [(wr .u8 (wr .u64 (48 + (s0.tmod 10))))]) ++ s3))
  else
   ref04_Format_L1 N k (wr .u64 (s0.tdiv 10)) ((List.map bchr [(wr .u8 (wr .u64 (48 + (s0.tmod 10))))]) ++ s3))
def ref04_Format (N : Nat) (a0 : Int) : Option ((List UInt8)) :=
 ref04_Format_L1 N N a0 []
def ref13_Number_L2 (N : Nat) (k104 : (Int × (List UInt8) → Option ((List UInt8) × Int))) : Nat → Int → (List UInt8) → Option ((List UInt8) × Int)
  | 0, _, _ => none
  | k + 1, s6, s7 =>
  Option.bind (idx s7 (wr .i64 ((s7.length : Int) - 1))) fun x112 =>
  if ((bord x112) == 48) = true then
   Option.bind (sub s7 0 (wr .i64 ((s7.length : Int) - 1))) fun x117 =>
   ref13_Number_L2 N k104 k (wr .i64 (s6 + 1)) x117
  else
   k104 (s6, s7)
def ref13_Number_L1 (N : Nat) (k73 : ((List UInt8) → Option ((List UInt8) × Int))) : Nat → (List UInt8) → Option ((List UInt8) × Int)
  | 0, _ => none
  | k + 1, s7 =>
  joinK (fun j80 : Bool =>
   if j80 = true then
    Option.bind (sub s7 1 (s7.length : Int)) fun x91 =>
    ref13_Number_L1 N k73 k x91
   else
    k73 s7) fun k81 =>
  if (decide ((s7.length : Int) > 0)) = true then
   Option.bind (idx s7 0) fun x86 =>
   k81 ((bord x86) == 48)
  else
   k81 false
def ref13_Number (N : Nat) (a0 : (List UInt8)) : Option ((List UInt8) × Int) :=
 joinK (fun j5 : Bool =>
  if j5 = true then
   some ([], 130)
  else
   joinK (fun j21 : (List UInt8) × (List UInt8) =>
    Option.bind (ref01_Index N j21.1 ([101, 69] : List UInt8)) fun y35 =>
    Option.bind (ref13_tail N j21.1 (wr .i64 (y35 + 1))) fun y41 =>
    Option.bind (ref13_exponent N y41) fun y45 =>
    Option.bind (sub j21.1 0 y35) fun x49 =>
    joinK (fun j52 : Int × (List UInt8) =>
     joinK (fun j72 : (List UInt8) =>
      if (j72 == []) = true then
       some (([48] : List UInt8), 0)
      else
       joinK (fun j103 : Int × (List UInt8) =>
        joinK (fun j124 : Bool =>
         if j124 = true then
          some ([], 144)
         else
          if (decide (j103.1 < 0)) = true then
           grd (fitsS (j21.2.length + j103.2.length)) (
           grd (fitsS ((j21.2 ++ j103.2).length + ([101, 45] : List UInt8).length)) (
           Option.bind (ref04_Format N (wr .u64 (wr .i64 (0 - j103.1)))) fun y141 =>
           grd (fitsS (((j21.2 ++ j103.2) ++ ([101, 45] : List UInt8)).length + y141.length)) (
           some ((((j21.2 ++ j103.2) ++ ([101, 45] : List UInt8)) ++ y141), 0))))
          else
           if (decide (j103.1 > 0)) = true then
            grd (fitsS (j21.2.length + j103.2.length)) (
            grd (fitsS ((j21.2 ++ j103.2).length + ([101] : List UInt8).length)) (
            Option.bind (ref04_Format N (wr .u64 j103.1)) fun y153 =>
            grd (fitsS (((j21.2 ++ j103.2) ++ ([101] : List UInt8)).length + y153.length)) (
            some ((((j21.2 ++ j103.2) ++ ([101] : List UInt8)) ++ y153), 0))))
           else
            grd (fitsS (j21.2.length + j103.2.length)) (
            some ((j21.2 ++ j103.2), 0))) fun k125 =>
        if (decide ((j103.2.length : Int) > 40)) = true then
         k125 true
        else
         if (decide (j103.1 > 400)) = true then
          k125 true
         else
          k125 (decide (j103.1 < (-400)))) fun k104 =>
       ref13_Number_L2 N k104 N j52.1 j72) fun k73 =>
     ref13_Number_L1 N k73 N j52.2) fun k53 =>
    Option.bind (ref01_Index N x49 ([46] : List UInt8)) fun y58 =>
    if (decide (y58 < (x49.length : Int))) = true then
     Option.bind (sub x49 0 y58) fun x66 =>
     Option.bind (sub x49 (wr .i64 (y58 + 1)) (x49.length : Int)) fun x68 =>
     grd (fitsS (x66.length + x68.length)) (
     k53 ((wr .i64 (y45 - (wr .i64 ((wr .i64 ((x49.length : Int) - y58)) - 1)))), (x66 ++ x68)))
    else
     k53 (y45, x49)) fun k22 =>
   Option.bind (idx a0 0) fun x27 =>
   if ((bord x27) == 45) = true then
    Option.bind (sub a0 1 (a0.length : Int)) fun x31 =>
    k22 (x31, ([45] : List UInt8))
   else
    k22 (a0, [])) fun k6 =>
 if (a0 == []) = true then
  k6 true
 else
  Option.bind (ref13_numeral N a0) fun y11 =>
  k6 (y11 != (a0.length : Int))
def ref14_word (N : Nat) (a0 : (List UInt8)) : Option (Int) :=
 if (a0 == ([116, 114, 117, 101] : List UInt8)) = true then
  some (3)
 else
  if (a0 == ([102, 97, 108, 115, 101] : List UInt8)) = true then
   some (2)
  else
   some (1)
def ref13_white (N : Nat) (a0 : Int) : Option (Bool) :=
 Option.bind (ref01_In N a0 ([32, 9, 10, 13] : List UInt8)) fun y5 =>
 some (y5)
def ref01_IsHex (N : Nat) (a0 : Int) : Option (Bool) :=
 Option.bind (ref01_IsDigit N a0) fun y5 =>
 if y5 = true then
  some (true)
 else
  if (decide (a0 ≥ 65)) = true then
   if (decide (a0 ≤ 70)) = true then
    some (true)
   else
    if (decide (a0 ≥ 97)) = true then
     some ((decide (a0 ≤ 102)))
    else
     some (false)
  else
   if (decide (a0 ≥ 97)) = true then
    some ((decide (a0 ≤ 102)))
   else
    some (false)
def ref04_parse_L2 (N : Nat) (a0 : (List UInt8)) (a1 : Int) (a2 : Int) (k61 : (Int → Option (Int × Int))) : Nat → Int → Int → Option (Int × Int)
  | 0, _, _ => none
  | k + 1, s9, s10 =>
  if (decide (s10 < (a0.length : Int))) = true then
   Option.bind (idx a0 s10) fun x76 =>
   joinK (fun j79 : Int =>
    joinK (fun j89 : Bool =>
     if j89 = true then
      some (0, 4)
     else
      ref04_parse_L2 N a0 a1 a2 k61 k (wr .u64 ((wr .u64 (s9 * a1)) + j79)) (wr .i64 (s10 + 1))) fun k90 =>
    grd (a1 ≠ 0) (
    if (decide (s9 > (wr .u64 (a2.tdiv a1)))) = true then
     k90 true
    else
     if (decide ((wr .u64 (s9 * a1)) > (wr .u64 (a2 - j79)))) = true then
      k90 true
     else
      k90 (decide (j79 > a2)))) fun k80 =>
   if (decide ((bord x76) > 57)) = true then
    k80 (wr .u64 ((wr .u64 ((wr .u64 (borI .u8 (bord x76) 32)) - 97)) + 10))
   else
    k80 (wr .u64 (wr .u8 ((bord x76) - 48)))
  else
   k61 s9
def ref04_parse_L1 (N : Nat) (a0 : (List UInt8)) (a1 : Int) (k11 : (Unit → Option (Int × Int))) : Nat → Int → Option (Int × Int)
  | 0, _ => none
  | k + 1, s8 =>
  if (decide (s8 < (a0.length : Int))) = true then
   joinK (fun j25 : Bool =>
    if j25 = true then
     some (0, 1)
    else
     ref04_parse_L1 N a0 a1 k11 k (wr .i64 (s8 + 1))) fun k26 =>
   if (a1 == 10) = true then
    Option.bind (idx a0 s8) fun x31 =>
    Option.bind (ref01_IsDigit N (bord x31)) fun y33 =>
    if y33 = true then
     if (a1 == 16) = true then
      Option.bind (ref01_IsHex N (bord x31)) fun y39 =>
      k26 (!y39)
     else
      k26 false
    else
     k26 true
   else
    if (a1 == 16) = true then
     Option.bind (idx a0 s8) fun x44 =>
     Option.bind (ref01_IsHex N (bord x44)) fun y46 =>
     k26 (!y46)
    else
     k26 false
  else
   k11 ()
def ref04_parse (N : Nat) (a0 : (List UInt8)) (a1 : Int) (a2 : Int) : Option (Int × Int) :=
 if (a0 == []) = true then
  some (0, 3)
 else
  joinK (fun j10 : Unit =>
   joinK (fun j60 : Int =>
    some (j60, 0)) fun k61 =>
   ref04_parse_L2 N a0 a1 a2 k61 N 0 0) fun k11 =>
  ref04_parse_L1 N a0 a1 k11 N 0
def ref04_Hex (N : Nat) (a0 : (List UInt8)) (a1 : Int) : Option (Int × Int) :=
 Option.bind (ref04_parse N a0 16 a1) fun y5 =>
 some (y5.1, y5.2)
def ref13_unit (N : Nat) (a0 : (List UInt8)) (a1 : Int) : Option (Int × Bool) :=
 joinK (fun j5 : Bool =>
  if j5 = true then
   some (0, false)
  else
   Option.bind (sub a0 (wr .i64 (a1 + 2)) (wr .i64 (a1 + 6))) fun x21 =>
   Option.bind (ref04_Hex N x21 65535) fun y23 =>
   some ((wr .i64 y23.1), (y23.2 == 0))) fun k6 =>
 if (decide ((wr .i64 (a1 + 6)) > (a0.length : Int))) = true then
  k6 true
 else
  Option.bind (idx a0 a1) fun x11 =>
  if ((bord x11) != 92) = true then
   k6 true
  else
   Option.bind (idx a0 (wr .i64 (a1 + 1))) fun x14 =>
   k6 ((bord x14) != 117)
def ref02_point (N : Nat) (a0 : Int) : Option (Bool) :=
 if (decide (a0 ≥ 0)) = true then
  if (decide (a0 ≤ 1114111)) = true then
   if (decide (a0 < 55296)) = true then
    some (true)
   else
    some ((decide (a0 > 57343)))
  else
   some (false)
 else
  some (false)
def ref02_Encode (N : Nat) (a0 : Int) : Option ((List UInt8) × Int) :=
 Option.bind (ref02_point N a0) fun y7 =>
 if y7 = true then
  if (decide (a0 < 128)) = true then
   some ((List.map bchr [(wr .u8 a0)]), 0)
  else
   if (decide (a0 < 2048)) = true then
    letL ([(wr .u8 (borI .i64 192 (shrI .i64 a0 6))), (wr .u8 (borI .i64 128 (bandI .i64 a0 63)))] : (List Int)) fun l22 =>
    some ((List.map bchr l22), 0)
   else
    if (decide (a0 < 65536)) = true then
     letL ([(wr .u8 (borI .i64 224 (shrI .i64 a0 12))), (wr .u8 (borI .i64 128 (bandI .i64 (shrI .i64 a0 6) 63))), (wr .u8 (borI .i64 128 (bandI .i64 a0 63)))] : (List Int)) fun l29 =>
     some ((List.map bchr l29), 0)
    else
     letL ([(wr .u8 (borI .i64 240 (shrI .i64 a0 18))), (wr .u8 (borI .i64 128 (bandI .i64 (shrI .i64 a0 12) 63))), (wr .u8 (borI .i64 128 (bandI .i64 (shrI .i64 a0 6) 63))), (wr .u8 (borI .i64 128 (bandI .i64 a0 63)))] : (List Int)) fun l33 =>
     some ((List.map bchr l33), 0)
 else
  some ([], 4)
def ref13_escape_L1 (N : Nat) (a0 : (List UInt8)) (a1 : Int) (k5 : (Unit → Option ((List UInt8) × Int × Int))) : Nat → Nat → Option ((List UInt8) × Int × Int)
  | 0, _ => none
  | k + 1, s20 =>
  if (decide (s20 < 8)) = true then
   Option.bind (idx ([34, 92, 47, 98, 102, 110, 114, 116] : List UInt8) ((s20 : Nat) : Int)) fun x24 =>
   Option.bind (idx a0 (wr .i64 (a1 + 1))) fun x26 =>
   if ((bord x24) == (bord x26)) = true then
    Option.bind (sub ([34, 92, 47, 8, 12, 10, 13, 9] : List UInt8) ((s20 : Nat) : Int) (wr .i64 (((s20 : Nat) : Int) + 1))) fun x31 =>
    some (x31, (wr .i64 (a1 + 2)), 0)
   else
    ref13_escape_L1 N a0 a1 k5 k (s20 + (decodeAt ([34, 92, 47, 98, 102, 110, 114, 116] : List UInt8) s20).2)
  else
   k5 ()
def ref13_escape (N : Nat) (a0 : (List UInt8)) (a1 : Int) : Option ((List UInt8) × Int × Int) :=
 joinK (fun j4 : Unit =>
  Option.bind (ref13_unit N a0 a1) fun y38 =>
  if y38.2 = true then
   joinK (fun j48 : Bool =>
    if j48 = true then
     Option.bind (ref02_Encode N y38.1) fun y57 =>
     some (y57.1, (wr .i64 (a1 + 6)), 0)
    else
     Option.bind (ref13_unit N a0 (wr .i64 (a1 + 6))) fun y65 =>
     joinK (fun j71 : Bool =>
      if j71 = true then
       some ([], 0, 7)
      else
       Option.bind (ref02_Encode N (wr .i64 ((wr .i64 ((wr .i64 (65536 + (wr .i64 ((wr .i64 (y38.1 - 55296)) * 1024)))) + y65.1)) - 56320))) fun y84 =>
       some (y84.1, (wr .i64 (a1 + 12)), 0)) fun k72 =>
     if (decide (y38.1 > 56319)) = true then
      k72 true
     else
      if y65.2 = true then
       if (decide (y65.1 < 56320)) = true then
        k72 true
       else
        k72 (decide (y65.1 > 57343))
      else
       k72 true) fun k49 =>
   if (decide (y38.1 < 55296)) = true then
    k49 true
   else
    k49 (decide (y38.1 > 57343))
  else
   some ([], 0, 130)) fun k5 =>
 if (decide ((wr .i64 (a1 + 1)) < (a0.length : Int))) = true then
  ref13_escape_L1 N a0 a1 k5 N 0
 else
  k5 ()
def ref02_value_L1 (N : Nat) (a0 : (List UInt8)) (k18 : (Int → Option (Int))) : Nat → Int → Int → Option (Int)
  | 0, _, _ => none
  | k + 1, s3, s4 =>
  if (decide (s4 < (a0.length : Int))) = true then
   Option.bind (idx a0 s4) fun x32 =>
   ref02_value_L1 N a0 k18 k (borI .i64 (shlI .i64 s3 6) (bandI .i64 (wr .i64 (bord x32)) 63)) (wr .i64 (s4 + 1))
  else
   k18 s3
def ref02_value (N : Nat) (a0 : (List UInt8)) : Option (Int) :=
 if ((a0.length : Int) == 1) = true then
  Option.bind (idx a0 0) fun x9 =>
  some ((wr .i64 (bord x9)))
 else
  Option.bind (idx a0 0) fun x13 =>
  grd (¬ (wr .i64 (7 - (a0.length : Int))) < 0) (
  joinK (fun j17 : Int =>
   some (j17)) fun k18 =>
  ref02_value_L1 N a0 k18 N (bandI .i64 (wr .i64 (bord x13)) (wr .i64 ((shlI .i64 1 (wr .i64 (7 - (a0.length : Int)))) - 1))) 1)
def ref02_Decode_L1 (N : Nat) (a0 : (List UInt8)) (a1 : Int) (k16 : (Unit → Option (Int × Int × Int))) : Nat → Int → Option (Int × Int × Int)
  | 0, _ => none
  | k + 1, s7 =>
  joinK (fun j25 : Bool =>
   if j25 = true then
    Option.bind (sub a0 a1 (wr .i64 (a1 + s7))) fun x36 =>
    Option.bind (ref02_value N x36) fun y38 =>
    Option.bind (ref02_Encode N y38) fun y44 =>
    joinK (fun j49 : Bool =>
     if j49 = true then
      some (y38, (wr .i64 (a1 + s7)), 0)
     else
      ref02_Decode_L1 N a0 a1 k16 k (wr .i64 (s7 + 1))) fun k50 =>
    if (y44.2 == 0) = true then
     k50 (y44.1 == x36)
    else
     k50 false
   else
    k16 ()) fun k26 =>
  if (decide (s7 ≤ 4)) = true then
   k26 (decide ((wr .i64 (a1 + s7)) ≤ (a0.length : Int)))
  else
   k26 false
def ref02_Decode (N : Nat) (a0 : (List UInt8)) (a1 : Int) : Option (Int × Int × Int) :=
 joinK (fun j5 : Bool =>
  if j5 = true then
   some (0, 0, 4)
  else
   joinK (fun j15 : Unit =>
    some (0, 0, 7)) fun k16 =>
   ref02_Decode_L1 N a0 a1 k16 N 1) fun k6 =>
 if (decide (a1 < 0)) = true then
  k6 true
 else
  k6 (decide (a1 ≥ (a0.length : Int)))
def ref13_text_L1 (N : Nat) (a0 : (List UInt8)) (k7 : (Unit → Option ((List UInt8) × Int × Int))) : Nat → (List UInt8) → Int → Option ((List UInt8) × Int × Int)
  | 0, _, _ => none
  | k + 1, s7, s8 =>
  if (decide (s8 < (a0.length : Int))) = true then
   Option.bind (idx a0 s8) fun x22 =>
   if ((bord x22) == 34) = true then
    some (s7, (wr .i64 (s8 + 1)), 0)
   else
    if ((bord x22) == 92) = true then
     Option.bind (ref13_escape N a0 s8) fun y32 =>
     if (y32.2.2 != 0) = true then
      some ([], 0, y32.2.2)
     else
      grd (fitsS (s7.length + y32.1.length)) (
      ref13_text_L1 N a0 k7 k (s7 ++ y32.1) y32.2.1)
    else
     if (decide ((bord x22) < 32)) = true then
      some ([], 0, 130)
     else
      Option.bind (ref02_Decode N a0 s8) fun y51 =>
      if (y51.2.2 != 0) = true then
       some ([], 0, y51.2.2)
      else
       Option.bind (sub a0 s8 y51.2.1) fun x62 =>
       grd (fitsS (s7.length + x62.length)) (
       ref13_text_L1 N a0 k7 k (s7 ++ x62) y51.2.1)
  else
   k7 ()
def ref13_text (N : Nat) (a0 : (List UInt8)) (a1 : Int) : Option ((List UInt8) × Int × Int) :=
 joinK (fun j6 : Unit =>
  some ([], 0, 130)) fun k7 =>
 ref13_text_L1 N a0 k7 N [] (wr .i64 (a1 + 1))
def ref01_IsAlpha (N : Nat) (a0 : Int) : Option (Bool) :=
 if (decide (a0 ≥ 65)) = true then
  if (decide (a0 ≤ 90)) = true then
   some (true)
  else
   if (decide (a0 ≥ 97)) = true then
    some ((decide (a0 ≤ 122)))
   else
    some (false)
 else
  if (decide (a0 ≥ 97)) = true then
   some ((decide (a0 ≤ 122)))
  else
   some (false)
def ref13_Next_L2 (N : Nat) (a0 : (List UInt8)) (j15 : Int) (k115 : (Int → Option (ApiToken × Int × Int))) : Nat → Int → Option (ApiToken × Int × Int)
  | 0, _ => none
  | k + 1, s12 =>
  joinK (fun j122 : Bool =>
   if j122 = true then
    ref13_Next_L2 N a0 j15 k115 k (wr .i64 (s12 + 1))
   else
    k115 s12) fun k123 =>
  if (decide ((wr .i64 (j15 + s12)) < (a0.length : Int))) = true then
   Option.bind (idx a0 (wr .i64 (j15 + s12))) fun x128 =>
   Option.bind (ref01_IsAlpha N (bord x128)) fun y130 =>
   k123 y130
  else
   k123 false
def ref13_Next_L1 (N : Nat) (a0 : (List UInt8)) (k16 : (Int → Option (ApiToken × Int × Int))) : Nat → Int → Option (ApiToken × Int × Int)
  | 0, _ => none
  | k + 1, s1 =>
  joinK (fun j23 : Bool =>
   if j23 = true then
    ref13_Next_L1 N a0 k16 k (wr .i64 (s1 + 1))
   else
    k16 s1) fun k24 =>
  if (decide (s1 < (a0.length : Int))) = true then
   Option.bind (idx a0 s1) fun x29 =>
   Option.bind (ref13_white N (bord x29)) fun y31 =>
   k24 y31
  else
   k24 false
def ref13_Next (N : Nat) (a0 : (List UInt8)) (a1 : Int) : Option (ApiToken × Int × Int) :=
 joinK (fun j5 : Bool =>
  if j5 = true then
   some ((ApiToken.mk 0 [] 0), 0, 4)
  else
   joinK (fun j15 : Int =>
    if (j15 == (a0.length : Int)) = true then
     some ((ApiToken.mk 1 [] j15), j15, 0)
    else
     Option.bind (idx a0 j15) fun x50 =>
     Option.bind (ref01_In N (bord x50) ([123, 125, 91, 93, 58, 44] : List UInt8)) fun y55 =>
     if y55 = true then
      Option.bind (sub a0 j15 (wr .i64 (j15 + 1))) fun x62 =>
      some ((ApiToken.mk 2 x62 j15), (wr .i64 (j15 + 1)), 0)
     else
      if ((bord x50) == 34) = true then
       Option.bind (ref13_text N a0 j15) fun y69 =>
       if (y69.2.2 != 0) = true then
        some ((ApiToken.mk 0 [] 0), 0, y69.2.2)
       else
        some ((ApiToken.mk 3 y69.1 j15), y69.2.1, 0)
      else
       joinK (fun j82 : Bool =>
        if j82 = true then
         Option.bind (sub a0 j15 (a0.length : Int)) fun x95 =>
         Option.bind (ref13_numeral N x95) fun y97 =>
         if (y97 == 0) = true then
          some ((ApiToken.mk 0 [] 0), 0, 130)
         else
          Option.bind (sub a0 j15 (wr .i64 (j15 + y97))) fun x109 =>
          some ((ApiToken.mk 4 x109 j15), (wr .i64 (j15 + y97)), 0)
        else
         joinK (fun j114 : Int =>
          Option.bind (sub a0 j15 (wr .i64 (j15 + j114))) fun x143 =>
          joinK (fun j146 : Bool =>
           if j146 = true then
            some ((ApiToken.mk 5 x143 j15), (wr .i64 (j15 + j114)), 0)
           else
            some ((ApiToken.mk 0 [] 0), 0, 130)) fun k147 =>
          if (x143 == ([116, 114, 117, 101] : List UInt8)) = true then
           k147 true
          else
           if (x143 == ([102, 97, 108, 115, 101] : List UInt8)) = true then
            k147 true
           else
            k147 (x143 == ([110, 117, 108, 108] : List UInt8))) fun k115 =>
         ref13_Next_L2 N a0 j15 k115 N 0) fun k83 =>
       if ((bord x50) == 45) = true then
        k83 true
       else
        Option.bind (ref01_IsDigit N (bord x50)) fun y88 =>
        k83 y88) fun k16 =>
   ref13_Next_L1 N a0 k16 N a1) fun k6 =>
 if (decide (a1 < 0)) = true then
  k6 true
 else
  k6 (decide (a1 > (a0.length : Int)))
def ref14_parser_next (N : Nat) (a0 : Ref14Parser) : Option (ApiToken × Ref14Parser) :=
 if (a0.fail != 0) = true then
  some ((ApiToken.mk 0 [] 0), a0)
 else
  joinK (fun j11 : Int × Int × ApiToken =>
   if (j11.2.1 != 0) = true then
    Option.bind (ref14_parser_stop N a0 a0.at_ j11.2.1) fun y26 =>
    some ((ApiToken.mk 0 [] 0), y26)
   else
    some (j11.2.2, (Ref14Parser.mk a0.s j11.1 a0.nodes a0.fail a0.where_))) fun k12 =>
  Option.bind (ref13_Next N a0.s a0.at_) fun y16 =>
  k12 (y16.2.1, y16.2.2, y16.1)
def ref14_Get_L1 (N : Nat) (a0 : ApiValue) (a1 : (List UInt8)) (k11 : (Unit → Option (ApiValue × Bool))) : Nat → Int → Option (ApiValue × Bool)
  | 0, _ => none
  | k + 1, s14 =>
  if (decide (s14 < (a0.keys.length : Int))) = true then
   joinK (fun j27 : Bool =>
    if j27 = true then
     Option.bind (idx a0.items s14) fun x38 =>
     some (x38, true)
    else
     ref14_Get_L1 N a0 a1 k11 k (wr .i64 (s14 + 1))) fun k28 =>
   Option.bind (idx a0.keys s14) fun x32 =>
   if (x32 == a1) = true then
    k28 (decide (s14 < (a0.items.length : Int)))
   else
    k28 false
  else
   k11 ()
def ref14_Get (N : Nat) (a0 : ApiValue) (a1 : (List UInt8)) : Option (ApiValue × Bool) :=
 if (a0.kind != 7) = true then
  some ((ApiValue.mk 0 [] [] []), false)
 else
  joinK (fun j10 : Unit =>
   some ((ApiValue.mk 0 [] [] []), false)) fun k11 =>
  ref14_Get_L1 N a0 a1 k11 N 0
def ref14_parser_array_L1 (N : Nat) (a1 : Int) (rec_ref14_parser_value : (Ref14Parser → ApiToken → Int → Option (ApiValue × Ref14Parser))) (k23 : (ApiToken × (List ApiValue) × Ref14Parser → Option (ApiValue × Ref14Parser))) : Nat → ApiToken → (List ApiValue) → Ref14Parser → Option (ApiValue × Ref14Parser)
  | 0, _, _, _ => none
  | k + 1, bn9, bn1_items, bi0 =>
  if (bi0.fail == 0) = true then
   joinK (fun j34 : (List ApiValue) × Ref14Parser =>
    Option.bind (ref14_parser_next N j34.2) fun y46 =>
    Option.bind (ref14_is N y46.1 ([93] : List UInt8)) fun y53 =>
    if y53 = true then
     some ((ApiValue.mk 6 [] [] j34.1), y46.2)
    else
     joinK (fun j61 : Ref14Parser =>
      Option.bind (ref14_parser_next N j61) fun y84 =>
      ref14_parser_array_L1 N a1 rec_ref14_parser_value k23 k y84.1 j34.1 y84.2) fun k62 =>
     joinK (fun j66 : Bool =>
      if j66 = true then
       Option.bind (ref14_parser_stop N y46.2 y46.1.at_ 140) fun y78 =>
       k62 y78
      else
       k62 y46.2) fun k67 =>
     if (y46.2.fail == 0) = true then
      Option.bind (ref14_is N y46.1 ([44] : List UInt8)) fun y72 =>
      k67 (!y72)
     else
      k67 false) fun k35 =>
   Option.bind (rec_ref14_parser_value bi0 bn9 a1) fun y39 =>
   grd (fitsA (bn1_items.length + 1) 72) (
   k35 ((bn1_items ++ [y39.1]), y39.2))
  else
   k23 (bn9, bn1_items, bi0)
def ref14_parser_object_L1 (N : Nat) (a1 : Int) (rec_ref14_parser_value : (Ref14Parser → ApiToken → Int → Option (ApiValue × Ref14Parser))) (k23 : (ApiToken × (List (List UInt8)) × (List ApiValue) × Ref14Parser → Option (ApiValue × Ref14Parser))) : Nat → ApiToken → (List (List UInt8)) → (List ApiValue) → Ref14Parser → Option (ApiValue × Ref14Parser)
  | 0, _, _, _, _ => none
  | k + 1, bn9, bn1_keys, bn1_items, bi0 =>
  if (bi0.fail == 0) = true then
   joinK (fun j34 : Ref14Parser =>
    joinK (fun j47 : Ref14Parser =>
     joinK (fun j68 : ApiToken × Ref14Parser =>
      Option.bind (ref14_parser_next N j68.2) fun y98 =>
      Option.bind (rec_ref14_parser_value y98.2 y98.1 a1) fun y102 =>
      grd (fitsA (bn1_keys.length + 1) 16) (
      grd (fitsA (bn1_items.length + 1) 72) (
      Option.bind (ref14_parser_next N y102.2) fun y112 =>
      Option.bind (ref14_is N y112.1 ([125] : List UInt8)) fun y119 =>
      if y119 = true then
       some ((ApiValue.mk 7 [] (bn1_keys ++ [bn9.text]) (bn1_items ++ [y102.1])), y112.2)
      else
       joinK (fun j127 : Ref14Parser =>
        Option.bind (ref14_parser_next N j127) fun y150 =>
        ref14_parser_object_L1 N a1 rec_ref14_parser_value k23 k y150.1 (bn1_keys ++ [bn9.text]) (bn1_items ++ [y102.1]) y150.2) fun k128 =>
       joinK (fun j132 : Bool =>
        if j132 = true then
         Option.bind (ref14_parser_stop N y112.2 y112.1.at_ 140) fun y144 =>
         k128 y144
        else
         k128 y112.2) fun k133 =>
       if (y112.2.fail == 0) = true then
        Option.bind (ref14_is N y112.1 ([44] : List UInt8)) fun y138 =>
        k133 (!y138)
       else
        k133 false))) fun k69 =>
     Option.bind (ref14_parser_next N j47) fun y74 =>
     joinK (fun j79 : Bool =>
      if j79 = true then
       Option.bind (ref14_parser_stop N y74.2 y74.1.at_ 140) fun y91 =>
       k69 (y74.1, y91)
      else
       k69 (y74.1, y74.2)) fun k80 =>
     if (y74.2.fail == 0) = true then
      Option.bind (ref14_is N y74.1 ([58] : List UInt8)) fun y85 =>
      k80 (!y85)
     else
      k80 false) fun k48 =>
    Option.bind (ref14_Get N (ApiValue.mk 7 [] bn1_keys bn1_items) bn9.text) fun y53 =>
    if y53.2 = true then
     Option.bind (ref14_parser_stop N j34 bn9.at_ 143) fun y61 =>
     k48 y61
    else
     k48 j34) fun k35 =>
   if (bn9.kind != 3) = true then
    Option.bind (ref14_parser_stop N bi0 bn9.at_ 140) fun y42 =>
    k35 y42
   else
    k35 bi0
  else
   k23 (bn9, bn1_keys, bn1_items, bi0)
mutual
def ref14_parser_array (N : Nat) : Nat → Ref14Parser → Int → Option (ApiValue × Ref14Parser)
  | 0, _, _ => none
  | D + 1, a0, a1 =>
  Option.bind (ref14_parser_next N a0) fun y7 =>
  Option.bind (ref14_is N y7.1 ([93] : List UInt8)) fun y14 =>
  if y14 = true then
   some ((ApiValue.mk 6 [] [] []), y7.2)
  else
   joinK (fun j22 : ApiToken × (List ApiValue) × Ref14Parser =>
    some ((ApiValue.mk 6 [] [] j22.2.1), j22.2.2)) fun k23 =>
   ref14_parser_array_L1 N a1 (ref14_parser_value N D) k23 N y7.1 [] y7.2
def ref14_parser_object (N : Nat) : Nat → Ref14Parser → Int → Option (ApiValue × Ref14Parser)
  | 0, _, _ => none
  | D + 1, a0, a1 =>
  Option.bind (ref14_parser_next N a0) fun y7 =>
  Option.bind (ref14_is N y7.1 ([125] : List UInt8)) fun y14 =>
  if y14 = true then
   some ((ApiValue.mk 7 [] [] []), y7.2)
  else
   joinK (fun j22 : ApiToken × (List (List UInt8)) × (List ApiValue) × Ref14Parser =>
    some ((ApiValue.mk 7 [] j22.2.1 j22.2.2.1), j22.2.2.2)) fun k23 =>
   ref14_parser_object_L1 N a1 (ref14_parser_value N D) k23 N y7.1 [] [] y7.2
def ref14_parser_value (N : Nat) : Nat → Ref14Parser → ApiToken → Int → Option (ApiValue × Ref14Parser)
  | 0, _, _, _ => none
  | D + 1, a0, a1, a2 =>
  joinK (fun j4 : Bool =>
   if (a0.fail != 0) = true then
    some ((ApiValue.mk 0 [] [] []), a0)
   else
    if j4 = true then
     joinK (fun j33 : Bool =>
      if j33 = true then
       Option.bind (ref14_parser_stop N a0 a1.at_ 141) fun y42 =>
       some ((ApiValue.mk 0 [] [] []), y42)
      else
       joinK (fun j51 : Int × (List UInt8) × Ref14Parser =>
        joinK (fun j80 : (List UInt8) × Int × Int × Int × Int =>
         if (a1.kind == 5) = true then
          Option.bind (ref14_word N a1.text) fun y101 =>
          some ((ApiValue.mk y101 [] [] []), (Ref14Parser.mk j80.1 j80.2.1 j80.2.2.1 j80.2.2.2.1 j80.2.2.2.2))
         else
          Option.bind (ref14_is N a1 ([91] : List UInt8)) fun y107 =>
          if y107 = true then
           Option.bind ((ref14_parser_array N D) (Ref14Parser.mk j80.1 j80.2.1 j80.2.2.1 j80.2.2.2.1 j80.2.2.2.2) (wr .i64 (a2 + 1))) fun y114 =>
           some (y114.1, y114.2)
          else
           Option.bind (ref14_is N a1 ([123] : List UInt8)) fun y120 =>
           if y120 = true then
            Option.bind ((ref14_parser_object N D) (Ref14Parser.mk j80.1 j80.2.1 j80.2.2.1 j80.2.2.2.1 j80.2.2.2.2) (wr .i64 (a2 + 1))) fun y127 =>
            some (y127.1, y127.2)
           else
            some ((ApiValue.mk j51.1 j51.2.1 [] []), (Ref14Parser.mk j80.1 j80.2.1 j80.2.2.1 j80.2.2.2.1 j80.2.2.2.2))) fun k81 =>
        if (decide ((wr .i64 (j51.2.2.nodes + 1)) > 20000)) = true then
         Option.bind (ref14_parser_stop N (Ref14Parser.mk j51.2.2.s j51.2.2.at_ (wr .i64 (j51.2.2.nodes + 1)) j51.2.2.fail j51.2.2.where_) a1.at_ 142) fun y90 =>
         k81 (y90.s, y90.at_, y90.nodes, y90.fail, y90.where_)
        else
         k81 (j51.2.2.s, j51.2.2.at_, (wr .i64 (j51.2.2.nodes + 1)), j51.2.2.fail, j51.2.2.where_)) fun k52 =>
       if (a1.kind == 4) = true then
        Option.bind (ref13_Number N a1.text) fun y60 =>
        joinK (fun j65 : Ref14Parser =>
         k52 (4, y60.1, j65)) fun k66 =>
        if (y60.2 != 0) = true then
         Option.bind (ref14_parser_stop N a0 a1.at_ y60.2) fun y73 =>
         k66 y73
        else
         k66 a0
       else
        k52 (5, a1.text, a0)) fun k34 =>
     if (a1.kind == 2) = true then
      k34 (a2 == 64)
     else
      k34 false
    else
     Option.bind (ref14_parser_stop N a0 a1.at_ 140) fun y138 =>
     some ((ApiValue.mk 0 [] [] []), y138)) fun k5 =>
  if (a1.kind == 3) = true then
   k5 true
  else
   if (a1.kind == 4) = true then
    k5 true
   else
    if (a1.kind == 5) = true then
     k5 true
    else
     Option.bind (ref14_is N a1 ([91] : List UInt8)) fun y12 =>
     if y12 = true then
      k5 true
     else
      Option.bind (ref14_is N a1 ([123] : List UInt8)) fun y17 =>
      k5 y17
end
def ref14_Parse (N : Nat) (a0 : (List UInt8)) : Option (ApiValue × Int × Int) :=
 if (decide ((a0.length : Int) > 1048576)) = true then
  some ((ApiValue.mk 0 [] [] []), 0, 142)
 else
  Option.bind (ref14_parser_next N (Ref14Parser.mk a0 0 0 0 0)) fun y13 =>
  Option.bind (ref14_parser_value N N y13.2 y13.1 0) fun y17 =>
  joinK (fun j22 : Ref14Parser =>
   if (j22.fail != 0) = true then
    some ((ApiValue.mk 0 [] [] []), j22.where_, j22.fail)
   else
    some (y17.1, (a0.length : Int), 0)) fun k23 =>
  Option.bind (ref14_parser_next N y17.2) fun y28 =>
  joinK (fun j33 : Bool =>
   if j33 = true then
    Option.bind (ref14_parser_stop N y28.2 y28.1.at_ 140) fun y41 =>
    k23 y41
   else
    k23 y28.2) fun k34 =>
  if (y28.2.fail == 0) = true then
   k34 (y28.1.kind != 1)
  else
   k34 false
def jrd_decoder_fail (N : Nat) (a0 : JrdDecoder) (a1 : Int) : Option (JrdDecoder) :=
 if (a0.e == 0) = true then
  some ((JrdDecoder.mk a1))
 else
  some (a0)
def jrd_decoder_text (N : Nat) (a0 : JrdDecoder) (a1 : ApiValue) : Option ((List UInt8) × JrdDecoder) :=
 if (a1.kind != 5) = true then
  Option.bind (jrd_decoder_fail N a0 160) fun y9 =>
  some ([], y9)
 else
  some (a1.text, a0)
def jsondoc_Get_L1 (N : Nat) (a0 : ApiValue) (a1 : (List UInt8)) (k5 : (Unit → Option (ApiValue × Bool))) : Nat → Int → Option (ApiValue × Bool)
  | 0, _ => none
  | k + 1, s11 =>
  if (decide (s11 < (a0.keys.length : Int))) = true then
   Option.bind (idx a0.keys s11) fun x20 =>
   joinK (fun j23 : Bool =>
    if j23 = true then
     Option.bind (idx a0.items s11) fun x33 =>
     some (x33, true)
    else
     jsondoc_Get_L1 N a0 a1 k5 k (wr .i64 (s11 + 1))) fun k24 =>
   if (a0.kind == 7) = true then
    if (decide (s11 < (a0.items.length : Int))) = true then
     k24 (x20 == a1)
    else
     k24 false
   else
    k24 false
  else
   k5 ()
def jsondoc_Get (N : Nat) (a0 : ApiValue) (a1 : (List UInt8)) : Option (ApiValue × Bool) :=
 joinK (fun j4 : Unit =>
  some ((ApiValue.mk 0 [] [] []), false)) fun k5 =>
 jsondoc_Get_L1 N a0 a1 k5 N 0
def jrd_decoder_member (N : Nat) (a0 : JrdDecoder) (a1 : ApiValue) (a2 : (List UInt8)) : Option ((List UInt8) × JrdDecoder) :=
 Option.bind (jsondoc_Get N a1 a2) fun y5 =>
 if y5.2 = true then
  Option.bind (jrd_decoder_text N a0 y5.1) fun y15 =>
  some (y15.1, y15.2)
 else
  some ([], a0)
def jrd_count (N : Nat) (a0 : ApiValue) : Option (Int) :=
 if (a0.kind == 7) = true then
  some ((if (a0.items.length : Int) < (a0.keys.length : Int) then (a0.items.length : Int) else (a0.keys.length : Int)))
 else
  some ((a0.items.length : Int))
def jrd_decoder_items (N : Nat) (a0 : JrdDecoder) (a1 : ApiValue) (a2 : (List UInt8)) (a3 : Int) (a4 : Int) : Option (ApiValue × JrdDecoder) :=
 Option.bind (jsondoc_Get N a1 a2) fun y5 =>
 joinK (fun j12 : Bool =>
  if j12 = true then
   some ((ApiValue.mk 0 [] [] []), a0)
  else
   if (y5.1.kind != a3) = true then
    Option.bind (jrd_decoder_fail N a0 160) fun y26 =>
    some ((ApiValue.mk 0 [] [] []), y26)
   else
    Option.bind (jrd_count N y5.1) fun y34 =>
    if (decide (y34 > a4)) = true then
     Option.bind (jrd_decoder_fail N a0 161) fun y41 =>
     some ((ApiValue.mk 0 [] [] []), y41)
    else
     some (y5.1, a0)) fun k13 =>
 if y5.2 = true then
  k13 (a0.e != 0)
 else
  k13 true
def jrd_decoder_properties_L1 (N : Nat) (a3 : Bool) (y7 : ApiValue × JrdDecoder) (k13 : ((List ApiProperty) × JrdDecoder → Option ((List ApiProperty) × JrdDecoder))) : Nat → (List ApiProperty) → Int → JrdDecoder → Option ((List ApiProperty) × JrdDecoder)
  | 0, _, _, _ => none
  | k + 1, s9, s21, bi0 =>
  if (decide (s21 < (y7.1.items.length : Int))) = true then
   Option.bind (idx y7.1.items s21) fun x28 =>
   if (decide (s21 ≥ (y7.1.keys.length : Int))) = true then
    k13 (s9, bi0)
   else
    Option.bind (idx y7.1.keys s21) fun x36 =>
    joinK (fun j39 : (List UInt8) × Bool × JrdDecoder =>
     grd (fitsA (s9.length + 1) 40) (
     jrd_decoder_properties_L1 N a3 y7 k13 k (s9 ++ [(ApiProperty.mk x36 j39.1 j39.2.1)]) (wr .i64 (s21 + 1)) j39.2.2)) fun k40 =>
    joinK (fun j44 : Bool =>
     if j44 = true then
      k40 ([], true, bi0)
     else
      Option.bind (jrd_decoder_text N bi0 x28) fun y53 =>
      k40 (y53.1, false, y53.2)) fun k45 =>
    if a3 = true then
     k45 (x28.kind == 1)
    else
     k45 false
  else
   k13 (s9, bi0)
def jrd_decoder_properties (N : Nat) (a0 : JrdDecoder) (a1 : ApiValue) (a2 : (List UInt8)) (a3 : Bool) : Option ((List ApiProperty) × JrdDecoder) :=
 Option.bind (jrd_decoder_items N a0 a1 a2 7 64) fun y7 =>
 joinK (fun j12 : (List ApiProperty) × JrdDecoder =>
  some (j12.1, j12.2)) fun k13 =>
 jrd_decoder_properties_L1 N a3 y7 k13 N [] 0 y7.2
def jrd_decoder_link (N : Nat) (a0 : JrdDecoder) (a1 : ApiValue) : Option (ApiLink × JrdDecoder) :=
 joinK (fun j6 : JrdDecoder =>
  Option.bind (jrd_decoder_member N j6 a1 ([114, 101, 108] : List UInt8)) fun y26 =>
  Option.bind (jrd_decoder_member N y26.2 a1 ([116, 121, 112, 101] : List UInt8)) fun y32 =>
  Option.bind (jrd_decoder_member N y32.2 a1 ([104, 114, 101, 102] : List UInt8)) fun y38 =>
  Option.bind (jrd_decoder_member N y38.2 a1 ([116, 101, 109, 112, 108, 97, 116, 101] : List UInt8)) fun y44 =>
  Option.bind (jrd_decoder_properties N y44.2 a1 ([116, 105, 116, 108, 101, 115] : List UInt8) false) fun y50 =>
  Option.bind (jrd_decoder_properties N y50.2 a1 ([112, 114, 111, 112, 101, 114, 116, 105, 101, 115] : List UInt8) true) fun y56 =>
  some ((ApiLink.mk y26.1 y32.1 y38.1 y44.1 y50.1 y56.1), y56.2)) fun k7 =>
 Option.bind (jsondoc_Get N a1 ([114, 101, 108] : List UInt8)) fun y12 =>
 if y12.2 = true then
  k7 a0
 else
  Option.bind (jrd_decoder_fail N a0 160) fun y20 =>
  k7 y20
def jrd_Decode_L2 (N : Nat) (k64 : ((List ApiLink) × JrdDecoder → Option (ApiJRD × Int))) (y69 : ApiValue × JrdDecoder) : Nat → Int → (List ApiLink) → JrdDecoder → Option (ApiJRD × Int)
  | 0, _, _, _ => none
  | k + 1, s40, bn3_links, bn2 =>
  if (decide (s40 < (y69.1.items.length : Int))) = true then
   joinK (fun j80 : (List ApiLink) × JrdDecoder =>
    jrd_Decode_L2 N k64 y69 k (wr .i64 (s40 + 1)) j80.1 j80.2) fun k81 =>
   Option.bind (idx y69.1.items s40) fun x87 =>
   Option.bind (jrd_decoder_link N bn2 x87) fun y90 =>
   grd (fitsA (bn3_links.length + 1) 112) (
   k81 ((bn3_links ++ [y90.1]), y90.2))
  else
   k64 (bn3_links, bn2)
def jrd_Decode_L1 (N : Nat) (k21 : ((List (List UInt8)) × JrdDecoder → Option (ApiJRD × Int))) (y26 : ApiValue × JrdDecoder) : Nat → Int → (List (List UInt8)) → JrdDecoder → Option (ApiJRD × Int)
  | 0, _, _, _ => none
  | k + 1, s21, bn3_aliases, bn2 =>
  if (decide (s21 < (y26.1.items.length : Int))) = true then
   joinK (fun j37 : (List (List UInt8)) × JrdDecoder =>
    jrd_Decode_L1 N k21 y26 k (wr .i64 (s21 + 1)) j37.1 j37.2) fun k38 =>
   Option.bind (idx y26.1.items s21) fun x44 =>
   Option.bind (jrd_decoder_text N bn2 x44) fun y47 =>
   grd (fitsA (bn3_aliases.length + 1) 16) (
   k38 ((bn3_aliases ++ [y47.1]), y47.2))
  else
   k21 (bn3_aliases, bn2)
def jrd_Decode (N : Nat) (a0 : ApiValue) : Option (ApiJRD × Int) :=
 if (a0.kind != 7) = true then
  some ((ApiJRD.mk [] [] [] []), 160)
 else
  Option.bind (jrd_decoder_member N (JrdDecoder.mk 0) a0 ([115, 117, 98, 106, 101, 99, 116] : List UInt8)) fun y15 =>
  joinK (fun j20 : (List (List UInt8)) × JrdDecoder =>
   Option.bind (jrd_decoder_properties N j20.2 a0 ([112, 114, 111, 112, 101, 114, 116, 105, 101, 115] : List UInt8) true) fun y58 =>
   joinK (fun j63 : (List ApiLink) × JrdDecoder =>
    if (j63.2.e != 0) = true then
     some ((ApiJRD.mk [] [] [] []), j63.2.e)
    else
     some ((ApiJRD.mk y15.1 j20.1 y58.1 j63.1), 0)) fun k64 =>
   Option.bind (jrd_decoder_items N y58.2 a0 ([108, 105, 110, 107, 115] : List UInt8) 6 64) fun y69 =>
   jrd_Decode_L2 N k64 y69 N 0 [] y69.2) fun k21 =>
  Option.bind (jrd_decoder_items N y15.2 a0 ([97, 108, 105, 97, 115, 101, 115] : List UInt8) 6 64) fun y26 =>
  jrd_Decode_L1 N k21 y26 N 0 [] y26.2
def jrd_Find_L1 (N : Nat) (a0 : ApiJRD) (a1 : (List UInt8)) (k7 : ((List ApiLink) → Option ((List ApiLink)))) : Nat → (List ApiLink) → Int → Option ((List ApiLink))
  | 0, _, _ => none
  | k + 1, s5, s11 =>
  if (decide (s11 < (a0.links.length : Int))) = true then
   joinK (fun j19 : (List ApiLink) =>
    jrd_Find_L1 N a0 a1 k7 k j19 (wr .i64 (s11 + 1))) fun k20 =>
   Option.bind (idx a0.links s11) fun x26 =>
   if (x26.rel == a1) = true then
    grd (fitsA (([] : List ApiProperty).length + x26.titles.length) 40) (
    grd (fitsA (([] : List ApiProperty).length + x26.properties.length) 40) (
    grd (fitsA (s5.length + 1) 112) (
    k20 (s5 ++ [x26]))))
   else
    k20 s5
  else
   k7 s5
def jrd_Find (N : Nat) (a0 : ApiJRD) (a1 : (List UInt8)) : Option ((List ApiLink)) :=
 joinK (fun j6 : (List ApiLink) =>
  some (j6)) fun k7 =>
 jrd_Find_L1 N a0 a1 k7 N [] 0
def law16_sane (N : Nat)  : Option (Bool) :=
 Option.bind (ref14_Parse N ([123, 34, 115, 117, 98, 106, 101, 99, 116, 34, 58, 34, 97, 99, 99, 116, 58, 97, 64, 98, 46, 101, 120, 97, 109, 112, 108, 101, 34, 44, 34, 108, 105, 110, 107, 115, 34, 58, 91, 123, 34, 114, 101, 108, 34, 58, 34, 115, 101, 108, 102, 34, 44, 34, 104, 114, 101, 102, 34, 58, 34, 104, 116, 116, 112, 115, 58, 47, 47, 98, 46, 101, 120, 97, 109, 112, 108, 101, 47, 97, 34, 125, 93, 125] : List UInt8)) fun y5 =>
 Option.bind (ref14_Parse N ([123, 34, 108, 105, 110, 107, 115, 34, 58, 91, 123, 125, 93, 125] : List UInt8)) fun y11 =>
 Option.bind (jrd_Decode N y5.1) fun y17 =>
 Option.bind (jrd_Decode N y11.1) fun y23 =>
 if (y17.2 == 0) = true then
  if (y17.1.subject == ([97, 99, 99, 116, 58, 97, 64, 98, 46, 101, 120, 97, 109, 112, 108, 101] : List UInt8)) = true then
   if ((y17.1.links.length : Int) == 1) = true then
    Option.bind (idx y17.1.links 0) fun x32 =>
    if (x32.rel == ([115, 101, 108, 102] : List UInt8)) = true then
     if (y23.2 == 160) = true then
      Option.bind (jrd_Find N y17.1 ([115, 101, 108, 102] : List UInt8)) fun y36 =>
      some (((y36.length : Int) == 1))
     else
      some (false)
    else
     some (false)
   else
    some (false)
  else
   some (false)
 else
  some (false)
def keep_JRD_L2 (N : Nat) (a0 : ApiJRD) (k45 : (Unit → Option (Bool))) : Nat → Int → Option (Bool)
  | 0, _ => none
  | k + 1, s43 =>
  if (decide (s43 < (a0.links.length : Int))) = true then
   Option.bind (idx a0.links s43) fun x60 =>
   joinK (fun j63 : Bool =>
    if j63 = true then
     some (false)
    else
     keep_JRD_L2 N a0 k45 k (wr .i64 (s43 + 1))) fun k64 =>
   if (decide ((wr .i64 ((wr .i64 ((wr .i64 ((x60.rel.length : Int) + (x60.type_.length : Int))) + (x60.href.length : Int))) + (x60.template.length : Int))) > 900)) = true then
    k64 true
   else
    if (decide ((x60.titles.length : Int) > 70)) = true then
     k64 true
    else
     k64 (decide ((x60.properties.length : Int) > 70))
  else
   k45 ()
def keep_JRD_L1 (N : Nat) (a0 : ApiJRD) (k18 : (Unit → Option (Bool))) : Nat → Int → Option (Bool)
  | 0, _ => none
  | k + 1, s32 =>
  if (decide (s32 < (a0.aliases.length : Int))) = true then
   Option.bind (idx a0.aliases s32) fun x33 =>
   if (decide ((x33.length : Int) > 300)) = true then
    some (false)
   else
    keep_JRD_L1 N a0 k18 k (wr .i64 (s32 + 1))
  else
   k18 ()
def keep_JRD (N : Nat) (a0 : ApiJRD) : Option (Bool) :=
 joinK (fun j5 : Bool =>
  if j5 = true then
   some (false)
  else
   joinK (fun j17 : Unit =>
    joinK (fun j44 : Unit =>
     some (true)) fun k45 =>
    keep_JRD_L2 N a0 k45 N 0) fun k18 =>
   keep_JRD_L1 N a0 k18 N 0) fun k6 =>
 if (decide ((a0.subject.length : Int) > 300)) = true then
  k6 true
 else
  if (decide ((a0.aliases.length : Int) > 70)) = true then
   k6 true
  else
   if (decide ((a0.links.length : Int) > 70)) = true then
    k6 true
   else
    k6 (decide ((a0.properties.length : Int) > 70))
def ref16_Text (N : Nat) (a0 : (List UInt8)) : Option (ApiValue) :=
 some ((ApiValue.mk 5 a0 [] []))
def ref16_with (N : Nat) (a0 : ApiValue) (a1 : (List UInt8)) (a2 : ApiValue) : Option (ApiValue) :=
 Option.bind (sub a0.keys 0 (a0.keys.length : Int)) fun x5 =>
 grd (fitsA (x5.length + 1) 16) (
 Option.bind (sub a0.items 0 (a0.items.length : Int)) fun x8 =>
 grd (fitsA (x8.length + 1) 72) (
 some ((ApiValue.mk a0.kind a0.text (x5 ++ [a1]) (x8 ++ [a2])))))
def ref16_some (N : Nat) (a0 : ApiValue) (a1 : (List UInt8)) (a2 : (List UInt8)) : Option (ApiValue) :=
 if (a2 == []) = true then
  some (a0)
 else
  Option.bind (ref16_Text N a2) fun y11 =>
  Option.bind (ref16_with N a0 a1 y11) fun y15 =>
  some (y15)
def ref16_Array_L1 (N : Nat) (a0 : (List (List UInt8))) (k7 : ((List ApiValue) → Option (ApiValue))) : Nat → Int → (List ApiValue) → Option (ApiValue)
  | 0, _, _ => none
  | k + 1, s9, bn1_items =>
  if (decide (s9 < (a0.length : Int))) = true then
   joinK (fun j19 : (List ApiValue) =>
    ref16_Array_L1 N a0 k7 k (wr .i64 (s9 + 1)) j19) fun k20 =>
   Option.bind (idx a0 s9) fun x26 =>
   Option.bind (ref16_Text N x26) fun y29 =>
   grd (fitsA (bn1_items.length + 1) 72) (
   k20 (bn1_items ++ [y29]))
  else
   k7 bn1_items
def ref16_Array (N : Nat) (a0 : (List (List UInt8))) : Option (ApiValue) :=
 joinK (fun j6 : (List ApiValue) =>
  some ((ApiValue.mk 6 [] [] j6))) fun k7 =>
 ref16_Array_L1 N a0 k7 N 0 []
def ref16_members_L1 (N : Nat) (a2 : (List ApiProperty)) (k13 : (Int × (List UInt8) × (List (List UInt8)) × (List ApiValue) → Option (ApiValue))) : Nat → Int → Int → (List UInt8) → (List (List UInt8)) → (List ApiValue) → Option (ApiValue)
  | 0, _, _, _, _, _ => none
  | k + 1, s17, bn2_kind, bn2_text, bn2_keys, bn2_items =>
  if (decide (s17 < (a2.length : Int))) = true then
   joinK (fun j25 : ApiValue =>
    ref16_members_L1 N a2 k13 k (wr .i64 (s17 + 1)) j25.kind j25.text j25.keys j25.items) fun k26 =>
   Option.bind (idx a2 s17) fun x32 =>
   if x32.null = true then
    Option.bind (ref16_with N (ApiValue.mk bn2_kind bn2_text bn2_keys bn2_items) x32.name (ApiValue.mk 1 [] [] [])) fun y38 =>
    k26 y38
   else
    Option.bind (ref16_Text N x32.value) fun y43 =>
    Option.bind (ref16_with N (ApiValue.mk bn2_kind bn2_text bn2_keys bn2_items) x32.name y43) fun y47 =>
    k26 y47
  else
   k13 (bn2_kind, bn2_text, bn2_keys, bn2_items)
def ref16_members (N : Nat) (a0 : ApiValue) (a1 : (List UInt8)) (a2 : (List ApiProperty)) : Option (ApiValue) :=
 if ((a2.length : Int) == 0) = true then
  some (a0)
 else
  joinK (fun j12 : Int × (List UInt8) × (List (List UInt8)) × (List ApiValue) =>
   Option.bind (ref16_with N a0 a1 (ApiValue.mk j12.1 j12.2.1 j12.2.2.1 j12.2.2.2)) fun y57 =>
   some (y57)) fun k13 =>
  ref16_members_L1 N a2 k13 N 0 7 [] [] []
def ref16_Encode_L1 (N : Nat) (a0 : ApiJRD) (k42 : ((List ApiValue) → Option (ApiValue))) : Nat → Int → (List ApiValue) → Option (ApiValue)
  | 0, _, _ => none
  | k + 1, s34, bn30_items =>
  if (decide (s34 < (a0.links.length : Int))) = true then
   Option.bind (idx a0.links s34) fun x57 =>
   Option.bind (ref16_Text N x57.rel) fun y61 =>
   Option.bind (ref16_with N (ApiValue.mk 7 [] [] []) ([114, 101, 108] : List UInt8) y61) fun y65 =>
   Option.bind (ref16_some N y65 ([116, 121, 112, 101] : List UInt8) x57.type_) fun y71 =>
   Option.bind (ref16_some N y71 ([104, 114, 101, 102] : List UInt8) x57.href) fun y75 =>
   Option.bind (ref16_some N y75 ([116, 101, 109, 112, 108, 97, 116, 101] : List UInt8) x57.template) fun y79 =>
   Option.bind (ref16_members N y79 ([116, 105, 116, 108, 101, 115] : List UInt8) x57.titles) fun y85 =>
   Option.bind (ref16_members N y85 ([112, 114, 111, 112, 101, 114, 116, 105, 101, 115] : List UInt8) x57.properties) fun y89 =>
   grd (fitsA (bn30_items.length + 1) 72) (
   ref16_Encode_L1 N a0 k42 k (wr .i64 (s34 + 1)) (bn30_items ++ [y89]))
  else
   k42 bn30_items
def ref16_Encode (N : Nat) (a0 : ApiJRD) : Option (ApiValue) :=
 Option.bind (ref16_some N (ApiValue.mk 7 [] [] []) ([115, 117, 98, 106, 101, 99, 116] : List UInt8) a0.subject) fun y5 =>
 joinK (fun j10 : ApiValue =>
  Option.bind (ref16_members N j10 ([112, 114, 111, 112, 101, 114, 116, 105, 101, 115] : List UInt8) a0.properties) fun y28 =>
  if ((a0.links.length : Int) == 0) = true then
   some (y28)
  else
   joinK (fun j41 : (List ApiValue) =>
    Option.bind (ref16_with N y28 ([108, 105, 110, 107, 115] : List UInt8) (ApiValue.mk 6 [] [] j41)) fun y100 =>
    some (y100)) fun k42 =>
   ref16_Encode_L1 N a0 k42 N 0 []) fun k11 =>
 if (decide ((a0.aliases.length : Int) > 0)) = true then
  Option.bind (ref16_Array N a0.aliases) fun y18 =>
  Option.bind (ref16_with N y5 ([97, 108, 105, 97, 115, 101, 115] : List UInt8) y18) fun y22 =>
  k11 y22
 else
  k11 y5
def ref16_Find_L1 (N : Nat) (a0 : ApiJRD) (a1 : (List UInt8)) (k7 : ((List ApiLink) → Option ((List ApiLink)))) : Nat → (List ApiLink) → Int → Option ((List ApiLink))
  | 0, _, _ => none
  | k + 1, s5, s11 =>
  if (decide (s11 < (a0.links.length : Int))) = true then
   joinK (fun j19 : (List ApiLink) =>
    ref16_Find_L1 N a0 a1 k7 k j19 (wr .i64 (s11 + 1))) fun k20 =>
   Option.bind (idx a0.links s11) fun x26 =>
   if (x26.rel == a1) = true then
    grd (fitsA (s5.length + 1) 112) (
    k20 (s5 ++ [x26]))
   else
    k20 s5
  else
   k7 s5
def ref16_Find (N : Nat) (a0 : ApiJRD) (a1 : (List UInt8)) : Option ((List ApiLink)) :=
 joinK (fun j6 : (List ApiLink) =>
  some (j6)) fun k7 =>
 ref16_Find_L1 N a0 a1 k7 N [] 0
def ref14_Same_L2 (N : Nat) (a0 : ApiValue) (a1 : ApiValue) (k51 : (Unit → Option (Bool))) : Nat → Int → Option (Bool)
  | 0, _ => none
  | k + 1, s59 =>
  if (decide (s59 < (a0.keys.length : Int))) = true then
   Option.bind (idx a0.keys s59) fun x68 =>
   Option.bind (idx a1.keys s59) fun x70 =>
   if (x68 == x70) = true then
    ref14_Same_L2 N a0 a1 k51 k (wr .i64 (s59 + 1))
   else
    some (false)
  else
   k51 ()
def ref14_Same_L1 (N : Nat) (a0 : ApiValue) (a1 : ApiValue) (rec_ref14_Same : (ApiValue → ApiValue → Option (Bool))) (k18 : (Unit → Option (Bool))) : Nat → Int → Option (Bool)
  | 0, _ => none
  | k + 1, s40 =>
  if (decide (s40 < (a0.items.length : Int))) = true then
   Option.bind (idx a0.items s40) fun x35 =>
   Option.bind (idx a1.items s40) fun x37 =>
   Option.bind (rec_ref14_Same x35 x37) fun y39 =>
   if y39 = true then
    ref14_Same_L1 N a0 a1 rec_ref14_Same k18 k (wr .i64 (s40 + 1))
   else
    some (false)
  else
   k18 ()
def ref14_Same (N : Nat) : Nat → ApiValue → ApiValue → Option (Bool)
  | 0, _, _ => none
  | D + 1, a0, a1 =>
  joinK (fun j5 : Bool =>
   if j5 = true then
    some (false)
   else
    joinK (fun j17 : Unit =>
     joinK (fun j50 : Unit =>
      some (true)) fun k51 =>
     ref14_Same_L2 N a0 a1 k51 N 0) fun k18 =>
    ref14_Same_L1 N a0 a1 (ref14_Same N D) k18 N 0) fun k6 =>
  if (a0.kind != a1.kind) = true then
   k6 true
  else
   if (a0.text == a1.text) = true then
    if ((a0.items.length : Int) != (a1.items.length : Int)) = true then
     k6 true
    else
     k6 ((a0.keys.length : Int) != (a1.keys.length : Int))
   else
    k6 true
def jrd_object_add (N : Nat) (a0 : JrdObject) (a1 : (List UInt8)) (a2 : ApiValue) : Option (JrdObject) :=
 grd (fitsA (a0.value.keys.length + 1) 16) (
 grd (fitsA (a0.value.items.length + 1) 72) (
 some ((JrdObject.mk (ApiValue.mk a0.value.kind a0.value.text (a0.value.keys ++ [a1]) (a0.value.items ++ [a2]))))))
def jrd_object_text (N : Nat) (a0 : JrdObject) (a1 : (List UInt8)) (a2 : (List UInt8)) : Option (JrdObject) :=
 if (a2 == []) = true then
  some (a0)
 else
  Option.bind (jrd_object_add N a0 a1 (ApiValue.mk 5 a2 [] [])) fun y5 =>
  some (y5)
def jrd_object_list (N : Nat) (a0 : JrdObject) (a1 : (List UInt8)) (a2 : (List ApiValue)) : Option (JrdObject) :=
 if (decide ((a2.length : Int) > 0)) = true then
  Option.bind (jrd_object_add N a0 a1 (ApiValue.mk 6 [] [] a2)) fun y5 =>
  some (y5)
 else
  some (a0)
def jrd_object_properties_L1 (N : Nat) (a2 : (List ApiProperty)) (k9 : (Int × (List UInt8) × (List (List UInt8)) × (List ApiValue) → Option (JrdObject))) : Nat → Int → Int → (List UInt8) → (List (List UInt8)) → (List ApiValue) → Option (JrdObject)
  | 0, _, _, _, _, _ => none
  | k + 1, s17, bn_value_kind, bn_value_text, bn_value_keys, bn_value_items =>
  if (decide (s17 < (a2.length : Int))) = true then
   Option.bind (idx a2 s17) fun x24 =>
   joinK (fun j29 : Int × (List UInt8) =>
    Option.bind (jrd_object_add N (JrdObject.mk (ApiValue.mk bn_value_kind bn_value_text bn_value_keys bn_value_items)) x24.name (ApiValue.mk j29.1 j29.2 [] [])) fun y38 =>
    jrd_object_properties_L1 N a2 k9 k (wr .i64 (s17 + 1)) y38.value.kind y38.value.text y38.value.keys y38.value.items) fun k30 =>
   if x24.null = true then
    k30 (1, [])
   else
    k30 (5, x24.value)
  else
   k9 (bn_value_kind, bn_value_text, bn_value_keys, bn_value_items)
def jrd_object_properties (N : Nat) (a0 : JrdObject) (a1 : (List UInt8)) (a2 : (List ApiProperty)) : Option (JrdObject) :=
 if ((a2.length : Int) == 0) = true then
  some (a0)
 else
  joinK (fun j8 : Int × (List UInt8) × (List (List UInt8)) × (List ApiValue) =>
   Option.bind (jrd_object_add N a0 a1 (ApiValue.mk j8.1 j8.2.1 j8.2.2.1 j8.2.2.2)) fun y47 =>
   some (y47)) fun k9 =>
  jrd_object_properties_L1 N a2 k9 N 0 7 [] [] []
def jrd_Encode_L2 (N : Nat) (a0 : ApiJRD) (k51 : ((List ApiValue) → Option (ApiValue))) : Nat → (List ApiValue) → Int → Option (ApiValue)
  | 0, _, _ => none
  | k + 1, s5, s37 =>
  if (decide (s37 < (a0.links.length : Int))) = true then
   Option.bind (idx a0.links s37) fun x66 =>
   Option.bind (jrd_object_add N (JrdObject.mk (ApiValue.mk 7 [] [] [])) ([114, 101, 108] : List UInt8) (ApiValue.mk 5 x66.rel [] [])) fun y72 =>
   Option.bind (jrd_object_text N y72 ([116, 121, 112, 101] : List UInt8) x66.type_) fun y78 =>
   Option.bind (jrd_object_text N y78 ([104, 114, 101, 102] : List UInt8) x66.href) fun y84 =>
   Option.bind (jrd_object_text N y84 ([116, 101, 109, 112, 108, 97, 116, 101] : List UInt8) x66.template) fun y90 =>
   Option.bind (jrd_object_properties N y90 ([116, 105, 116, 108, 101, 115] : List UInt8) x66.titles) fun y96 =>
   Option.bind (jrd_object_properties N y96 ([112, 114, 111, 112, 101, 114, 116, 105, 101, 115] : List UInt8) x66.properties) fun y102 =>
   grd (fitsA (s5.length + 1) 72) (
   jrd_Encode_L2 N a0 k51 k (s5 ++ [y102.value]) (wr .i64 (s37 + 1)))
  else
   k51 s5
def jrd_Encode_L1 (N : Nat) (a0 : ApiJRD) (k15 : ((List ApiValue) → Option (ApiValue))) : Nat → (List ApiValue) → Int → Option (ApiValue)
  | 0, _, _ => none
  | k + 1, s4, s19 =>
  if (decide (s19 < (a0.aliases.length : Int))) = true then
   Option.bind (idx a0.aliases s19) fun x30 =>
   grd (fitsA (s4.length + 1) 72) (
   jrd_Encode_L1 N a0 k15 k (s4 ++ [(ApiValue.mk 5 x30 [] [])]) (wr .i64 (s19 + 1)))
  else
   k15 s4
def jrd_Encode (N : Nat) (a0 : ApiJRD) : Option (ApiValue) :=
 Option.bind (jrd_object_text N (JrdObject.mk (ApiValue.mk 7 [] [] [])) ([115, 117, 98, 106, 101, 99, 116] : List UInt8) a0.subject) fun y7 =>
 joinK (fun j14 : (List ApiValue) =>
  Option.bind (jrd_object_list N y7 ([97, 108, 105, 97, 115, 101, 115] : List UInt8) j14) fun y39 =>
  Option.bind (jrd_object_properties N y39 ([112, 114, 111, 112, 101, 114, 116, 105, 101, 115] : List UInt8) a0.properties) fun y45 =>
  joinK (fun j50 : (List ApiValue) =>
   Option.bind (jrd_object_list N y45 ([108, 105, 110, 107, 115] : List UInt8) j50) fun y113 =>
   some (y113.value)) fun k51 =>
  jrd_Encode_L2 N a0 k51 N [] 0) fun k15 =>
 jrd_Encode_L1 N a0 k15 N [] 0
def ref16_sameProperties_L1 (N : Nat) (a0 : (List ApiProperty)) (a1 : (List ApiProperty)) (k11 : (Unit → Option (Bool))) : Nat → Int → Option (Bool)
  | 0, _ => none
  | k + 1, s13 =>
  if (decide (s13 < (a0.length : Int))) = true then
   Option.bind (idx a0 s13) fun x28 =>
   Option.bind (idx a1 s13) fun x30 =>
   if (x28.name == x30.name && (x28.value == x30.value && x28.null == x30.null)) = true then
    ref16_sameProperties_L1 N a0 a1 k11 k (wr .i64 (s13 + 1))
   else
    some (false)
  else
   k11 ()
def ref16_sameProperties (N : Nat) (a0 : (List ApiProperty)) (a1 : (List ApiProperty)) : Option (Bool) :=
 if ((a0.length : Int) != (a1.length : Int)) = true then
  some (false)
 else
  joinK (fun j10 : Unit =>
   some (true)) fun k11 =>
  ref16_sameProperties_L1 N a0 a1 k11 N 0
def ref16_SameLink (N : Nat) (a0 : ApiLink) (a1 : ApiLink) : Option (Bool) :=
 if (a0.rel == a1.rel) = true then
  if (a0.type_ == a1.type_) = true then
   if (a0.href == a1.href) = true then
    if (a0.template == a1.template) = true then
     Option.bind (ref16_sameProperties N a0.titles a1.titles) fun y9 =>
     if y9 = true then
      Option.bind (ref16_sameProperties N a0.properties a1.properties) fun y14 =>
      some (y14)
     else
      some (false)
    else
     some (false)
   else
    some (false)
  else
   some (false)
 else
  some (false)
def law16_JrdEncodes_L1 (N : Nat) (y21 : (List ApiLink)) (y25 : (List ApiLink)) (k54 : (Unit → Option (Bool))) : Nat → Int → Option (Bool)
  | 0, _ => none
  | k + 1, s34 =>
  if (decide (s34 < (y21.length : Int))) = true then
   Option.bind (idx y21 s34) fun x71 =>
   Option.bind (idx y25 s34) fun x73 =>
   Option.bind (ref16_SameLink N x71 x73) fun y75 =>
   if y75 = true then
    law16_JrdEncodes_L1 N y21 y25 k54 k (wr .i64 (s34 + 1))
   else
    some (false)
  else
   k54 ()
def law16_JrdEncodes (N : Nat) (a0 : ApiJRD) (a1 : (List UInt8)) : Option (Bool) :=
 Option.bind (law16_sane N) fun y6 =>
 if y6 = true then
  Option.bind (keep_JRD N a0) fun y14 =>
  if y14 = true then
   Option.bind (jrd_Find N a0 a1) fun y21 =>
   Option.bind (ref16_Find N a0 a1) fun y25 =>
   joinK (fun j31 : Bool =>
    if j31 = true then
     some (false)
    else
     joinK (fun j53 : Unit =>
      some (true)) fun k54 =>
     law16_JrdEncodes_L1 N y21 y25 k54 N 0) fun k32 =>
   if ((y21.length : Int) != (y25.length : Int)) = true then
    k32 true
   else
    Option.bind (jrd_Encode N a0) fun y37 =>
    Option.bind (ref16_Encode N a0) fun y41 =>
    Option.bind (ref14_Same N N y37 y41) fun y45 =>
    k32 (!y45)
  else
   some (true)
 else
  some (false)
end Go.VM
