/-
  Printed by the decompiler (dec.py) out of the seat's translation. Each function of the translation as a functional program. Conditions: none.
-/
import Derived.Test.YtabodolbdalimaaDt
namespace Go.Proofs.Ytabodolbdalimaa
open Go Gv
set_option linter.unusedVariables false
set_option linter.unusedSimpArgs false
set_option maxRecDepth 100000
def L_ref01_Read (x0 : T_api_Value) : Option (Vector Bool 128) :=
  (loopM (σ := Int × (Vector Bool 128)) (ε := (Int × Bool × (Vector Bool 128))) FUEL (fun s1 =>
    cond (decide (s1.1 < 64)) (
      (idx 128 s1.1).bind fun k1 =>
      (some (vset s1.2 k1 (((x0.f_Lo >>> (BitVec.ofInt 64 s1.1).toNat) &&& (1#64)) == (1#64)))).bind fun z1 =>
      (idx 128 (w64 (s1.1 + 64))).bind fun k2 =>
      (some (vset z1 k2 (((x0.f_Hi >>> (BitVec.ofInt 64 s1.1).toNat) &&& (1#64)) == (1#64)))).bind fun z2 =>
      some (.inl (w64 (s1.1 + 1), z2))) (
      some (.inr (s1.1, decide (s1.1 < 64), s1.2)))) (0, (default : Vector Bool 128))).bind fun e1 =>
  some e1.2.2
def L_ref01_Make (x0 : Vector Bool 128) : Option T_api_Value :=
  (loopM (σ := Int × T_api_Value) (ε := (Int × Bool × T_api_Value)) FUEL (fun s1 =>
    cond (decide (s1.1 < 64)) (
      (idx 128 s1.1).bind fun k1 =>
      (cond (vget x0 k1) (
        (some ({ s1.2 with f_Lo := s1.2.f_Lo ||| ((1#64) <<< (BitVec.ofInt 64 s1.1).toNat) })).bind fun z2 =>
        some z2) (
        some s1.2)).bind fun m1 =>
      (idx 128 (w64 (s1.1 + 64))).bind fun k2 =>
      (cond (vget x0 k2) (
        (some ({ m1 with f_Hi := m1.f_Hi ||| ((1#64) <<< (BitVec.ofInt 64 s1.1).toNat) })).bind fun z1 =>
        some z1) (
        some m1)).bind fun m2 =>
      some (.inl (w64 (s1.1 + 1), m2))) (
      some (.inr (s1.1, decide (s1.1 < 64), s1.2)))) (0, (default : T_api_Value))).bind fun e1 =>
  some e1.2.2
def L_ref01_And (x0 : T_api_Value) (x1 : T_api_Value) : Option T_api_Value :=
  (L_ref01_Read x0).bind fun y1 =>
  (L_ref01_Read x1).bind fun y2 =>
  (loopM (σ := Int × (Vector Bool 128)) (ε := (Int × Bool × (Vector Bool 128))) FUEL (fun s1 =>
    cond (decide (s1.1 < 128)) (
      (idx 128 s1.1).bind fun k1 =>
      (condM (vget s1.2 k1) true (idx 128 s1.1)).bind fun k2 =>
      (idx 128 s1.1).bind fun k3 =>
      some (.inl (w64 (s1.1 + 1), vset s1.2 k3 ((vget s1.2 k1) && (vget y2 k2))))) (
      some (.inr (s1.1, decide (s1.1 < 128), s1.2)))) (0, y1)).bind fun e1 =>
  (L_ref01_Make e1.2.2).bind fun y3 =>
  some y3
def L_law25_canonical (x0 : T_cube_Cube) : Option T_cube_Cube :=
  (loopM (σ := Int × T_cube_Cube) (ε := (Int × Bool × T_cube_Cube)) FUEL (fun s1 =>
    cond (decide (s1.1 < 4)) (
      (idx 4 s1.1).bind fun k1 =>
      (idx 4 s1.1).bind fun k2 =>
      (L_ref01_And (vget s1.2.f_Value k1) (vget s1.2.f_Mask k2)).bind fun y1 =>
      (idx 4 s1.1).bind fun k3 =>
      some (.inl (w64 (s1.1 + 1), { s1.2 with f_Value := vset s1.2.f_Value k3 y1 }))) (
      some (.inr (s1.1, decide (s1.1 < 4), s1.2)))) (0, x0)).bind fun e1 =>
  some e1.2.2
def L_mcase_Low (x0 : T_api_Value) (x1 : Int) : Option T_api_Value :=
  cond (decide (x1 ≥ 128)) (
    some x0) (
    cond (decide (x1 ≥ 64)) (
      (some (x0.f_Hi &&& (((1#64) <<< (BitVec.ofInt 64 (w64 (x1 - 64))).toNat) - (1#64)))).bind fun z1 =>
      some ({ f_Hi := z1, f_Lo := x0.f_Lo : T_api_Value })) (
      cond (decide (x1 ≤ 0)) (
        some (default : T_api_Value)) (
        (some ({ (default : T_api_Value) with f_Lo := x0.f_Lo &&& (((1#64) <<< (BitVec.ofInt 64 x1).toNat) - (1#64)) })).bind fun z2 =>
        some z2)))
def L_ref01_Xor (x0 : T_api_Value) (x1 : T_api_Value) : Option T_api_Value :=
  (L_ref01_Read x0).bind fun y1 =>
  (L_ref01_Read x1).bind fun y2 =>
  (loopM (σ := Int × (Vector Bool 128)) (ε := (Int × Bool × (Vector Bool 128))) FUEL (fun s1 =>
    cond (decide (s1.1 < 128)) (
      (idx 128 s1.1).bind fun k1 =>
      (idx 128 s1.1).bind fun k2 =>
      (idx 128 s1.1).bind fun k3 =>
      some (.inl (w64 (s1.1 + 1), vset s1.2 k3 ((vget s1.2 k1) != (vget y2 k2))))) (
      some (.inr (s1.1, decide (s1.1 < 128), s1.2)))) (0, y1)).bind fun e1 =>
  (L_ref01_Make e1.2.2).bind fun y3 =>
  some y3
def L_law25_near (x0 : T_cube_Cube) (x1 : T_cube_Cube) : Option T_cube_Cube :=
  (loopM (σ := Int × T_cube_Cube) (ε := (Int × Bool × T_cube_Cube)) FUEL (fun s1 =>
    cond (decide (s1.1 < 4)) (
      (idx 4 s1.1).bind fun k1 =>
      (idx 4 s1.1).bind fun k2 =>
      (L_mcase_Low (vget x1.f_Mask k2) 6).bind fun y1 =>
      (L_ref01_Xor (vget s1.2.f_Mask k1) y1).bind fun y2 =>
      (idx 4 s1.1).bind fun k3 =>
      (idx 4 s1.1).bind fun k4 =>
      (idx 4 s1.1).bind fun k5 =>
      (L_mcase_Low (vget x1.f_Value k5) 2).bind fun y3 =>
      (L_ref01_Xor (vget (({ s1.2 with f_Mask := vset s1.2.f_Mask k3 y2 }).f_Value) k4) y3).bind fun y4 =>
      (idx 4 s1.1).bind fun k6 =>
      (some ({ ({ s1.2 with f_Mask := vset s1.2.f_Mask k3 y2 }) with f_Value := vset (({ s1.2 with f_Mask := vset s1.2.f_Mask k3 y2 }).f_Value) k6 y4 })).bind fun z1 =>
      some (.inl (w64 (s1.1 + 1), z1))) (
      some (.inr (s1.1, decide (s1.1 < 4), s1.2)))) (0, x0)).bind fun e1 =>
  (L_law25_canonical e1.2.2).bind fun y5 =>
  some y5
def L_cube_combined (x0 : Vector T_api_Value 4) (x1 : Vector T_api_Value 4) (x2 : T_api_Value → T_api_Value → Option T_api_Value) : Option (Vector T_api_Value 4) :=
  (loopM (σ := Int × (Vector T_api_Value 4)) (ε := (Int × Bool × (Vector T_api_Value 4))) FUEL (fun s1 =>
    cond (decide (s1.1 < 4)) (
      (idx 4 s1.1).bind fun k1 =>
      (idx 4 s1.1).bind fun k2 =>
      (x2 (vget s1.2 k1) (vget x1 k2)).bind fun y1 =>
      (idx 4 s1.1).bind fun k3 =>
      some (.inl (w64 (s1.1 + 1), vset s1.2 k3 y1))) (
      some (.inr (s1.1, decide (s1.1 < 4), s1.2)))) (0, x0)).bind fun e1 =>
  some e1.2.2
def L_value_And (x0 : T_api_Value) (x1 : T_api_Value) : Option T_api_Value :=
  (some ({ f_Hi := x0.f_Hi &&& x1.f_Hi, f_Lo := x0.f_Lo &&& x1.f_Lo : T_api_Value })).bind fun z1 =>
  some z1
def L_value_Xor (x0 : T_api_Value) (x1 : T_api_Value) : Option T_api_Value :=
  (some ({ f_Hi := x0.f_Hi ^^^ x1.f_Hi, f_Lo := x0.f_Lo ^^^ x1.f_Lo : T_api_Value })).bind fun z1 =>
  some z1
def L_value_Or (x0 : T_api_Value) (x1 : T_api_Value) : Option T_api_Value :=
  (some ({ f_Hi := x0.f_Hi ||| x1.f_Hi, f_Lo := x0.f_Lo ||| x1.f_Lo : T_api_Value })).bind fun z1 =>
  some z1
def L_cube_Meet (x0 : T_cube_Cube) (x1 : T_cube_Cube) : Option (T_cube_Cube × Bool) :=
  (L_cube_combined x0.f_Mask x1.f_Mask L_value_And).bind fun y1 =>
  (L_cube_combined x0.f_Value x1.f_Value L_value_Xor).bind fun y2 =>
  (L_cube_combined y2 y1 L_value_And).bind fun y3 =>
  cond (!decide (y3 = (default : Vector T_api_Value 4))) (
    some ((default : T_cube_Cube), false)) (
    (L_cube_combined x0.f_Value x1.f_Value L_value_Or).bind fun y4 =>
    (L_cube_combined x0.f_Mask x1.f_Mask L_value_Or).bind fun y5 =>
    some ({ f_Value := y4, f_Mask := y5 : T_cube_Cube }, true))
def L_value_within (x0 : Int) : Option Int :=
  some (min (max 0 x0) 128)
def L_value_Right (x0 : T_api_Value) (x1 : Int) : Option T_api_Value :=
  cond (decide (x1 ≤ 0)) (
    some x0) (
    cond (decide (x1 ≥ 64)) (
      (some ({ (default : T_api_Value) with f_Lo := x0.f_Hi >>> (BitVec.ofInt 64 (w64 (x1 - 64))).toNat })).bind fun z1 =>
      some z1) (
      (some ((x0.f_Lo >>> (BitVec.ofInt 64 x1).toNat) ||| (x0.f_Hi <<< (BitVec.ofInt 64 (w64 (64 - x1))).toNat))).bind fun z2 =>
      (some ({ f_Hi := x0.f_Hi >>> (BitVec.ofInt 64 x1).toNat, f_Lo := z2 : T_api_Value })).bind fun z3 =>
      some z3))
def L_value_Ones (x0 : Int) : Option T_api_Value :=
  (some ({ f_Hi := 18446744073709551615#64, f_Lo := 18446744073709551615#64 : T_api_Value })).bind fun z1 =>
  (L_value_within x0).bind fun y1 =>
  (L_value_Right z1 (w64 (128 - y1))).bind fun y2 =>
  some y2
def L_value_Not (x0 : T_api_Value) (x1 : Int) : Option T_api_Value :=
  (L_value_Ones x1).bind fun y1 =>
  (L_value_And y1 ({ f_Hi := ~~~x0.f_Hi, f_Lo := ~~~x0.f_Lo : T_api_Value })).bind fun y2 =>
  some y2
def L_cube_without (x0 : T_api_Value) (x1 : T_api_Value) : Option T_api_Value :=
  (L_value_Not x1 128).bind fun y1 =>
  (L_value_And x0 y1).bind fun y2 =>
  some y2
def L_cube_place (x0 : Int) : Option (Int × Int) :=
  (divM x0 128).bind fun y1 =>
  (modM x0 128).bind fun y2 =>
  some (y1, w64 (127 - y2))
def L_value_Bit (x0 : T_api_Value) (x1 : Int) : Option Bool :=
  (condM ((decide (x1 ≥ 0)) && (decide (x1 < 128))) true (L_value_Right x0 x1)).bind fun y1 =>
  (some (((decide (x1 ≥ 0)) && (decide (x1 < 128))) && ((y1.f_Lo &&& (1#64)) == (1#64)))).bind fun z1 =>
  some z1
def L_cube_has (x0 : Vector T_api_Value 4) (x1 : Int) : Option Bool :=
  (L_cube_place x1).bind fun y1 =>
  (idx 4 y1.1).bind fun k1 =>
  (L_value_Bit (vget x0 k1) y1.2).bind fun y2 =>
  some y2
def L_value_Of (x0 : BitVec 64) : Option T_api_Value :=
  some ({ (default : T_api_Value) with f_Lo := x0 })
def L_value_Left (x0 : T_api_Value) (x1 : Int) : Option T_api_Value :=
  cond (decide (x1 ≤ 0)) (
    some x0) (
    cond (decide (x1 ≥ 64)) (
      (some ({ (default : T_api_Value) with f_Hi := x0.f_Lo <<< (BitVec.ofInt 64 (w64 (x1 - 64))).toNat })).bind fun z1 =>
      some z1) (
      (some ((x0.f_Hi <<< (BitVec.ofInt 64 x1).toNat) ||| (x0.f_Lo >>> (BitVec.ofInt 64 (w64 (64 - x1))).toNat))).bind fun z2 =>
      (some ({ f_Hi := z2, f_Lo := x0.f_Lo <<< (BitVec.ofInt 64 x1).toNat : T_api_Value })).bind fun z3 =>
      some z3))
def L_cube_Fix (x0 : T_cube_Cube) (x1 : Int) (x2 : Bool) : Option T_cube_Cube :=
  (condM ((decide (x1 < 0)) || (decide (x1 ≥ 512))) false (L_cube_has x0.f_Mask x1)).bind fun y1 =>
  cond (((decide (x1 < 0)) || (decide (x1 ≥ 512))) || y1) (
    some x0) (
    (L_cube_place x1).bind fun y2 =>
    (L_value_Of (1#64)).bind fun y3 =>
    (L_value_Left y3 y2.2).bind fun y4 =>
    (idx 4 y2.1).bind fun k1 =>
    (L_value_Or (vget x0.f_Mask k1) y4).bind fun y5 =>
    (idx 4 y2.1).bind fun k2 =>
    (cond x2 (
      (idx 4 y2.1).bind fun k3 =>
      (L_value_Or (vget (({ x0 with f_Mask := vset x0.f_Mask k2 y5 }).f_Value) k3) y4).bind fun y6 =>
      (idx 4 y2.1).bind fun k4 =>
      (some ({ ({ x0 with f_Mask := vset x0.f_Mask k2 y5 }) with f_Value := vset (({ x0 with f_Mask := vset x0.f_Mask k2 y5 }).f_Value) k4 y6 })).bind fun z1 =>
      some z1) (
      some ({ x0 with f_Mask := vset x0.f_Mask k2 y5 }))).bind fun m1 =>
    some m1)
def L_cube_Minus (x0 : T_cube_Cube) (x1 : T_cube_Cube) : Option (List T_cube_Cube) :=
  (L_cube_Meet x0 x1).bind fun y1 =>
  cond (!y1.2) (
    some [x0]) (
    (L_cube_combined x1.f_Mask x0.f_Mask L_cube_without).bind fun y2 =>
    (loopM (σ := Int × (List T_cube_Cube) × T_cube_Cube) (ε := (Int × Bool × (List T_cube_Cube) × T_cube_Cube)) FUEL (fun s1 =>
      cond (decide (s1.1 < 512)) (
        (L_cube_has y2 s1.1).bind fun y3 =>
        (cond y3 (
          (L_cube_has x1.f_Value s1.1).bind fun y4 =>
          (L_cube_Fix s1.2.2 s1.1 (!y4)).bind fun y5 =>
          (appM 128 s1.2.1 [y5]).bind fun y6 =>
          (L_cube_has x1.f_Value s1.1).bind fun y7 =>
          (L_cube_Fix s1.2.2 s1.1 y7).bind fun y8 =>
          some (y6, y8)) (
          some (s1.2.1, s1.2.2))).bind fun m1 =>
        some (.inl (w64 (s1.1 + 1), m1.1, m1.2))) (
        some (.inr (s1.1, decide (s1.1 < 512), s1.2.1, s1.2.2)))) (0, ([] : List T_cube_Cube), x0)).bind fun e1 =>
    some e1.2.2.1)
def L_ref25_Read (x0 : Vector T_api_Value 4) (x1 : Vector T_api_Value 4) : Option (Vector (BitVec 8) 512) :=
  (loopM (σ := Int × (Vector (BitVec 8) 512)) (ε := (Int × Bool × (Vector (BitVec 8) 512))) FUEL (fun s1 =>
    cond (decide (s1.1 < 4)) (
      (idx 4 s1.1).bind fun k1 =>
      (L_ref01_Read (vget x0 k1)).bind fun y1 =>
      (idx 4 s1.1).bind fun k2 =>
      (L_ref01_Read (vget x1 k2)).bind fun y2 =>
      (loopM (σ := Int × (Vector (BitVec 8) 512)) (ε := (Int × Bool × (Vector (BitVec 8) 512))) FUEL (fun s2 =>
        cond (decide (s2.1 < 128)) (
          (idx 128 s2.1).bind fun k3 =>
          (cond (!(vget y2 k3)) (
            (idx 512 (w64 ((w64 ((w64 (128 * s1.1)) + 127)) - s2.1))).bind fun k4 =>
            some (vset s2.2 k4 (2#8))) (
            (idx 128 s2.1).bind fun k5 =>
            (cond (vget y1 k5) (
              (idx 512 (w64 ((w64 ((w64 (128 * s1.1)) + 127)) - s2.1))).bind fun k6 =>
              some (vset s2.2 k6 (1#8))) (
              some s2.2)).bind fun m2 =>
            some m2)).bind fun m1 =>
          some (.inl (w64 (s2.1 + 1), m1))) (
          some (.inr (s2.1, decide (s2.1 < 128), s2.2)))) (0, s1.2)).bind fun e2 =>
      some (.inl (w64 (s1.1 + 1), e2.2.2))) (
      some (.inr (s1.1, decide (s1.1 < 4), s1.2)))) (0, (default : Vector (BitVec 8) 512))).bind fun e1 =>
  some e1.2.2
def L_law25_bits (x0 : T_cube_Cube) : Option (Vector (BitVec 8) 512) :=
  (L_ref25_Read x0.f_Value x0.f_Mask).bind fun y1 =>
  some y1
def L_ref25_Meet (x0 : Vector (BitVec 8) 512) (x1 : Vector (BitVec 8) 512) : Option ((Vector (BitVec 8) 512) × Bool) :=
  (loopM (σ := Int × (Vector (BitVec 8) 512)) (ε := (Int × Bool × (Vector (BitVec 8) 512)) ⊕ (Int × Int × Bool × Bool × Bool × (Vector (BitVec 8) 512))) FUEL (fun s1 =>
    cond (decide (s1.1 < 512)) (
      (idx 512 s1.1).bind fun k1 =>
      cond ((vget s1.2 k1) == (2#8)) (
        (idx 512 s1.1).bind fun k2 =>
        (idx 512 s1.1).bind fun k3 =>
        some (.inl (w64 (s1.1 + 1), vset s1.2 k3 (vget x1 k2)))) (
        (idx 512 s1.1).bind fun k4 =>
        (condM ((vget x1 k4) != (2#8)) true (idx 512 s1.1)).bind fun k5 =>
        (condM ((vget x1 k4) != (2#8)) true (idx 512 s1.1)).bind fun k6 =>
        cond (((vget x1 k4) != (2#8)) && ((vget s1.2 k5) != (vget x1 k6))) (
          some (.inr (Sum.inr (s1.1, s1.1, decide (s1.1 < 512), (vget s1.2 k1) == (2#8), ((vget x1 k4) != (2#8)) && ((vget s1.2 k5) != (vget x1 k6)), s1.2)))) (
          some (.inl (w64 (s1.1 + 1), s1.2))))) (
      some (.inr (Sum.inl (s1.1, decide (s1.1 < 512), s1.2))))) (0, x0)).bind fun e1 =>
    Sum.elim (fun e1 =>
      some (e1.2.2, true)) (fun e1 =>
    some ((default : Vector (BitVec 8) 512), false)) e1
def L_ref25_Minus (x0 : Vector (BitVec 8) 512) (x1 : Vector (BitVec 8) 512) : Option (List (Vector (BitVec 8) 512)) :=
  (L_ref25_Meet x0 x1).bind fun y1 =>
  cond (!y1.2) (
    some [x0]) (
    (loopM (σ := Int × (List (Vector (BitVec 8) 512)) × (Vector (BitVec 8) 512)) (ε := (Int × Bool × (List (Vector (BitVec 8) 512)) × (Vector (BitVec 8) 512))) FUEL (fun s1 =>
      cond (decide (s1.1 < 512)) (
        (idx 512 s1.1).bind fun k1 =>
        (condM ((vget s1.2.2 k1) == (2#8)) true (idx 512 s1.1)).bind fun k2 =>
        (cond (((vget s1.2.2 k1) == (2#8)) && ((vget x1 k2) != (2#8))) (
          (idx 512 s1.1).bind fun k3 =>
          (idx 512 s1.1).bind fun k4 =>
          (appM 512 s1.2.1 [(vset s1.2.2 k4 ((1#8) - (vget x1 k3)))]).bind fun y2 =>
          (idx 512 s1.1).bind fun k5 =>
          (idx 512 s1.1).bind fun k6 =>
          some (y2, vset s1.2.2 k6 (vget x1 k5))) (
          some (s1.2.1, s1.2.2))).bind fun m1 =>
        some (.inl (w64 (s1.1 + 1), m1.1, m1.2))) (
        some (.inr (s1.1, decide (s1.1 < 512), s1.2.1, s1.2.2)))) (0, ([] : List (Vector (BitVec 8) 512)), x0)).bind fun e1 =>
    some e1.2.2.1)
def L_math_bits_OnesCount64 (x0 : BitVec 64) : Option Int :=
  (some (((x0 >>> (1#64).toNat) &&& (6148914691236517205#64)) + (x0 &&& (6148914691236517205#64)))).bind fun z1 =>
  (some (((z1 >>> (2#64).toNat) &&& (3689348814741910323#64)) + (z1 &&& (3689348814741910323#64)))).bind fun z2 =>
  (some ((((z2 >>> (4#64).toNat) + z2) &&& (1085102592571150095#64)) >>> (8#64).toNat)).bind fun z3 =>
  (some (((((z2 >>> (4#64).toNat) + z2) &&& (1085102592571150095#64)) + z3) >>> (16#64).toNat)).bind fun z4 =>
  (some (((((z2 >>> (4#64).toNat) + z2) &&& (1085102592571150095#64)) + z3) + z4)).bind fun z5 =>
  some (iand (w64 (z5 + (z5 >>> (32#64).toNat)).toNat) 127)
def L_cube_Free (x0 : T_cube_Cube) : Option Int :=
  (loopM (σ := Int × Int) (ε := (Int × Int × Bool)) FUEL (fun s1 =>
    cond (decide (s1.2 < 4)) (
      (idx 4 s1.2).bind fun k1 =>
      (L_math_bits_OnesCount64 ((vget x0.f_Mask k1).f_Hi)).bind fun y1 =>
      (L_math_bits_OnesCount64 ((vget x0.f_Mask k1).f_Lo)).bind fun y2 =>
      some (.inl (w64 (s1.1 - (w64 (y1 + y2))), w64 (s1.2 + 1)))) (
      some (.inr (s1.1, s1.2, decide (s1.2 < 4))))) (512, 0)).bind fun e1 =>
  some e1.1
def L_law25_begun  : Option Bool :=
  (some (vset (default : Vector T_api_Value 4) 0 ({ (default : T_api_Value) with f_Lo := 3#64 }))).bind fun z1 =>
  (some (vset (default : Vector T_api_Value 4) 0 ({ (default : T_api_Value) with f_Lo := 1#64 }))).bind fun z2 =>
  (L_cube_Minus (default : T_cube_Cube) ({ f_Mask := z1, f_Value := z2 : T_cube_Cube })).bind fun y1 =>
  (condM ((y1.length : Int) == 2) true (L_cube_Free ({ f_Mask := z1, f_Value := z2 : T_cube_Cube }))).bind fun y2 =>
  (condM (((y1.length : Int) == 2) && (y2 == 510)) true (idx y1.length 1)).bind fun k1 =>
  (condM (((y1.length : Int) == 2) && (y2 == 510)) true (L_cube_Free (lget y1 k1))).bind fun y3 =>
  some ((((y1.length : Int) == 2) && (y2 == 510)) && (y3 == 510))
def L_law25_CubeMinus (x0 : Vector T_api_Value 4) (x1 : Vector T_api_Value 4) (x2 : Vector T_api_Value 4) (x3 : Vector T_api_Value 4) : Option Bool :=
  (L_law25_canonical ({ f_Value := x0, f_Mask := x1 : T_cube_Cube })).bind fun y1 =>
  (L_law25_canonical ({ f_Value := x2, f_Mask := x3 : T_cube_Cube })).bind fun y2 =>
  (L_law25_near y1 ({ f_Value := x2, f_Mask := x3 : T_cube_Cube })).bind fun y3 =>
  (loopM (σ := Int) (ε := (Int × Bool) ⊕ ((List T_cube_Cube) × (List (Vector (BitVec 8) 512)) × Int × Bool × Bool)) FUEL (fun s1 =>
    cond (decide (s1 < ([y2, y3, (default : T_cube_Cube)].length : Int))) (
      (idx ([y2, y3, (default : T_cube_Cube)].length) s1).bind fun k1 =>
      (L_cube_Minus y1 (lget [y2, y3, (default : T_cube_Cube)] k1)).bind fun y4 =>
      (L_law25_bits y1).bind fun y5 =>
      (L_law25_bits (lget [y2, y3, (default : T_cube_Cube)] k1)).bind fun y6 =>
      (L_ref25_Minus y5 y6).bind fun y7 =>
      cond ((y4.length : Int) != (y7.length : Int)) (
        some (.inr (Sum.inr (y4, y7, s1, decide (s1 < ([y2, y3, (default : T_cube_Cube)].length : Int)), (y4.length : Int) != (y7.length : Int))))) (
        (loopM (σ := Int) (ε := (Int × Bool) ⊕ (Int × Int × Bool × Bool)) FUEL (fun s2 =>
          cond (decide (s2 < (y4.length : Int))) (
            (idx y4.length s2).bind fun k2 =>
            (L_law25_bits (lget y4 k2)).bind fun y8 =>
            (idx y7.length s2).bind fun k3 =>
            (condM (!decide (y8 = lget y7 k3)) false (L_law25_canonical (lget y4 k2))).bind fun y9 =>
            cond ((!decide (y8 = lget y7 k3)) || (!decide ((lget y4 k2) = y9))) (
              some (.inr (Sum.inr (s2, s2, decide (s2 < (y4.length : Int)), (!decide (y8 = lget y7 k3)) || (!decide ((lget y4 k2) = y9)))))) (
              (L_cube_Meet (lget y4 k2) (lget [y2, y3, (default : T_cube_Cube)] k1)).bind fun y10 =>
              cond y10.2 (
                some (.inr (Sum.inr (s2, s2, decide (s2 < (y4.length : Int)), (!decide (y8 = lget y7 k3)) || (!decide ((lget y4 k2) = y9)))))) (
                (sliceM y4 0 (min s2 3)).bind fun y11 =>
                (loopM (σ := Int) (ε := (Int × Bool) ⊕ (Bool × Int × Bool × Bool)) FUEL (fun s3 =>
                  cond (decide (s3 < (y11.length : Int))) (
                    (idx y11.length s3).bind fun k4 =>
                    (L_cube_Meet (lget y4 k2) (lget y11 k4)).bind fun y12 =>
                    cond y12.2 (
                      some (.inr (Sum.inr (y12.2, s3, decide (s3 < (y11.length : Int)), y12.2)))) (
                      some (.inl (w64 (s3 + 1))))) (
                    some (.inr (Sum.inl (s3, decide (s3 < (y11.length : Int))))))) 0).bind fun e3 =>
                  Sum.elim (fun e3 =>
                    some (.inl (w64 (s2 + 1)))) (fun e3 =>
                  some (.inr (Sum.inr (s2, s2, decide (s2 < (y4.length : Int)), (!decide (y8 = lget y7 k3)) || (!decide ((lget y4 k2) = y9)))))) e3))) (
            some (.inr (Sum.inl (s2, decide (s2 < (y4.length : Int))))))) 0).bind fun e2 =>
          Sum.elim (fun e2 =>
            some (.inl (w64 (s1 + 1)))) (fun e2 =>
          some (.inr (Sum.inr (y4, y7, s1, decide (s1 < ([y2, y3, (default : T_cube_Cube)].length : Int)), (y4.length : Int) != (y7.length : Int))))) e2)) (
      some (.inr (Sum.inl (s1, decide (s1 < ([y2, y3, (default : T_cube_Cube)].length : Int))))))) 0).bind fun e1 =>
    Sum.elim (fun e1 =>
      (L_law25_begun).bind fun y13 =>
      some y13) (fun e1 =>
    some false) e1
def L_cube_Within (x0 : T_cube_Cube) (x1 : T_cube_Cube) : Option Bool :=
  (L_cube_Meet x0 x1).bind fun y1 =>
  some (y1.2 && (decide (y1.1 = x0)))
def L_ref25_Within (x0 : Vector (BitVec 8) 512) (x1 : Vector (BitVec 8) 512) : Option Bool :=
  (loopM (σ := Int) (ε := (Int × Bool) ⊕ (Int × Int × Bool × Bool)) FUEL (fun s1 =>
    cond (decide (s1 < 512)) (
      (idx 512 s1).bind fun k1 =>
      (condM ((vget x1 k1) != (2#8)) true (idx 512 s1)).bind fun k2 =>
      (condM ((vget x1 k1) != (2#8)) true (idx 512 s1)).bind fun k3 =>
      cond (((vget x1 k1) != (2#8)) && ((vget x0 k2) != (vget x1 k3))) (
        some (.inr (Sum.inr (s1, s1, decide (s1 < 512), ((vget x1 k1) != (2#8)) && ((vget x0 k2) != (vget x1 k3)))))) (
        some (.inl (w64 (s1 + 1))))) (
      some (.inr (Sum.inl (s1, decide (s1 < 512)))))) 0).bind fun e1 =>
    Sum.elim (fun e1 =>
      some true) (fun e1 =>
    some false) e1
def L_ref01_clamp (x0 : Int) : Option Int :=
  some (max 0 (min x0 128))
def L_ref01_Not (x0 : T_api_Value) (x1 : Int) : Option T_api_Value :=
  (L_ref01_Read x0).bind fun y1 =>
  (loopM (σ := Int × (Vector Bool 128)) (ε := (Int × Bool × (Vector Bool 128))) FUEL (fun s1 =>
    cond (decide (s1.1 < 128)) (
      (L_ref01_clamp x1).bind fun y2 =>
      (condM (decide (s1.1 < y2)) true (idx 128 s1.1)).bind fun k1 =>
      (idx 128 s1.1).bind fun k2 =>
      some (.inl (w64 (s1.1 + 1), vset s1.2 k2 ((decide (s1.1 < y2)) && (!(vget s1.2 k1)))))) (
      some (.inr (s1.1, decide (s1.1 < 128), s1.2)))) (0, y1)).bind fun e1 =>
  (L_ref01_Make e1.2.2).bind fun y3 =>
  some y3
def L_ref01_Or (x0 : T_api_Value) (x1 : T_api_Value) : Option T_api_Value :=
  (L_ref01_Read x0).bind fun y1 =>
  (L_ref01_Read x1).bind fun y2 =>
  (loopM (σ := Int × (Vector Bool 128)) (ε := (Int × Bool × (Vector Bool 128))) FUEL (fun s1 =>
    cond (decide (s1.1 < 128)) (
      (idx 128 s1.1).bind fun k1 =>
      (condM (vget s1.2 k1) false (idx 128 s1.1)).bind fun k2 =>
      (idx 128 s1.1).bind fun k3 =>
      some (.inl (w64 (s1.1 + 1), vset s1.2 k3 ((vget s1.2 k1) || (vget y2 k2))))) (
      some (.inr (s1.1, decide (s1.1 < 128), s1.2)))) (0, y1)).bind fun e1 =>
  (L_ref01_Make e1.2.2).bind fun y3 =>
  some y3
def L_cube_Contains (x0 : T_cube_Cube) (x1 : Vector T_api_Value 4) : Option Bool :=
  (L_cube_combined x1 x0.f_Mask L_value_And).bind fun y1 =>
  some (decide (y1 = x0.f_Value))
def L_ref01_Ones (x0 : Int) : Option T_api_Value :=
  (loopM (σ := Int × (Vector Bool 128)) (ε := (Int × Bool × (Vector Bool 128))) FUEL (fun s1 =>
    (L_ref01_clamp x0).bind fun y1 =>
    cond (decide (s1.1 < y1)) (
      (idx 128 s1.1).bind fun k1 =>
      some (.inl (w64 (s1.1 + 1), vset s1.2 k1 true))) (
      some (.inr (s1.1, decide (s1.1 < y1), s1.2)))) (0, (default : Vector Bool 128))).bind fun e1 =>
  (L_ref01_Make e1.2.2).bind fun y2 =>
  some y2
def L_ref25_Contains (x0 : Vector (BitVec 8) 512) (x1 : Vector T_api_Value 4) : Option Bool :=
  (L_ref01_Ones 128).bind fun y1 =>
  (L_ref01_Ones 128).bind fun y2 =>
  (L_ref01_Ones 128).bind fun y3 =>
  (L_ref01_Ones 128).bind fun y4 =>
  (some (vset (vset (vset (vset (default : Vector T_api_Value 4) 0 y1) 1 y2) 2 y3) 3 y4)).bind fun z1 =>
  (L_ref25_Read x1 z1).bind fun y5 =>
  (loopM (σ := Int) (ε := (Int × Bool) ⊕ (Int × Int × Bool × Bool)) FUEL (fun s1 =>
    cond (decide (s1 < 512)) (
      (idx 512 s1).bind fun k1 =>
      (condM ((vget x0 k1) != (2#8)) true (idx 512 s1)).bind fun k2 =>
      (condM ((vget x0 k1) != (2#8)) true (idx 512 s1)).bind fun k3 =>
      cond (((vget x0 k1) != (2#8)) && ((vget x0 k2) != (vget y5 k3))) (
        some (.inr (Sum.inr (s1, s1, decide (s1 < 512), ((vget x0 k1) != (2#8)) && ((vget x0 k2) != (vget y5 k3)))))) (
        some (.inl (w64 (s1 + 1))))) (
      some (.inr (Sum.inl (s1, decide (s1 < 512)))))) 0).bind fun e1 =>
    Sum.elim (fun e1 =>
      some true) (fun e1 =>
    some false) e1
def L_ref25_Free (x0 : Vector (BitVec 8) 512) : Option Int :=
  (loopM (σ := Int × Int) (ε := (Int × Int × Bool)) FUEL (fun s1 =>
    cond (decide (s1.2 < 512)) (
      (idx 512 s1.2).bind fun k1 =>
      (cond ((vget x0 k1) == (2#8)) (
        some (w64 (s1.1 + 1))) (
        some s1.1)).bind fun m1 =>
      some (.inl (m1, w64 (s1.2 + 1)))) (
      some (.inr (s1.1, s1.2, decide (s1.2 < 512))))) (0, 0)).bind fun e1 =>
  some e1.1
def L_law25_CubeMeets (x0 : Vector T_api_Value 4) (x1 : Vector T_api_Value 4) (x2 : Vector T_api_Value 4) (x3 : Vector T_api_Value 4) (x4 : Vector T_api_Value 4) : Option Bool :=
  (L_law25_canonical ({ f_Value := x0, f_Mask := x1 : T_cube_Cube })).bind fun y1 =>
  (L_law25_canonical ({ f_Value := x2, f_Mask := x3 : T_cube_Cube })).bind fun y2 =>
  (L_law25_near y1 y2).bind fun y3 =>
  (loopM (σ := Int) (ε := (Int × Bool) ⊕ (Int × Bool × (List T_cube_Cube) × Int × Int × Bool)) FUEL (fun s1 =>
    cond (decide (s1 < ([y1, y2, y3, (default : T_cube_Cube)].length : Int))) (
      (idx ([y1, y2, y3, (default : T_cube_Cube)].length) s1).bind fun k1 =>
      (L_law25_near y1 y2).bind fun y4 =>
      (L_law25_near y2 y1).bind fun y5 =>
      (loopM (σ := Int) (ε := (Int × Bool) ⊕ (Bool × Bool × Int × Bool × Bool)) FUEL (fun s2 =>
        cond (decide (s2 < ([y1, y2, y4, y5].length : Int))) (
          (idx ([y1, y2, y4, y5].length) s2).bind fun k2 =>
          (L_cube_Meet (lget [y1, y2, y3, (default : T_cube_Cube)] k1) (lget [y1, y2, y4, y5] k2)).bind fun y6 =>
          (L_law25_bits (lget [y1, y2, y3, (default : T_cube_Cube)] k1)).bind fun y7 =>
          (L_law25_bits (lget [y1, y2, y4, y5] k2)).bind fun y8 =>
          (L_ref25_Meet y7 y8).bind fun y9 =>
          (condM (decide (((y6.2 != y9.2) = false) ∧ y6.2 = true)) true (L_law25_bits y6.1)).bind fun y10 =>
          (condM (decide ((((y6.2 != y9.2) = false) ∧ y6.2 = true) ∧ (!decide (y10 = y9.1)) = false)) true (L_law25_canonical y6.1)).bind fun y11 =>
          (some ((y6.2 != y9.2) || (y6.2 && ((!decide (y10 = y9.1)) || (!decide (y6.1 = y11)))))).bind fun z1 =>
          (condM (z1 || ((!y6.2) && (!decide (y6.1 = (default : T_cube_Cube))))) false (L_cube_Within (lget [y1, y2, y3, (default : T_cube_Cube)] k1) (lget [y1, y2, y4, y5] k2))).bind fun y12 =>
          (condM (z1 || ((!y6.2) && (!decide (y6.1 = (default : T_cube_Cube))))) false (L_law25_bits (lget [y1, y2, y3, (default : T_cube_Cube)] k1))).bind fun y13 =>
          (condM (z1 || ((!y6.2) && (!decide (y6.1 = (default : T_cube_Cube))))) false (L_law25_bits (lget [y1, y2, y4, y5] k2))).bind fun y14 =>
          (condM (z1 || ((!y6.2) && (!decide (y6.1 = (default : T_cube_Cube))))) false (L_ref25_Within y13 y14)).bind fun y15 =>
          (some ((z1 || ((!y6.2) && (!decide (y6.1 = (default : T_cube_Cube))))) || (y12 != y15))).bind fun z2 =>
          cond z2 (
            some (.inr (Sum.inr (y6.2, y9.2, s2, decide (s2 < ([y1, y2, y4, y5].length : Int)), z2)))) (
            (loopM (σ := Int × (Vector T_api_Value 4)) (ε := (Int × Bool × (Vector T_api_Value 4))) FUEL (fun s3 =>
              cond (decide (s3.1 < 4)) (
                (idx 4 s3.1).bind fun k3 =>
                (idx 4 s3.1).bind fun k4 =>
                (idx 4 s3.1).bind fun k5 =>
                (L_ref01_Not (vget ((lget [y1, y2, y3, (default : T_cube_Cube)] k1).f_Mask) k5) 128).bind fun y16 =>
                (L_ref01_And (vget s3.2 k4) y16).bind fun y17 =>
                (L_ref01_Or (vget ((lget [y1, y2, y3, (default : T_cube_Cube)] k1).f_Value) k3) y17).bind fun y18 =>
                (idx 4 s3.1).bind fun k6 =>
                some (.inl (w64 (s3.1 + 1), vset s3.2 k6 y18))) (
                some (.inr (s3.1, decide (s3.1 < 4), s3.2)))) (0, x4)).bind fun e3 =>
            (L_cube_Contains (lget [y1, y2, y4, y5] k2) e3.2.2).bind fun y19 =>
            (L_law25_bits (lget [y1, y2, y4, y5] k2)).bind fun y20 =>
            (L_ref25_Contains y20 e3.2.2).bind fun y21 =>
            (condM (y19 != y21) false (L_cube_Contains (lget [y1, y2, y3, (default : T_cube_Cube)] k1) e3.2.2)).bind fun y22 =>
            (condM ((y19 != y21) || (!y22)) false (L_cube_Contains (lget [y1, y2, y3, (default : T_cube_Cube)] k1) x4)).bind fun y23 =>
            (condM ((y19 != y21) || (!y22)) false (L_law25_bits (lget [y1, y2, y3, (default : T_cube_Cube)] k1))).bind fun y24 =>
            (condM ((y19 != y21) || (!y22)) false (L_ref25_Contains y24 x4)).bind fun y25 =>
            cond (((y19 != y21) || (!y22)) || (y23 != y25)) (
              some (.inr (Sum.inr (y6.2, y9.2, s2, decide (s2 < ([y1, y2, y4, y5].length : Int)), z2)))) (
              some (.inl (w64 (s2 + 1)))))) (
          some (.inr (Sum.inl (s2, decide (s2 < ([y1, y2, y4, y5].length : Int))))))) 0).bind fun e2 =>
        Sum.elim (fun e2 =>
          (L_cube_Free (lget [y1, y2, y3, (default : T_cube_Cube)] k1)).bind fun y26 =>
          (L_law25_bits (lget [y1, y2, y3, (default : T_cube_Cube)] k1)).bind fun y27 =>
          (L_ref25_Free y27).bind fun y28 =>
          cond (y26 != y28) (
            some (.inr (Sum.inr (s1, decide (s1 < ([y1, y2, y3, (default : T_cube_Cube)].length : Int)), [y1, y2, y4, y5], ([y1, y2, y4, y5].length : Int), e2.1, e2.2)))) (
            some (.inl (w64 (s1 + 1))))) (fun e2 =>
        some (.inr (Sum.inr (s1, decide (s1 < ([y1, y2, y3, (default : T_cube_Cube)].length : Int)), [y1, y2, y4, y5], ([y1, y2, y4, y5].length : Int), e2.2.2.1, e2.2.2.2.1)))) e2) (
      some (.inr (Sum.inl (s1, decide (s1 < ([y1, y2, y3, (default : T_cube_Cube)].length : Int))))))) 0).bind fun e1 =>
    Sum.elim (fun e1 =>
      (L_law25_begun).bind fun y29 =>
      some y29) (fun e1 =>
    some false) e1
def L_mcase_Mod (x0 : Int) (x1 : Int) : Option Int :=
  cond (decide (x1 < 1)) (
    some 0) (
    (modM x0 x1).bind fun y1 =>
    (modM (w64 (y1 + x1)) x1).bind fun y2 =>
    some y2)
def L_law25_CubeFixes (x0 : Vector T_api_Value 4) (x1 : Vector T_api_Value 4) (x2 : Int) (x3 : Bool) : Option Bool :=
  (L_law25_canonical ({ f_Value := x0, f_Mask := x1 : T_cube_Cube })).bind fun y1 =>
  (L_mcase_Mod x2 512).bind fun y2 =>
  (loopM (σ := Int) (ε := (Int × Bool) ⊕ (Int × Int × Bool × Bool × Bool)) FUEL (fun s1 =>
    cond (decide (s1 < ([x2, y2, 0, 127, 128, 511, 512].length : Int))) (
      (idx ([x2, y2, 0, 127, 128, 511, 512].length) s1).bind fun k1 =>
      (L_law25_bits y1).bind fun y3 =>
      (L_cube_Fix y1 (lget [x2, y2, 0, 127, 128, 511, 512] k1) x3).bind fun y4 =>
      (L_law25_bits y4).bind fun y5 =>
      (some ((decide ((lget [x2, y2, 0, 127, 128, 511, 512] k1) ≥ 0)) && (decide ((lget [x2, y2, 0, 127, 128, 511, 512] k1) < 512)))).bind fun z1 =>
      (condM z1 true (idx 512 (lget [x2, y2, 0, 127, 128, 511, 512] k1))).bind fun k2 =>
      (cond (z1 && ((vget y3 k2) == (2#8))) (
        (idx 512 (lget [x2, y2, 0, 127, 128, 511, 512] k1)).bind fun k3 =>
        (cond x3 (
          (idx 512 (lget [x2, y2, 0, 127, 128, 511, 512] k1)).bind fun k4 =>
          some (vset (vset y3 k3 (0#8)) k4 (1#8))) (
          some (vset y3 k3 (0#8)))).bind fun m2 =>
        some m2) (
        some y3)).bind fun m1 =>
      cond (!decide (m1 = y5)) (
        some (.inr (Sum.inr (lget [x2, y2, 0, 127, 128, 511, 512] k1, s1, decide (s1 < ([x2, y2, 0, 127, 128, 511, 512].length : Int)), z1 && ((vget y3 k2) == (2#8)), !decide (m1 = y5))))) (
        some (.inl (w64 (s1 + 1))))) (
      some (.inr (Sum.inl (s1, decide (s1 < ([x2, y2, 0, 127, 128, 511, 512].length : Int))))))) 0).bind fun e1 =>
    Sum.elim (fun e1 =>
      (L_law25_begun).bind fun y6 =>
      some y6) (fun e1 =>
    some false) e1
def L_law25_CubeParts (x0 : Vector T_api_Value 4) (x1 : Vector T_api_Value 4) (x2 : Vector T_api_Value 4) (x3 : Vector T_api_Value 4) (x4 : Vector T_api_Value 4) : Option Bool :=
  (L_law25_canonical ({ f_Value := x0, f_Mask := x1 : T_cube_Cube })).bind fun y1 =>
  (L_law25_near y1 ({ f_Value := x2, f_Mask := x3 : T_cube_Cube })).bind fun y2 =>
  (loopM (σ := Int) (ε := (Int × Bool) ⊕ (Bool × Int × Bool × Int × Int × Bool × Int × Bool × (List T_cube_Cube) × Int × Int × Bool × Bool × Bool × Bool)) FUEL (fun s1 =>
    cond (decide (s1 < ([false, true].length : Int))) (
      (idx ([false, true].length) s1).bind fun k1 =>
      (loopM (σ := Int × (Vector T_api_Value 4)) (ε := (Int × Bool × (Vector T_api_Value 4))) FUEL (fun s2 =>
        cond (decide (s2.1 < 4)) (
          (cond (lget [false, true] k1) (
            (idx 4 s2.1).bind fun k2 =>
            (idx 4 s2.1).bind fun k3 =>
            (idx 4 s2.1).bind fun k4 =>
            (L_ref01_Not (vget y1.f_Mask k4) 128).bind fun y3 =>
            (L_ref01_And (vget s2.2 k3) y3).bind fun y4 =>
            (L_ref01_Or (vget y1.f_Value k2) y4).bind fun y5 =>
            (idx 4 s2.1).bind fun k5 =>
            some (vset s2.2 k5 y5)) (
            some s2.2)).bind fun m1 =>
          some (.inl (w64 (s2.1 + 1), m1))) (
          some (.inr (s2.1, decide (s2.1 < 4), s2.2)))) (0, x4)).bind fun e2 =>
      (L_cube_Minus y1 y2).bind fun y6 =>
      (loopM (σ := Int × Int) (ε := (Int × Int × Bool)) FUEL (fun s3 =>
        cond (decide (s3.2 < (y6.length : Int))) (
          (idx y6.length s3.2).bind fun k6 =>
          (L_cube_Contains (lget y6 k6) e2.2.2).bind fun y7 =>
          (cond y7 (
            some (w64 (s3.1 + 1))) (
            some s3.1)).bind fun m2 =>
          some (.inl (m2, w64 (s3.2 + 1)))) (
          some (.inr (s3.1, s3.2, decide (s3.2 < (y6.length : Int)))))) (0, 0)).bind fun e3 =>
      (L_cube_Meet y1 y2).bind fun y8 =>
      (condM y8.2 true (L_cube_Contains y8.1 e2.2.2)).bind fun y9 =>
      (cond (y8.2 && y9) (
        some (w64 (e3.1 + 1))) (
        some e3.1)).bind fun m3 =>
      (L_cube_Contains y1 e2.2.2).bind fun y10 =>
      (cond y10 (
        some 1) (
        some 0)).bind fun m4 =>
      cond ((m3 != m4) || ((lget [false, true] k1) && (m4 == 0))) (
        some (.inr (Sum.inr (lget [false, true] k1, m3, y8.2, m4, s1, decide (s1 < ([false, true].length : Int)), e2.1, e2.2.1, y6, (y6.length : Int), e3.2.1, e3.2.2, y8.2 && y9, y10, (m3 != m4) || ((lget [false, true] k1) && (m4 == 0)))))) (
        some (.inl (w64 (s1 + 1))))) (
      some (.inr (Sum.inl (s1, decide (s1 < ([false, true].length : Int))))))) 0).bind fun e1 =>
    Sum.elim (fun e1 =>
      (L_law25_begun).bind fun y11 =>
      some y11) (fun e1 =>
    some false) e1
def L_law26_made (x0 : List (BitVec 16)) (x1 : Int) : Option (List T_cube_Cube) :=
  (loopM (σ := Int × (List T_cube_Cube)) (ε := (Int × Bool × (List T_cube_Cube))) FUEL (fun s1 =>
    (some ((decide ((w64 (s1.1 + 1)) < (x0.length : Int))) && (decide ((s1.2.length : Int) < x1)))).bind fun z1 =>
    cond z1 (
      (idx x0.length s1.1).bind fun k1 =>
      (idx x0.length s1.1).bind fun k2 =>
      (idx x0.length (w64 (s1.1 + 1))).bind fun k3 =>
      (loopM (σ := Int × T_cube_Cube) (ε := (Int × Bool × T_cube_Cube)) FUEL (fun s2 =>
        cond (decide (s2.1 < ([126#64, 64#64, 0#64, 60#64].length : Int))) (
          (idx ([126#64, 64#64, 0#64, 60#64].length) s2.1).bind fun k4 =>
          (some (((lget x0 k1).setWidth 64) >>> (BitVec.ofInt 64 (w64 (2 * s2.1))).toNat)).bind fun z2 =>
          (some ((((lget x0 k2) &&& (lget x0 k3)).setWidth 64) >>> (BitVec.ofInt 64 (w64 (2 * s2.1))).toNat)).bind fun z3 =>
          (cond (decide ((lget [126#64, 64#64, 0#64, 60#64] k4) ≥ (64#64))) (
            (some ((z2 &&& (3#64)) <<< ((lget [126#64, 64#64, 0#64, 60#64] k4) - (64#64)).toNat)).bind fun z4 =>
            (some ((z3 &&& (3#64)) <<< ((lget [126#64, 64#64, 0#64, 60#64] k4) - (64#64)).toNat)).bind fun z5 =>
            (idx 4 s2.1).bind fun k5 =>
            (some ({ s2.2 with f_Mask := vset s2.2.f_Mask k5 ({ (vget s2.2.f_Mask k5) with f_Hi := z4 }) })).bind fun z6 =>
            (idx 4 s2.1).bind fun k6 =>
            (some ({ z6 with f_Value := vset z6.f_Value k6 ({ (vget z6.f_Value k6) with f_Hi := z5 }) })).bind fun z7 =>
            some z7) (
            (idx 4 s2.1).bind fun k7 =>
            (some ({ s2.2 with f_Mask := vset s2.2.f_Mask k7 ({ (vget s2.2.f_Mask k7) with f_Lo := (z2 &&& (3#64)) <<< (lget [126#64, 64#64, 0#64, 60#64] k4).toNat }) })).bind fun z8 =>
            (idx 4 s2.1).bind fun k8 =>
            (some ({ z8 with f_Value := vset z8.f_Value k8 ({ (vget z8.f_Value k8) with f_Lo := (z3 &&& (3#64)) <<< (lget [126#64, 64#64, 0#64, 60#64] k4).toNat }) })).bind fun z9 =>
            some z9)).bind fun m1 =>
          some (.inl (w64 (s2.1 + 1), m1))) (
          some (.inr (s2.1, decide (s2.1 < ([126#64, 64#64, 0#64, 60#64].length : Int)), s2.2)))) (0, (default : T_cube_Cube))).bind fun e2 =>
      (appM 128 s1.2 [e2.2.2]).bind fun y1 =>
      some (.inl (w64 (s1.1 + 2), y1))) (
      some (.inr (s1.1, z1, s1.2)))) (0, ([] : List T_cube_Cube))).bind fun e1 =>
  some e1.2.2
def L_slices_Clone_cube_Cube (x0 : List T_cube_Cube) : Option (List T_cube_Cube) :=
  (appM 128 ([] : List T_cube_Cube) x0).bind fun y1 =>
  some y1
def L_cover_near_fn1 (x0 : T_cube_Cube) (x1 : T_cube_Cube) : Option Bool :=
  (L_cube_Meet x1 x0).bind fun y1 =>
  some (!y1.2)
def L_slices_IndexFunc_cube_Cube (x0 : List T_cube_Cube) (x1 : T_cube_Cube → Option Bool) : Option Int :=
  (loopM (σ := Int) (ε := (Int × Bool) ⊕ (Int × Int × Int × Bool × Bool)) FUEL (fun s1 =>
    cond (decide (s1 < (x0.length : Int))) (
      (idx x0.length s1).bind fun k1 =>
      (x1 (lget x0 k1)).bind fun y1 =>
      cond y1 (
        some (.inr (Sum.inr (s1, s1, s1, decide (s1 < (x0.length : Int)), y1)))) (
        some (.inl (w64 (s1 + 1))))) (
      some (.inr (Sum.inl (s1, decide (s1 < (x0.length : Int))))))) 0).bind fun e1 =>
    Sum.elim (fun e1 =>
      some (-1)) (fun e1 =>
    some e1.1) e1
def Lp0_slices_DeleteFunc_cube_Cube (x0 : List T_cube_Cube) (x1 : T_cube_Cube → Option Bool) : Option (List T_cube_Cube) :=
  (L_slices_IndexFunc_cube_Cube x0 x1).bind fun y1 =>
  cond (y1 == (-1)) (
    some x0) (
    (loopM (σ := Int × Int × (List T_cube_Cube)) (ε := (Int × Int × Bool × (List T_cube_Cube))) FUEL (fun s1 =>
      cond (decide (s1.2.1 < (s1.2.2.length : Int))) (
        (idx s1.2.2.length s1.2.1).bind fun k1 =>
        (x1 (lget s1.2.2 k1)).bind fun y2 =>
        (cond (!y2) (
          (idx s1.2.2.length s1.1).bind fun k2 =>
          some (w64 (s1.1 + 1), lset s1.2.2 k2 (lget s1.2.2 k1))) (
          some (s1.1, s1.2.2))).bind fun m1 =>
        some (.inl (m1.1, w64 (s1.2.1 + 1), m1.2))) (
        some (.inr (s1.1, s1.2.1, decide (s1.2.1 < (s1.2.2.length : Int)), s1.2.2)))) (y1, w64 (y1 + 1), x0)).bind fun e1 =>
    (cutM e1.2.2.2.length e1.1 (e1.2.2.2.length : Int)).bind fun y3 =>
    (some (lclear e1.2.2.2 y3.1 (y3.2 - y3.1))).bind fun z1 =>
    (idx (z1.length + 1) e1.1).bind fun k3 =>
    (some (z1.take k3)).bind fun z2 =>
    some z2)
def L_cover_near (x0 : T_cube_Cube) (x1 : List T_cube_Cube) : Option (List T_cube_Cube) :=
  (L_slices_Clone_cube_Cube x1).bind fun y1 =>
  (Lp0_slices_DeleteFunc_cube_Cube y1 (fun a0 => L_cover_near_fn1 a0 x0)).bind fun y2 =>
  some y2
def L_cover_covered_fn1 (x0 : T_cube_Cube) (x1 : T_cube_Cube) : Option Bool :=
  (L_cube_Within x1 x0).bind fun y1 =>
  some y1
def L_slices_ContainsFunc_cube_Cube (x0 : List T_cube_Cube) (x1 : T_cube_Cube → Option Bool) : Option Bool :=
  (L_slices_IndexFunc_cube_Cube x0 x1).bind fun y1 =>
  some (decide (y1 ≥ 0))
def L_cover_wanted (x0 : T_cube_Cube) (x1 : List T_cube_Cube) : Option ((Vector T_api_Value 4) × (Vector T_api_Value 4)) :=
  (loopM (σ := Int × (Vector T_api_Value 4) × (Vector T_api_Value 4)) (ε := (Int × Bool × (Vector T_api_Value 4) × (Vector T_api_Value 4))) FUEL (fun s1 =>
    cond (decide (s1.1 < (x1.length : Int))) (
      (idx x1.length s1.1).bind fun k1 =>
      (loopM (σ := Int × (Vector T_api_Value 4) × (Vector T_api_Value 4)) (ε := (Int × Bool × (Vector T_api_Value 4) × (Vector T_api_Value 4))) FUEL (fun s2 =>
        cond (decide (s2.1 < 4)) (
          (idx 4 s2.1).bind fun k2 =>
          (idx 4 s2.1).bind fun k3 =>
          (L_value_Not (vget x0.f_Mask k3) 128).bind fun y1 =>
          (L_value_And (vget ((lget x1 k1).f_Mask) k2) y1).bind fun y2 =>
          (idx 4 s2.1).bind fun k4 =>
          (idx 4 s2.1).bind fun k5 =>
          (L_value_And y2 (vget ((lget x1 k1).f_Value) k5)).bind fun y3 =>
          (L_value_Or (vget s2.2.1 k4) y3).bind fun y4 =>
          (idx 4 s2.1).bind fun k6 =>
          (idx 4 s2.1).bind fun k7 =>
          (idx 4 s2.1).bind fun k8 =>
          (L_value_Not (vget ((lget x1 k1).f_Value) k8) 128).bind fun y5 =>
          (L_value_And y2 y5).bind fun y6 =>
          (L_value_Or (vget s2.2.2 k7) y6).bind fun y7 =>
          (idx 4 s2.1).bind fun k9 =>
          some (.inl (w64 (s2.1 + 1), vset s2.2.1 k6 y4, vset s2.2.2 k9 y7))) (
          some (.inr (s2.1, decide (s2.1 < 4), s2.2.1, s2.2.2)))) (0, s1.2.1, s1.2.2)).bind fun e2 =>
      some (.inl (w64 (s1.1 + 1), e2.2.2.1, e2.2.2.2))) (
      some (.inr (s1.1, decide (s1.1 < (x1.length : Int)), s1.2.1, s1.2.2)))) (0, (default : Vector T_api_Value 4), (default : Vector T_api_Value 4))).bind fun e1 =>
  some (e1.2.2.2, e1.2.2.1)
def L_cover_escape (x0 : T_cube_Cube) (x1 : Vector T_api_Value 4) (x2 : Vector T_api_Value 4) : Option T_cube_Cube :=
  (loopM (σ := Int × T_cube_Cube) (ε := (Int × Bool × T_cube_Cube)) FUEL (fun s1 =>
    cond (decide (s1.1 < 4)) (
      (idx 4 s1.1).bind fun k1 =>
      (idx 4 s1.1).bind fun k2 =>
      (L_value_And (vget x1 k1) (vget x2 k2)).bind fun y1 =>
      (idx 4 s1.1).bind fun k3 =>
      (idx 4 s1.1).bind fun k4 =>
      (idx 4 s1.1).bind fun k5 =>
      (L_value_Or (vget x1 k4) (vget x2 k5)).bind fun y2 =>
      (L_value_Xor y2 y1).bind fun y3 =>
      (L_value_Or (vget s1.2.f_Mask k3) y3).bind fun y4 =>
      (idx 4 s1.1).bind fun k6 =>
      (idx 4 s1.1).bind fun k7 =>
      (idx 4 s1.1).bind fun k8 =>
      (L_value_Xor (vget x1 k8) y1).bind fun y5 =>
      (L_value_Or (vget (({ s1.2 with f_Mask := vset s1.2.f_Mask k6 y4 }).f_Value) k7) y5).bind fun y6 =>
      (idx 4 s1.1).bind fun k9 =>
      (some ({ ({ s1.2 with f_Mask := vset s1.2.f_Mask k6 y4 }) with f_Value := vset (({ s1.2 with f_Mask := vset s1.2.f_Mask k6 y4 }).f_Value) k9 y6 })).bind fun z1 =>
      some (.inl (w64 (s1.1 + 1), z1))) (
      some (.inr (s1.1, decide (s1.1 < 4), s1.2)))) (0, x0)).bind fun e1 =>
  some e1.2.2
def L_cover_has (x0 : Vector T_api_Value 4) (x1 : Int) : Option Bool :=
  (divM x1 128).bind fun y1 =>
  (idx 4 y1).bind fun k1 =>
  (modM x1 128).bind fun y2 =>
  (L_value_Bit (vget x0 k1) (w64 (127 - y2))).bind fun y3 =>
  some y3
def L_cover_busiest (x0 : Vector T_api_Value 4) (x1 : List T_cube_Cube) : Option Int :=
  (loopM (σ := Int × Int × Int) (ε := (Int × Int × Int × Bool)) FUEL (fun s1 =>
    cond (decide (s1.2.2 < 512)) (
      (L_cover_has x0 s1.2.2).bind fun y1 =>
      cond (!y1) (
        some (.inl (s1.1, s1.2.1, w64 (s1.2.2 + 1)))) (
        (loopM (σ := Int × Int) (ε := (Int × Int × Bool)) FUEL (fun s2 =>
          cond (decide (s2.2 < (x1.length : Int))) (
            (idx x1.length s2.2).bind fun k1 =>
            (L_cover_has ((lget x1 k1).f_Mask) s1.2.2).bind fun y2 =>
            (cond y2 (
              some (w64 (s2.1 + 1))) (
              some s2.1)).bind fun m1 =>
            some (.inl (m1, w64 (s2.2 + 1)))) (
            some (.inr (s2.1, s2.2, decide (s2.2 < (x1.length : Int)))))) (0, 0)).bind fun e2 =>
        (cond (decide (e2.1 > s1.2.1)) (
          some (s1.2.2, e2.1)) (
          some (s1.1, s1.2.1))).bind fun m2 =>
        some (.inl (m2.1, m2.2, w64 (s1.2.2 + 1))))) (
      some (.inr (s1.1, s1.2.1, s1.2.2, decide (s1.2.2 < 512))))) (0, 0, 0)).bind fun e1 =>
  some e1.1
def Lr_cover_covered : Nat → T_cube_Cube → (List T_cube_Cube) → Option Bool
  | 0 => fun _ _ => none
  | n + 1 => fun x0 x1 =>
    (L_cover_near x0 x1).bind fun y1 =>
    (L_slices_ContainsFunc_cube_Cube y1 (fun a0 => L_cover_covered_fn1 a0 x0)).bind fun y2 =>
    cond y2 (
      some true) (
      cond ((y1.length : Int) == 0) (
        some false) (
        (L_cover_wanted x0 y1).bind fun y3 =>
        (L_cover_escape x0 y3.1 y3.2).bind fun y4 =>
        cond (!decide (y4 = x0)) (
          (Lr_cover_covered n y4 y1).bind fun y5 =>
          some y5) (
          (L_cover_busiest y3.1 y1).bind fun y6 =>
          (L_cube_Fix x0 y6 false).bind fun y7 =>
          (Lr_cover_covered n y7 y1).bind fun y8 =>
          (condM y8 true (L_cube_Fix x0 y6 true)).bind fun y9 =>
          (condM y8 true (Lr_cover_covered n y9 y1)).bind fun y10 =>
          some (y8 && y10))))
def L_cover_covered (x0 : T_cube_Cube) (x1 : List T_cube_Cube) : Option Bool := Lr_cover_covered FUEL x0 x1
def L_cover_Covered (x0 : T_cube_Cube) (x1 : List T_cube_Cube) : Option (Bool × Int) :=
  (L_cover_near x0 x1).bind fun y1 =>
  cond (decide ((y1.length : Int) > 16)) (
    some (false, 26)) (
    (L_cover_covered x0 y1).bind fun y2 =>
    some (y2, 0))
def L_law26_bits (x0 : List T_cube_Cube) : Option (List (Vector (BitVec 8) 512)) :=
  (loopM (σ := Int × (List (Vector (BitVec 8) 512))) (ε := (Int × Bool × (List (Vector (BitVec 8) 512)))) FUEL (fun s1 =>
    cond (decide (s1.1 < (x0.length : Int))) (
      (idx x0.length s1.1).bind fun k1 =>
      (L_ref25_Read ((lget x0 k1).f_Value) ((lget x0 k1).f_Mask)).bind fun y1 =>
      (appM 512 s1.2 [y1]).bind fun y2 =>
      some (.inl (w64 (s1.1 + 1), y2))) (
      some (.inr (s1.1, decide (s1.1 < (x0.length : Int)), s1.2)))) (0, ([] : List (Vector (BitVec 8) 512)))).bind fun e1 =>
  some e1.2.2
def L_ref26_near (x0 : Vector (BitVec 8) 512) (x1 : List (Vector (BitVec 8) 512)) : Option (List (Vector (BitVec 8) 512)) :=
  (loopM (σ := Int × (List (Vector (BitVec 8) 512))) (ε := (Int × Bool × (List (Vector (BitVec 8) 512)))) FUEL (fun s1 =>
    cond (decide (s1.1 < (x1.length : Int))) (
      (idx x1.length s1.1).bind fun k1 =>
      (L_ref25_Meet x0 (lget x1 k1)).bind fun y1 =>
      (cond y1.2 (
        (appM 512 s1.2 [(lget x1 k1)]).bind fun y2 =>
        some y2) (
        some s1.2)).bind fun m1 =>
      some (.inl (w64 (s1.1 + 1), m1))) (
      some (.inr (s1.1, decide (s1.1 < (x1.length : Int)), s1.2)))) (0, ([] : List (Vector (BitVec 8) 512)))).bind fun e1 =>
  some e1.2.2
def Lr_ref26_covered : Nat → (Vector (BitVec 8) 512) → (List (Vector (BitVec 8) 512)) → Option Bool
  | 0 => fun _ _ => none
  | n + 1 => fun x0 x1 =>
    (L_ref26_near x0 x1).bind fun y1 =>
    cond ((y1.length : Int) == 0) (
      some false) (
      (loopM (σ := Int) (ε := (Int × Bool) ⊕ (Bool × Int × Bool × Bool)) FUEL (fun s1 =>
        cond (decide (s1 < (y1.length : Int))) (
          (idx y1.length s1).bind fun k1 =>
          (L_ref25_Within x0 (lget y1 k1)).bind fun y2 =>
          cond y2 (
            some (.inr (Sum.inr (true, s1, decide (s1 < (y1.length : Int)), y2)))) (
            some (.inl (w64 (s1 + 1))))) (
          some (.inr (Sum.inl (s1, decide (s1 < (y1.length : Int))))))) 0).bind fun e1 =>
        Sum.elim (fun e1 =>
          (loopM (σ := Int) (ε := (Int × Bool) ⊕ (Bool × Int × Int × Bool × Bool)) FUEL (fun s2 =>
            cond (decide (s2 < 512)) (
              (idx 512 s2).bind fun k2 =>
              (condM ((vget x0 k2) != (2#8)) false (idx y1.length 0)).bind fun k3 =>
              (condM ((vget x0 k2) != (2#8)) false (idx 512 s2)).bind fun k4 =>
              cond (((vget x0 k2) != (2#8)) || ((vget (lget y1 k3) k4) == (2#8))) (
                some (.inl (w64 (s2 + 1)))) (
                (idx y1.length 0).bind fun k5 =>
                (idx 512 s2).bind fun k6 =>
                (idx y1.length 0).bind fun k7 =>
                (idx 512 s2).bind fun k8 =>
                (idx 512 s2).bind fun k9 =>
                (idx 512 s2).bind fun k10 =>
                (Lr_ref26_covered n (vset x0 k9 ((1#8) - (vget (lget y1 k5) k6))) y1).bind fun y3 =>
                (condM y3 true (Lr_ref26_covered n (vset x0 k10 (vget (lget y1 k7) k8)) y1)).bind fun y4 =>
                some (.inr (Sum.inr (y3 && y4, s2, s2, decide (s2 < 512), ((vget x0 k2) != (2#8)) || ((vget (lget y1 k3) k4) == (2#8))))))) (
              some (.inr (Sum.inl (s2, decide (s2 < 512)))))) 0).bind fun e2 =>
            Sum.elim (fun e2 =>
              some false) (fun e2 =>
            some e2.1) e2) (fun e1 =>
        some e1.1) e1)
def L_ref26_covered (x0 : Vector (BitVec 8) 512) (x1 : List (Vector (BitVec 8) 512)) : Option Bool := Lr_ref26_covered FUEL x0 x1
def L_ref26_Covered (x0 : Vector (BitVec 8) 512) (x1 : List (Vector (BitVec 8) 512)) : Option (Bool × Int) :=
  (L_ref26_near x0 x1).bind fun y1 =>
  cond (decide ((y1.length : Int) > 16)) (
    some (false, 26)) (
    (L_ref26_covered x0 x1).bind fun y2 =>
    some (y2, 0))
def L_law26_begun  : Option Bool :=
  (some (vset (default : Vector T_api_Value 4) 0 ({ (default : T_api_Value) with f_Lo := 4#64 }))).bind fun z1 =>
  (some (vset (default : Vector T_api_Value 4) 0 ({ (default : T_api_Value) with f_Lo := 4#64 }))).bind fun z2 =>
  (some (vset (default : Vector T_api_Value 4) 0 ({ (default : T_api_Value) with f_Lo := 4#64 }))).bind fun z3 =>
  (some ([({ (default : T_cube_Cube) with f_Mask := z1 }), ({ f_Mask := z2, f_Value := z3 : T_cube_Cube })])).bind fun z4 =>
  (L_cover_Covered (default : T_cube_Cube) z4).bind fun y1 =>
  (L_cover_Covered (default : T_cube_Cube) [({ (default : T_cube_Cube) with f_Mask := z1 })]).bind fun y2 =>
  some (((y1.1 && (!y2.1)) && (y1.2 == 0)) && (y2.2 == 0))
def L_law26_CoverDecides (x0 : List (BitVec 16)) (x1 : List (BitVec 16)) : Option Bool :=
  (L_law26_made x0 17).bind fun y1 =>
  (L_law26_made x1 2).bind fun y2 =>
  (appM 128 y2 [(default : T_cube_Cube)]).bind fun y3 =>
  (loopM (σ := Int) (ε := (Int × Bool) ⊕ (Bool × Int × Bool × Int × Int × Bool × Bool)) FUEL (fun s1 =>
    cond (decide (s1 < (y3.length : Int))) (
      (idx y3.length s1).bind fun k1 =>
      (L_cover_Covered (lget y3 k1) y1).bind fun y4 =>
      (L_law26_bits [(lget y3 k1)]).bind fun y5 =>
      (idx y5.length 0).bind fun k2 =>
      (L_law26_bits y1).bind fun y6 =>
      (L_ref26_Covered (lget y5 k2) y6).bind fun y7 =>
      cond ((y4.1 != y7.1) || (y4.2 != y7.2)) (
        some (.inr (Sum.inr (y4.1, y4.2, y7.1, y7.2, s1, decide (s1 < (y3.length : Int)), (y4.1 != y7.1) || (y4.2 != y7.2))))) (
        some (.inl (w64 (s1 + 1))))) (
      some (.inr (Sum.inl (s1, decide (s1 < (y3.length : Int))))))) 0).bind fun e1 =>
    Sum.elim (fun e1 =>
      (L_law26_begun).bind fun y8 =>
      some y8) (fun e1 =>
    some false) e1
def L_law26_CoverParts (x0 : List (BitVec 16)) (x1 : BitVec 16) (x2 : List (BitVec 16)) : Option Bool :=
  (L_law26_made x0 16).bind fun y1 =>
  (L_law26_made x2 1).bind fun y2 =>
  (appM 128 y2 [(default : T_cube_Cube)]).bind fun y3 =>
  (loopM (σ := Int) (ε := (Int × Bool) ⊕ (Int × Bool × Int × Bool × Int × Bool × Int × Int × Bool × (List Int) × Int × Int × Bool × Bool)) FUEL (fun s1 =>
    cond (decide (s1 < (y3.length : Int))) (
      (idx y3.length s1).bind fun k1 =>
      (uremM x1 (512#16)).bind fun y4 =>
      (uremM x1 (4#16)).bind fun y5 =>
      (loopM (σ := Int) (ε := (Int × Bool) ⊕ (Int × Bool × Int × Bool × Int × Bool × Int × Int × Bool × Bool)) FUEL (fun s2 =>
        (some (decide (s2 < ([(y4.toNat : Int), w64 (128 + (y5.toNat : Int)), 0, 1].length : Int)))).bind fun z1 =>
        cond z1 (
          (idx ([(y4.toNat : Int), w64 (128 + (y5.toNat : Int)), 0, 1].length) s2).bind fun k2 =>
          (L_cover_Covered (lget y3 k1) y1).bind fun y6 =>
          (L_cube_Fix (lget y3 k1) (lget [(y4.toNat : Int), w64 (128 + (y5.toNat : Int)), 0, 1] k2) false).bind fun y7 =>
          (L_cover_Covered y7 y1).bind fun y8 =>
          (L_cube_Fix (lget y3 k1) (lget [(y4.toNat : Int), w64 (128 + (y5.toNat : Int)), 0, 1] k2) true).bind fun y9 =>
          (L_cover_Covered y9 y1).bind fun y10 =>
          (some ((((y6.2 != 0) || (y8.2 != 0)) || (y10.2 != 0)) || (y6.1 != (y8.1 && y10.1)))).bind fun z2 =>
          cond z2 (
            some (.inr (Sum.inr (lget [(y4.toNat : Int), w64 (128 + (y5.toNat : Int)), 0, 1] k2, y6.1, y6.2, y8.1, y8.2, y10.1, y10.2, s2, z1, z2)))) (
            some (.inl (w64 (s2 + 1))))) (
          some (.inr (Sum.inl (s2, z1))))) 0).bind fun e2 =>
        Sum.elim (fun e2 =>
          some (.inl (w64 (s1 + 1)))) (fun e2 =>
        some (.inr (Sum.inr (e2.1, e2.2.1, e2.2.2.1, e2.2.2.2.1, e2.2.2.2.2.1, e2.2.2.2.2.2.1, e2.2.2.2.2.2.2.1, s1, decide (s1 < (y3.length : Int)), [(y4.toNat : Int), w64 (128 + (y5.toNat : Int)), 0, 1], ([(y4.toNat : Int), w64 (128 + (y5.toNat : Int)), 0, 1].length : Int), e2.2.2.2.2.2.2.2.1, e2.2.2.2.2.2.2.2.2.1, e2.2.2.2.2.2.2.2.2.2)))) e2) (
      some (.inr (Sum.inl (s1, decide (s1 < (y3.length : Int))))))) 0).bind fun e1 =>
    Sum.elim (fun e1 =>
      (L_law26_begun).bind fun y11 =>
      some y11) (fun e1 =>
    some false) e1
def L_law26_CoverPoints (x0 : List (BitVec 16)) (x1 : List (BitVec 16)) (x2 : Vector T_api_Value 4) : Option Bool :=
  (L_law26_made x0 16).bind fun y1 =>
  (L_law26_made x1 2).bind fun y2 =>
  (appM 128 y2 [(default : T_cube_Cube)]).bind fun y3 =>
  (loopM (σ := Int × (Vector T_api_Value 4)) (ε := (Int × Bool × (Vector T_api_Value 4)) ⊕ (Bool × Int × Bool × Int × Bool × Int × Bool × (List T_cube_Cube) × Int × Int × Bool × Bool × (Vector T_api_Value 4))) FUEL (fun s1 =>
    cond (decide (s1.1 < (y3.length : Int))) (
      (idx y3.length s1.1).bind fun k1 =>
      (L_cover_Covered (lget y3 k1) y1).bind fun y4 =>
      (loopM (σ := Int × (Vector T_api_Value 4)) (ε := (Int × Bool × (Vector T_api_Value 4))) FUEL (fun s2 =>
        cond (decide (s2.1 < 4)) (
          (idx 4 s2.1).bind fun k2 =>
          (idx 4 s2.1).bind fun k3 =>
          (idx 4 s2.1).bind fun k4 =>
          (some ((((vget s2.2 k2).f_Hi) &&& ~~~((vget ((lget y3 k1).f_Mask) k3).f_Hi)) ||| ((vget ((lget y3 k1).f_Value) k4).f_Hi))).bind fun z1 =>
          (idx 4 s2.1).bind fun k5 =>
          (idx 4 s2.1).bind fun k6 =>
          (idx 4 s2.1).bind fun k7 =>
          (some ((((vget s2.2 k5).f_Lo) &&& ~~~((vget ((lget y3 k1).f_Mask) k6).f_Lo)) ||| ((vget ((lget y3 k1).f_Value) k7).f_Lo))).bind fun z2 =>
          (idx 4 s2.1).bind fun k8 =>
          (idx 4 s2.1).bind fun k9 =>
          (some (vset (vset s2.2 k8 ({ (vget s2.2 k8) with f_Hi := z1 })) k9 ({ (vget (vset s2.2 k8 ({ (vget s2.2 k8) with f_Hi := z1 })) k9) with f_Lo := z2 }))).bind fun z3 =>
          some (.inl (w64 (s2.1 + 1), z3))) (
          some (.inr (s2.1, decide (s2.1 < 4), s2.2)))) (0, s1.2)).bind fun e2 =>
      (loopM (σ := Bool × Int) (ε := (Bool × Int × Bool)) FUEL (fun s3 =>
        cond (decide (s3.2 < (y1.length : Int))) (
          (idx y1.length s3.2).bind fun k10 =>
          (condM s3.1 false (L_cube_Contains (lget y1 k10) e2.2.2)).bind fun y5 =>
          some (.inl (s3.1 || y5, w64 (s3.2 + 1)))) (
          some (.inr (s3.1, s3.2, decide (s3.2 < (y1.length : Int)))))) (false, 0)).bind fun e3 =>
      cond ((y4.2 != 0) || (y4.1 && (!e3.1))) (
        some (.inr (Sum.inr (y4.1, y4.2, e3.1, s1.1, decide (s1.1 < (y3.length : Int)), e2.1, e2.2.1, y1, (y1.length : Int), e3.2.1, e3.2.2, (y4.2 != 0) || (y4.1 && (!e3.1)), e2.2.2)))) (
        some (.inl (w64 (s1.1 + 1), e2.2.2)))) (
      some (.inr (Sum.inl (s1.1, decide (s1.1 < (y3.length : Int)), s1.2))))) (0, x2)).bind fun e1 =>
    Sum.elim (fun e1 =>
      (L_law26_begun).bind fun y6 =>
      some y6) (fun e1 =>
    some false) e1
def L_cover_Reduce (x0 : List T_cube_Cube) : Option (List T_cube_Cube) :=
  (loopM (σ := Int × (List T_cube_Cube)) (ε := (Int × Bool × (List T_cube_Cube))) FUEL (fun s1 =>
    cond (decide (s1.1 < (x0.length : Int))) (
      (idx x0.length s1.1).bind fun k1 =>
      (loopM (σ := Bool × Int) (ε := (Bool × Int × Bool)) FUEL (fun s2 =>
        cond (decide (s2.2 < (x0.length : Int))) (
          (idx x0.length s2.2).bind fun k2 =>
          (condM (decide ((s2.1 = false) ∧ (s2.2 != s1.1) = true)) true (L_cube_Within (lget x0 k1) (lget x0 k2))).bind fun y1 =>
          (some (s2.1 || (((s2.2 != s1.1) && y1) && ((!decide ((lget x0 k1) = (lget x0 k2))) || (decide (s2.2 < s1.1)))))).bind fun z1 =>
          some (.inl (z1, w64 (s2.2 + 1)))) (
          some (.inr (s2.1, s2.2, decide (s2.2 < (x0.length : Int)))))) (false, 0)).bind fun e2 =>
      (cond (!e2.1) (
        (appM 128 s1.2 [(lget x0 k1)]).bind fun y2 =>
        some y2) (
        some s1.2)).bind fun m1 =>
      some (.inl (w64 (s1.1 + 1), m1))) (
      some (.inr (s1.1, decide (s1.1 < (x0.length : Int)), s1.2)))) (0, ([] : List T_cube_Cube))).bind fun e1 =>
  some e1.2.2
def L_ref26_Reduce (x0 : List (Vector (BitVec 8) 512)) : Option (List (Vector (BitVec 8) 512)) :=
  (loopM (σ := Int × (List (Vector (BitVec 8) 512))) (ε := (Int × Bool × (List (Vector (BitVec 8) 512)))) FUEL (fun s1 =>
    cond (decide (s1.1 < (x0.length : Int))) (
      (idx x0.length s1.1).bind fun k1 =>
      (loopM (σ := Bool × Int) (ε := (Bool × Int × Bool)) FUEL (fun s2 =>
        cond (decide (s2.2 < (x0.length : Int))) (
          (idx x0.length s2.2).bind fun k2 =>
          (L_ref25_Within (lget x0 k1) (lget x0 k2)).bind fun y1 =>
          (some (y1 && ((!decide ((lget x0 k1) = (lget x0 k2))) || (decide (s2.2 < s1.1))))).bind fun z1 =>
          (cond z1 (
            some false) (
            some s2.1)).bind fun m1 =>
          some (.inl (m1, w64 (s2.2 + 1)))) (
          some (.inr (s2.1, s2.2, decide (s2.2 < (x0.length : Int)))))) (true, 0)).bind fun e2 =>
      (cond e2.1 (
        (appM 512 s1.2 [(lget x0 k1)]).bind fun y2 =>
        some y2) (
        some s1.2)).bind fun m2 =>
      some (.inl (w64 (s1.1 + 1), m2))) (
      some (.inr (s1.1, decide (s1.1 < (x0.length : Int)), s1.2)))) (0, ([] : List (Vector (BitVec 8) 512)))).bind fun e1 =>
  some e1.2.2
def L_law26_CoverReduce (x0 : List (BitVec 16)) (x1 : List (BitVec 16)) : Option Bool :=
  (L_law26_made x0 16).bind fun y1 =>
  (L_cover_Reduce y1).bind fun y2 =>
  (L_law26_bits y1).bind fun y3 =>
  (L_ref26_Reduce y3).bind fun y4 =>
  cond ((y2.length : Int) != (y4.length : Int)) (
    some false) (
    (L_law26_bits y2).bind fun y5 =>
    (loopM (σ := Int) (ε := (Int × Bool) ⊕ (Int × Int × Bool × Bool)) FUEL (fun s1 =>
      cond (decide (s1 < (y5.length : Int))) (
        (idx y5.length s1).bind fun k1 =>
        (idx y4.length s1).bind fun k2 =>
        cond (!decide ((lget y5 k1) = lget y4 k2)) (
          some (.inr (Sum.inr (s1, s1, decide (s1 < (y5.length : Int)), !decide ((lget y5 k1) = lget y4 k2))))) (
          some (.inl (w64 (s1 + 1))))) (
        some (.inr (Sum.inl (s1, decide (s1 < (y5.length : Int))))))) 0).bind fun e1 =>
      Sum.elim (fun e1 =>
        (loopM (σ := Int × (List T_cube_Cube)) (ε := (Int × Bool × (List T_cube_Cube))) FUEL (fun s2 =>
          cond (decide (s2.1 < (y1.length : Int))) (
            (idx y1.length (w64 ((w64 ((y1.length : Int) - 1)) - s2.1))).bind fun k3 =>
            (appM 128 s2.2 [lget y1 k3]).bind fun y6 =>
            some (.inl (w64 (s2.1 + 1), y6))) (
            some (.inr (s2.1, decide (s2.1 < (y1.length : Int)), s2.2)))) (0, ([] : List T_cube_Cube))).bind fun e2 =>
        (L_law26_made x1 2).bind fun y7 =>
        (appM 128 y7 [(default : T_cube_Cube)]).bind fun y8 =>
        (loopM (σ := Int) (ε := (Int × Bool) ⊕ (Bool × Int × Bool × Int × Bool × Int × Int × Bool × Bool)) FUEL (fun s4 =>
          cond (decide (s4 < (y8.length : Int))) (
            (idx y8.length s4).bind fun k4 =>
            (L_cover_Covered (lget y8 k4) y1).bind fun y9 =>
            (L_cover_Covered (lget y8 k4) y2).bind fun y10 =>
            (L_cover_Covered (lget y8 k4) e2.2.2).bind fun y11 =>
            (some (((((y9.2 != 0) || (y10.2 != 0)) || (y11.2 != 0)) || (y9.1 != y10.1)) || (y9.1 != y11.1))).bind fun z1 =>
            cond z1 (
              some (.inr (Sum.inr (y9.1, y9.2, y10.1, y10.2, y11.1, y11.2, s4, decide (s4 < (y8.length : Int)), z1)))) (
              some (.inl (w64 (s4 + 1))))) (
            some (.inr (Sum.inl (s4, decide (s4 < (y8.length : Int))))))) 0).bind fun e3 =>
          Sum.elim (fun e3 =>
            (L_law26_begun).bind fun y12 =>
            some y12) (fun e3 =>
          some false) e3) (fun e1 =>
      some false) e1)
def L_cover_Witness (x0 : T_cube_Cube) (x1 : List T_cube_Cube) : Option ((Vector T_api_Value 4) × Bool × Int) :=
  (L_cover_near x0 x1).bind fun y1 =>
  cond (decide ((y1.length : Int) > 16)) (
    some ((default : Vector T_api_Value 4), false, 26)) (
    (L_cover_covered x0 y1).bind fun y2 =>
    cond y2 (
      some ((default : Vector T_api_Value 4), false, 0)) (
      (loopM (σ := (List T_cube_Cube) × Int × T_cube_Cube) (ε := ((List T_cube_Cube) × Int × Bool × T_cube_Cube)) FUEL (fun s1 =>
        cond (decide (s1.2.1 < 512)) (
          (L_cube_Fix s1.2.2 s1.2.1 false).bind fun y3 =>
          cond (decide (y3 = s1.2.2)) (
            some (.inl (s1.1, w64 (s1.2.1 + 1), s1.2.2))) (
            (L_cover_near y3 s1.1).bind fun y4 =>
            (L_cover_covered y3 y4).bind fun y5 =>
            cond (!y5) (
              some (.inl (y4, w64 (s1.2.1 + 1), y3))) (
              (L_cube_Fix s1.2.2 s1.2.1 true).bind fun y6 =>
              (L_cover_near y6 s1.1).bind fun y7 =>
              some (.inl (y7, w64 (s1.2.1 + 1), y6))))) (
          some (.inr (s1.1, s1.2.1, decide (s1.2.1 < 512), s1.2.2)))) (y1, 0, x0)).bind fun e1 =>
      some (e1.2.2.2.f_Value, true, 0)))
def L_ref26_point (x0 : Vector (BitVec 8) 512) : Option (Vector T_api_Value 4) :=
  (loopM (σ := Int × (Vector T_api_Value 4)) (ε := (Int × Bool × (Vector T_api_Value 4))) FUEL (fun s1 =>
    cond (decide (s1.1 < 4)) (
      (loopM (σ := Int × (Vector Bool 128)) (ε := (Int × Bool × (Vector Bool 128))) FUEL (fun s2 =>
        cond (decide (s2.1 < 128)) (
          (idx 512 (w64 ((w64 ((w64 (128 * s1.1)) + 127)) - s2.1))).bind fun k1 =>
          (idx 128 s2.1).bind fun k2 =>
          some (.inl (w64 (s2.1 + 1), vset s2.2 k2 ((vget x0 k1) == (1#8))))) (
          some (.inr (s2.1, decide (s2.1 < 128), s2.2)))) (0, (default : Vector Bool 128))).bind fun e2 =>
      (L_ref01_Make e2.2.2).bind fun y1 =>
      (idx 4 s1.1).bind fun k3 =>
      some (.inl (w64 (s1.1 + 1), vset s1.2 k3 y1))) (
      some (.inr (s1.1, decide (s1.1 < 4), s1.2)))) (0, (default : Vector T_api_Value 4))).bind fun e1 =>
  some e1.2.2
def L_ref26_Witness (x0 : Vector (BitVec 8) 512) (x1 : List (Vector (BitVec 8) 512)) : Option ((Vector T_api_Value 4) × Bool × Int) :=
  (L_ref26_Covered x0 x1).bind fun y1 =>
  cond ((y1.2 != 0) || y1.1) (
    some ((default : Vector T_api_Value 4), false, y1.2)) (
    (L_ref26_near x0 x1).bind fun y2 =>
    (loopM (σ := Int × (Vector (BitVec 8) 512)) (ε := (Int × Bool × (Vector (BitVec 8) 512))) FUEL (fun s1 =>
      cond (decide (s1.1 < 512)) (
        (idx 512 s1.1).bind fun k1 =>
        cond ((vget s1.2 k1) != (2#8)) (
          some (.inl (w64 (s1.1 + 1), s1.2))) (
          (idx 512 s1.1).bind fun k2 =>
          (loopM (σ := Bool × Int) (ε := (Bool × Int × Bool)) FUEL (fun s2 =>
            cond (decide (s2.2 < (y2.length : Int))) (
              (idx y2.length s2.2).bind fun k3 =>
              (condM s2.1 false (idx 512 s1.1)).bind fun k4 =>
              some (.inl (s2.1 || ((vget (lget y2 k3) k4) != (2#8)), w64 (s2.2 + 1)))) (
              some (.inr (s2.1, s2.2, decide (s2.2 < (y2.length : Int)))))) (false, 0)).bind fun e2 =>
          (condM e2.1 true (L_ref26_covered (vset s1.2 k2 (0#8)) y2)).bind fun y3 =>
          (cond (e2.1 && y3) (
            (idx 512 s1.1).bind fun k5 =>
            some (vset (vset s1.2 k2 (0#8)) k5 (1#8))) (
            some (vset s1.2 k2 (0#8)))).bind fun m1 =>
          some (.inl (w64 (s1.1 + 1), m1)))) (
        some (.inr (s1.1, decide (s1.1 < 512), s1.2)))) (0, x0)).bind fun e1 =>
    (L_ref26_point e1.2.2).bind fun y4 =>
    some (y4, true, 0))
def L_law26_CoverWitness (x0 : List (BitVec 16)) (x1 : List (BitVec 16)) : Option Bool :=
  (L_law26_made x0 17).bind fun y1 =>
  (L_law26_made x1 2).bind fun y2 =>
  (appM 128 y2 [(default : T_cube_Cube)]).bind fun y3 =>
  (loopM (σ := Int) (ε := (Int × Bool) ⊕ (Bool × Int × Bool × Int × Int × Bool × Bool)) FUEL (fun s1 =>
    cond (decide (s1 < (y3.length : Int))) (
      (idx y3.length s1).bind fun k1 =>
      (L_cover_Witness (lget y3 k1) y1).bind fun y4 =>
      (L_law26_bits [(lget y3 k1)]).bind fun y5 =>
      (idx y5.length 0).bind fun k2 =>
      (L_law26_bits y1).bind fun y6 =>
      (L_ref26_Witness (lget y5 k2) y6).bind fun y7 =>
      cond (((!decide (y4.1 = y7.1)) || (y4.2.1 != y7.2.1)) || (y4.2.2 != y7.2.2)) (
        some (.inr (Sum.inr (y4.2.1, y4.2.2, y7.2.1, y7.2.2, s1, decide (s1 < (y3.length : Int)), ((!decide (y4.1 = y7.1)) || (y4.2.1 != y7.2.1)) || (y4.2.2 != y7.2.2))))) (
        (condM y4.2.1 true (L_cube_Contains (lget y3 k1) y4.1)).bind fun y8 =>
        cond (y4.2.1 && (!y8)) (
          some (.inr (Sum.inr (y4.2.1, y4.2.2, y7.2.1, y7.2.2, s1, decide (s1 < (y3.length : Int)), ((!decide (y4.1 = y7.1)) || (y4.2.1 != y7.2.1)) || (y4.2.2 != y7.2.2))))) (
          (loopM (σ := Int) (ε := (Int × Bool) ⊕ (Int × Bool × Bool)) FUEL (fun s2 =>
            cond (decide (s2 < (y1.length : Int))) (
              (idx y1.length s2).bind fun k3 =>
              (condM y4.2.1 true (L_cube_Contains (lget y1 k3) y4.1)).bind fun y9 =>
              cond (y4.2.1 && y9) (
                some (.inr (Sum.inr (s2, decide (s2 < (y1.length : Int)), y4.2.1 && y9)))) (
                some (.inl (w64 (s2 + 1))))) (
              some (.inr (Sum.inl (s2, decide (s2 < (y1.length : Int))))))) 0).bind fun e2 =>
            Sum.elim (fun e2 =>
              (L_cover_Covered (lget y3 k1) y1).bind fun y10 =>
              cond ((y10.2 != y4.2.2) || ((y4.2.2 == 0) && (y10.1 == y4.2.1))) (
                some (.inr (Sum.inr (y4.2.1, y4.2.2, y7.2.1, y7.2.2, s1, decide (s1 < (y3.length : Int)), ((!decide (y4.1 = y7.1)) || (y4.2.1 != y7.2.1)) || (y4.2.2 != y7.2.2))))) (
                some (.inl (w64 (s1 + 1))))) (fun e2 =>
            some (.inr (Sum.inr (y4.2.1, y4.2.2, y7.2.1, y7.2.2, s1, decide (s1 < (y3.length : Int)), ((!decide (y4.1 = y7.1)) || (y4.2.1 != y7.2.1)) || (y4.2.2 != y7.2.2))))) e2))) (
      some (.inr (Sum.inl (s1, decide (s1 < (y3.length : Int))))))) 0).bind fun e1 =>
    Sum.elim (fun e1 =>
      (L_law26_begun).bind fun y11 =>
      some y11) (fun e1 =>
    some false) e1
end Go.Proofs.Ytabodolbdalimaa
