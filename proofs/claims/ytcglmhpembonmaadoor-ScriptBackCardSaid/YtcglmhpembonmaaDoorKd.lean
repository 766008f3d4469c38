/-
  Each function of the translation as a functional program. Conditions: none.
-/
import Derived.Test.YtcglmhpembonmaaDoorKt
import Derived.Test.YtcglmhpembonmaaDoorKs0
namespace Go.Proofs.YtcglmhpembonmaaDoor
open Go Gv
set_option linter.unusedVariables false
set_option linter.unusedSimpArgs false
set_option maxRecDepth 100000
def L_law33_short (x0 : List T_api_Call) : Option (List T_api_Call) :=
  (sliceM x0 0 (min (x0.length : Int) 8)).bind fun y1 =>
  (appM 32 ([] : List T_api_Call) y1).bind fun y2 =>
  (loopM (σ := Int × (List T_api_Call)) (ε := (Int × Bool × (List T_api_Call))) FUEL (fun s1 =>
    cond (decide (s1.1 < (y2.length : Int))) (
      (idx s1.2.length s1.1).bind fun k1 =>
      (idx s1.2.length s1.1).bind fun k2 =>
      (sliceM ((lget s1.2 k1).f_Data) 0 (min (((lget s1.2 k2).f_Data).length : Int) 30)).bind fun y3 =>
      (idx s1.2.length s1.1).bind fun k3 =>
      some (.inl (w64 (s1.1 + 1), lset s1.2 k3 ({ (lget s1.2 k3) with f_Data := y3 } : T_api_Call)))) (
      some (.inr (s1.1, decide (s1.1 < (y2.length : Int)), s1.2)))) (0, y2)).bind fun e1 =>
  some e1.2.2
def Lr_ref33_digits : Nat → (BitVec 64) → Option ByteArray
  | 0 => fun _ => none
  | n + 1 => fun x0 =>
    cond (decide (x0 < (10#64))) (
      some (strOf [((48#64) + x0).setWidth 8])) (
      (uquoM x0 (10#64)).bind fun y1 =>
      (Lr_ref33_digits n y1).bind fun y2 =>
      (uremM x0 (10#64)).bind fun y3 =>
      (catM y2 (strOf [((48#64) + y3).setWidth 8])).bind fun y4 =>
      some y4)
def L_ref33_digits (x0 : BitVec 64) : Option ByteArray := Lr_ref33_digits FUEL x0
def L_ref33_decimal (x0 : Int) : Option ByteArray :=
  cond (decide (x0 < 0)) (
    (L_ref33_digits ((BitVec.ofInt 64 (w64 (0 - (w64 (x0 + 1))))) + (1#64))).bind fun y1 =>
    (catM (ByteArray.mk #[45]) y1).bind fun y2 =>
    some y2) (
    (L_ref33_digits (BitVec.ofInt 64 x0)).bind fun y3 =>
    some y3)
def L_ref33_Line (x0 : T_api_Call) : Option ByteArray :=
  (L_ref33_decimal x0.f_Controller).bind fun y1 =>
  (catM y1 (ByteArray.mk #[32])).bind fun y2 =>
  (strB y2).bind fun y3 =>
  (loopM (σ := Int × (List (BitVec 8))) (ε := (Int × Bool × (List (BitVec 8)))) FUEL (fun s1 =>
    cond (decide (s1.1 < (x0.f_Data.length : Int))) (
      (idx x0.f_Data.length s1.1).bind fun k1 =>
      (strM (ByteArray.mk #[48, 49, 50, 51, 52, 53, 54, 55, 56, 57, 97, 98, 99, 100, 101, 102]) (((lget x0.f_Data k1) >>> (4#64).toNat).toNat : Int)).bind fun y4 =>
      (strM (ByteArray.mk #[48, 49, 50, 51, 52, 53, 54, 55, 56, 57, 97, 98, 99, 100, 101, 102]) (((lget x0.f_Data k1) &&& (15#8)).toNat : Int)).bind fun y5 =>
      (appM 1 s1.2 [y4, y5]).bind fun y6 =>
      some (.inl (w64 (s1.1 + 1), y6))) (
      some (.inr (s1.1, decide (s1.1 < (x0.f_Data.length : Int)), s1.2)))) (0, y3)).bind fun e1 =>
  (appM 1 e1.2.2 ([10#8] : List (BitVec 8))).bind fun y7 =>
  some (strOf y7)
def L_script_Parse (x0 : ByteArray) : Option ((List T_api_Call) × Int × Int) :=
  (linesM x0).bind fun y1 =>
  cond (!y1.2.2) (
    some (([] : List T_api_Call), y1.2.1, 2)) (
    some (y1.1, 0, 0))
def L_ref33_hex (x0 : BitVec 8) : Option (BitVec 8) :=
  cond ((decide (x0 ≥ (48#8))) && (decide (x0 ≤ (57#8)))) (
    some (x0 - (48#8))) (
    cond ((decide (x0 ≥ (97#8))) && (decide (x0 ≤ (102#8)))) (
      some ((x0 - (97#8)) + (10#8))) (
      some (0#8)))
def L_ref33_call (x0 : ByteArray) : Option T_api_Call :=
  (loopM (σ := Bool × Int × T_api_Call) (ε := (Bool × Int × Bool × T_api_Call)) FUEL (fun s1 =>
    (condM (decide (s1.2.1 < (x0.size : Int))) true (strM x0 s1.2.1)).bind fun y1 =>
    cond ((decide (s1.2.1 < (x0.size : Int))) && (y1 != (32#8))) (
      (strM x0 s1.2.1).bind fun y2 =>
      (cond (y2 == (45#8)) (
        some (true, s1.2.2)) (
        (strM x0 s1.2.1).bind fun y3 =>
        (L_ref33_hex y3).bind fun y4 =>
        (some (({ s1.2.2 with f_Controller := w64 ((w64 (10 * s1.2.2.f_Controller)) - (y4.toNat : Int)) } : T_api_Call))).bind fun z1 =>
        some (s1.1, z1))).bind fun m1 =>
      some (.inl (m1.1, w64 (s1.2.1 + 1), m1.2))) (
      some (.inr (s1.1, s1.2.1, (decide (s1.2.1 < (x0.size : Int))) && (y1 != (32#8)), s1.2.2)))) (false, 0, (default : T_api_Call))).bind fun e1 =>
  (cond (!e1.1) (
    (some (({ e1.2.2.2 with f_Controller := w64 (0 - e1.2.2.2.f_Controller) } : T_api_Call))).bind fun z2 =>
    some z2) (
    some e1.2.2.2)).bind fun m2 =>
  (loopM (σ := Int × (List (BitVec 8)) × T_api_Call) (ε := (Int × Bool × (List (BitVec 8)) × T_api_Call)) FUEL (fun s2 =>
    cond (decide ((w64 (s2.1 + 1)) < (x0.size : Int))) (
      (strM x0 s2.1).bind fun y5 =>
      (L_ref33_hex y5).bind fun y6 =>
      (strM x0 (w64 (s2.1 + 1))).bind fun y7 =>
      (L_ref33_hex y7).bind fun y8 =>
      (appM 1 s2.2.1 [(y6 <<< (4#64).toNat) ||| y8]).bind fun y9 =>
      some (.inl (w64 (s2.1 + 2), y9, ({ s2.2.2 with f_Data := [] } : T_api_Call)))) (
      some (.inr (s2.1, decide ((w64 (s2.1 + 1)) < (x0.size : Int)), s2.2.1, s2.2.2)))) (w64 (e1.2.1 + 1), ([] : List (BitVec 8)), m2)).bind fun e2 =>
  some ({ e2.2.2.2 with f_Data := e2.2.2.1 } : T_api_Call)
def L_ref33_Parse (x0 : ByteArray) : Option ((List T_api_Call) × Int × Int) :=
  (loopM (σ := ByteArray × (List T_api_Call)) (ε := (ByteArray × Bool × (List T_api_Call)) ⊕ (ByteArray × Int × Int × Int × Bool × Bool × Bool × (List T_api_Call))) FUEL (fun s1 =>
    cond (decide ((s1.1.size : Int) > 0)) (
      (loopM (σ := Int) (ε := (Int × Bool)) FUEL (fun s2 =>
        (condM (decide (s2 < (s1.1.size : Int))) true (strM s1.1 s2)).bind fun y1 =>
        cond ((decide (s2 < (s1.1.size : Int))) && (y1 != (10#8))) (
          some (.inl (w64 (s2 + 1)))) (
          some (.inr (s2, (decide (s2 < (s1.1.size : Int))) && (y1 != (10#8)))))) 0).bind fun e2 =>
      (substr s1.1 0 (min (w64 (e2.1 + 1)) (s1.1.size : Int))).bind fun y2 =>
      (L_ref33_call y2).bind fun y3 =>
      (L_ref33_Line y3).bind fun y4 =>
      (substr s1.1 0 (min (w64 (e2.1 + 1)) (s1.1.size : Int))).bind fun y5 =>
      cond (y4.data.toList != y5.data.toList) (
        some (.inr (Sum.inr (s1.1, (s1.2.length : Int), 2, min (w64 (e2.1 + 1)) (s1.1.size : Int), decide ((s1.1.size : Int) > 0), e2.2, y4.data.toList != y5.data.toList, s1.2)))) (
        (appM 32 s1.2 [y3]).bind fun y6 =>
        (substr s1.1 (min (w64 (e2.1 + 1)) (s1.1.size : Int)) s1.1.size).bind fun y7 =>
        some (.inl (y7, y6)))) (
      some (.inr (Sum.inl (s1.1, decide ((s1.1.size : Int) > 0), s1.2))))) (x0, ([] : List T_api_Call))).bind fun e1 =>
    Sum.elim (fun e1 =>
      some (e1.2.2, 0, 0)) (fun e1 =>
    some (([] : List T_api_Call), e1.2.1, e1.2.2.1)) e1
def L_ref33_Same (x0 : List T_api_Call) (x1 : List T_api_Call) : Option Bool :=
  cond ((x0.length : Int) != (x1.length : Int)) (
    some false) (
    (loopM (σ := Int) (ε := (Int × Bool) ⊕ (Int × Int × Bool × Bool)) FUEL (fun s1 =>
      cond (decide (s1 < (x0.length : Int))) (
        (idx x0.length s1).bind fun k1 =>
        (idx x1.length s1).bind fun k2 =>
        (condM (((lget x0 k1).f_Controller) != ((lget x1 k2).f_Controller)) false (idx x0.length s1)).bind fun k3 =>
        (condM (((lget x0 k1).f_Controller) != ((lget x1 k2).f_Controller)) false (idx x1.length s1)).bind fun k4 =>
        (some ((((lget x0 k1).f_Controller) != ((lget x1 k2).f_Controller)) || ((strOf ((lget x0 k3).f_Data)).data.toList != (strOf ((lget x1 k4).f_Data)).data.toList))).bind fun z1 =>
        cond z1 (
          some (.inr (Sum.inr (s1, s1, decide (s1 < (x0.length : Int)), z1)))) (
          some (.inl (w64 (s1 + 1))))) (
        some (.inr (Sum.inl (s1, decide (s1 < (x0.length : Int))))))) 0).bind fun e1 =>
      Sum.elim (fun e1 =>
        some true) (fun e1 =>
      some false) e1)
def L_law33_begun  : Option Bool :=
  (some ({ f_Controller := 3, f_Data := ([2#8] : List (BitVec 8)) : T_api_Call })).bind fun z1 =>
  (Ls_Format [z1]).bind fun y1 =>
  some (y1.data.toList == (ByteArray.mk #[51, 32, 48, 50, 10]).data.toList)
def L_law33_ScriptBack (x0 : List T_api_Call) (x1 : ByteArray) : Option Bool :=
  (L_law33_short x0).bind fun y1 =>
  (Ls_Format y1).bind fun y2 =>
  (L_script_Parse y2).bind fun y3 =>
  (substr x1 0 (min (x1.size : Int) 100)).bind fun y4 =>
  (L_script_Parse y4).bind fun y5 =>
  (condM (y3.2.2 == 0) true (L_ref33_Same y3.1 y1)).bind fun y6 =>
  (condM (decide ((((y3.2.2 == 0) && y6) = true) ∧ (y5.2.2 != 0) = false)) true (Ls_Format y5.1)).bind fun y7 =>
  (condM (decide ((((y3.2.2 == 0) && y6) = true) ∧ (y5.2.2 != 0) = false)) true (substr x1 0 (min (x1.size : Int) 100))).bind fun y8 =>
  (some (((y3.2.2 == 0) && y6) && ((y5.2.2 != 0) || (y7.data.toList == y8.data.toList)))).bind fun z1 =>
  (condM z1 true (L_law33_begun)).bind fun y9 =>
  some (z1 && y9)
end Go.Proofs.YtcglmhpembonmaaDoor

