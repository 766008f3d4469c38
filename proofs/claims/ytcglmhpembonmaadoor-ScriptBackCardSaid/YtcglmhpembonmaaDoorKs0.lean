/-
  What the library functions that the program calls compute. Conditions: none.
-/
import Derived.Lib.IndexMore
import Derived.Lib.Bytealg
import Derived.Lib.AtoiAll
import Derived.Lib.ItoaNum
import Derived.Shelf.Strings.Builder1
import Derived.Shelf.Small.Strs
import Derived.Shelf.Strings.BuilderF
import Derived.Shelf.Strings.BuilderK
import Derived.Shelf.Strconv.Atoi
import Derived.Shelf.Strconv.Itoa0
import Derived.Shelf.Strconv.Itoa1
import Derived.Shelf.LaysM
import Derived.Shelf.Strconv.Itoa2
import Derived.Shelf.Strconv.Itoa3
import Derived.Shelf.Strconv.AtoiErrFast
import Derived.Shelf.Strconv.ParseIntEmpty
import Derived.Shelf.Strconv.AtoiFail
import Derived.Shelf.Strconv.Clone
import Derived.Shelf.Strconv.SyntaxError
import Derived.Shelf.LaysC
import Derived.Shelf.Strconv.ToError
import Derived.Shelf.Strconv.Lower
import Derived.Shelf.Strconv.ParseUint10
import Derived.Shelf.Strconv.ParseUint10Empty
import Derived.Shelf.Strconv.ParseUint10Any
import Derived.Shelf.Strconv.ParseInt10
import Derived.Shelf.Strconv.AtoiLong
import Derived.Shelf.Strconv.AtoiInnerAll
import Derived.Shelf.Strconv.RangeError
import Derived.Shelf.Strconv.ToErrorRange
import Derived.Shelf.Strconv.AtoiAll
import Derived.Shelf.Strconv.ErrVarAll
import Derived.Shelf.Strings.Search1
import Derived.Shelf.Strings.Search2
import Derived.Shelf.Strings.Cut
import Derived.Shelf.Strings.Shaped
import Derived.Test.YtcglmhpembonmaaDoorChecked
import Derived.Test.YtcglmhpembonmaaDoorKt
namespace Go.Proofs.YtcglmhpembonmaaDoor
open Go Gv
set_option linter.unusedVariables false
/-- the hexadecimal digits -/
def hexd : ByteArray := ByteArray.mk #[48, 49, 50, 51, 52, 53, 54, 55, 56, 57, 97, 98, 99, 100, 101, 102]
def ixbM (s : ByteArray) (b : BitVec 8) : Option Int := some (Lib.indexByte s.data.toList (UInt8.ofNat b.toNat))
def cutM (s t : ByteArray) : Option (ByteArray × ByteArray × Bool) :=
  if s.size < 4294967281 then some (⟨(Lib.cut s.data.toList t.data.toList).1.toArray⟩, ⟨(Lib.cut s.data.toList t.data.toList).2.1.toArray⟩, (Lib.cut s.data.toList t.data.toList).2.2) else none
def itoaM (n : Int) : Option ByteArray := if -9223372036854775808 ≤ n ∧ n ≤ 9223372036854775807 then some ⟨(Lib.itoa n).toArray⟩ else none
/-- the number, and whether there is one -/
def atoiM (s : ByteArray) : Option (Int × Bool) :=
  if s.size ≤ 281474976710656 then some (match Lib.atoiAll s.data.toList with | .ok v => (v, true) | .range => (Lib.atoiSat s.data.toList, false) | _ => (0, false)) else none
/-- the bytes that are written in hexadecimal; inner none: a panic -/
def bytesP (s : ByteArray) : Option (Option (List (BitVec 8))) :=
  (modM (s.size : Int) 2).bind fun y1 =>
  cond (y1 == 0) (
    loopM (σ := Int × (List (BitVec 8))) (ε := Option (List (BitVec 8))) FUEL (fun s1 =>
      cond (decide (s1.1 < (s.size : Int))) (
        (strM s s1.1).bind fun y3 =>
        (ixbM hexd y3).bind fun y4 =>
        (strM s (w64 (s1.1 + 1))).bind fun y5 =>
        (ixbM hexd y5).bind fun y6 =>
        cond ((decide (y4 ≥ 0)) && (decide (y6 ≥ 0))) (
          (appM 1 s1.2 [BitVec.ofInt 8 (ior (ishl y4 (4#64).toNat) y6)]).bind fun y8 =>
          some (.inl (w64 (s1.1 + 2), y8))) (
          some (.inr none))) (
        some (.inr (some s1.2)))) (0, ([] : List (BitVec 8)))) (
    some none)
/-- the request of a line -/
def callP (s : ByteArray) : Option (Option T_api_Call) :=
  (cutM s (ByteArray.mk #[32])).bind fun y1 =>
  cond y1.2.2 (
    (atoiM y1.1).bind fun y2 =>
    (condM y2.2 true (itoaM y2.1)).bind fun y3 =>
    cond (y2.2 && (y3.data.toList == y1.1.data.toList)) (
      (bytesP y1.2.1).bind fun o => some (o.map fun d => { f_Controller := y2.1, f_Data := d })) (
      some none)) (
    some none)
/-- the requests of a text, or the index of the first bad line -/
def linesP (s : ByteArray) : Option (List T_api_Call ⊕ Int) :=
  loopM (σ := ByteArray × Int × List T_api_Call) (ε := List T_api_Call ⊕ Int) FUEL (fun s1 =>
    cond (s1.1.data.toList != (ByteArray.mk #[]).data.toList) (
      (cutM s1.1 (ByteArray.mk #[10])).bind fun y1 =>
      cond y1.2.2 (
        (callP y1.1).bind fun o =>
        match o with
        | none => some (.inr (.inr s1.2.1))
        | some cl => (appM 32 s1.2.2 [cl]).bind fun l => some (.inl (y1.2.1, w64 (s1.2.1 + 1), l))) (
        some (.inr (.inr s1.2.1)))) (
      some (.inr (.inl s1.2.2)))) (s, 0, [])
/-- the builder gets some bytes -/
def appL (bs xs : List UInt8) : Option (List UInt8) := if bs.length + xs.length ≤ 140737488355328 then some (bs ++ xs) else none
/-- a line behind what is there -/
def lineM (c : T_api_Call) (bs : List UInt8) : Option (List UInt8) :=
  (itoaM c.f_Controller).bind fun y1 =>
  (catM y1 (ByteArray.mk #[32])).bind fun y2 =>
  (appL bs y2.data.toList).bind fun b1 =>
  (loopM (σ := Int × List UInt8) (ε := List UInt8) FUEL (fun s =>
    cond (decide (s.1 < (c.f_Data.length : Int))) (
      (idx c.f_Data.length s.1).bind fun k =>
      (strM hexd (((lget c.f_Data k) >>> (4#64).toNat).toNat : Int)).bind fun y3 =>
      (appL s.2 [UInt8.ofNat y3.toNat]).bind fun b2 =>
      (strM hexd (((lget c.f_Data k) &&& (15#8)).toNat : Int)).bind fun y4 =>
      (appL b2 [UInt8.ofNat y4.toNat]).bind fun b3 =>
      some (.inl (w64 (s.1 + 1), b3))) (
      some (.inr s.2))) (0, b1)).bind fun b4 =>
  appL b4 [10]
def fmtM (l : List T_api_Call) : Option (List UInt8) :=
  loopM (σ := Int × List UInt8) (ε := List UInt8) FUEL (fun s =>
    cond (decide (s.1 < (l.length : Int))) (
      (idx l.length s.1).bind fun k =>
      (lineM (lget l k) s.2).bind fun bs =>
      some (.inl (w64 (s.1 + 1), bs))) (
      some (.inr s.2))) (0, [])
def Ls_Format (l : List T_api_Call) : Option ByteArray := (fmtM l).map fun bs => ⟨bs.toArray⟩
/-- how lines hands back what it found -/
def linesR (r : List T_api_Call ⊕ Int) : List T_api_Call × Int × Bool := match r with | .inl l => (l, 0, true) | .inr k => ([], k, false)
def linesM (s : ByteArray) : Option (List T_api_Call × Int × Bool) := (linesP s).map linesR
end Go.Proofs.YtcglmhpembonmaaDoor

namespace Go.Proofs
open Go.Shelf
def Tryd.lays169_ren : Go.Shelf.Ren := ⟨fun | 169 => 16 | n => n, fun | 70 => 37 | 9 => 9 | 0 => 0 | 72 => 39 | 37 => 25 | 127 => 52 | 3 => 3 | 5 => 5 | n => n, fun | n => n⟩
theorem Tryd.lays169 : Go.Proofs.Lays.n169 Tryd.prog Tryd.lays169_ren := {
  mixed := by kernel_rfl
  f169 := Tryd.func16.trans (congrArg some (by kernel_rfl))
  t0 := Tryd.underlying0
  a0 := Tryd.isAgg0
  z0 := Tryd.sizeOf0
  v0 := Tryd.zeroValue0
  t3 := Tryd.underlying3
  a3 := Tryd.isAgg3
  z3 := Tryd.sizeOf3
  v3 := Tryd.zeroValue3
  t9 := Tryd.underlying9
  a9 := Tryd.isAgg9
  z9 := Tryd.sizeOf9
  v9 := Tryd.zeroValue9
  t37 := Tryd.underlying25
  a37 := Tryd.isAgg25
  z37 := Tryd.sizeOf25
  v37 := Tryd.zeroValue25
  t70 := Tryd.underlying37
  a70 := Tryd.isAgg37
  z70 := Tryd.sizeOf37
  v70 := Tryd.zeroValue37
  t72 := Tryd.underlying39
  a72 := Tryd.isAgg39
  z72 := Tryd.sizeOf39
  v72 := Tryd.zeroValue39
  t127 := Tryd.underlying52
  a127 := Tryd.isAgg52
  z127 := Tryd.sizeOf52
  v127 := Tryd.zeroValue52 }
theorem Tryd.Builder_Extra_169 : Builder.Extra Tryd.prog Tryd.lays169_ren := {
  sizeBuilder := by kernel_rfl
  liesBuilder := by kernel_rfl
  t5 := Tryd.underlying5
  a5 := Tryd.isAgg5
  z5 := Tryd.sizeOf5
  v5 := Tryd.zeroValue5
  infoByte := by kernel_rfl
  cellsByte := by kernel_rfl
  sizeByte := by kernel_rfl
  neB5 := by decide }
def Tryd.lays137_ren : Go.Shelf.Ren := ⟨fun | 137 => 41 | 217 => 47 | 266 => 58 | n => n, fun | 9 => 9 | 5 => 5 | 3 => 3 | n => n, fun | n => n⟩
theorem Tryd.lays137 : Go.Proofs.Lays.n137 Tryd.prog Tryd.lays137_ren := {
  mixed := by kernel_rfl
  f137 := Tryd.func41.trans (congrArg some (by kernel_rfl))
  f217 := Tryd.func47.trans (congrArg some (by kernel_rfl))
  f266 := Tryd.func58.trans (congrArg some (by kernel_rfl))
  t3 := Tryd.underlying3
  a3 := Tryd.isAgg3
  z3 := Tryd.sizeOf3
  v3 := Tryd.zeroValue3
  t5 := Tryd.underlying5
  a5 := Tryd.isAgg5
  z5 := Tryd.sizeOf5
  v5 := Tryd.zeroValue5
  t9 := Tryd.underlying9
  a9 := Tryd.isAgg9
  z9 := Tryd.sizeOf9
  v9 := Tryd.zeroValue9 }
open Go.RowKit in
/-- strings.IndexByte: "IndexByte returns the index of the first instance of c in s, or -1 if c is not present in s.": IT RETURNS 'Lib.indexByte s c'; the world is as it was. (LAID: no walk: one application.) -/
theorem Tryd.strings_IndexByte (s : ByteArray) (c : Int) (w : World) :
    Calls Tryd.prog 41 #[.string s, .int .u8 c] w fun e w' => e = .returned (.int .i64 (Lib.indexByte s.data.toList c.toNat.toUInt8)) ∧ w' = w := Any.strings_IndexByte Tryd.lays137 s c w
open Go.RowKit in
/-- (*strings.Builder).String: "String returns the accumulated string.": WHATEVER THE BUILDER HOLDS; THE FORM '_k': OVER 'Lib.IsBuilderF' (a builder that 'String()' may have read), AND WITH THE FRAME THAT REACHES ABOVE THE BUILDER: 'Lib.OthersKept': every block that is not b and is no row of uint8's stands as it stood: the iterator of a range among them. (LAID: no walk: one application.) -/
theorem Tryd.Builder_String_any_k (B b : Nat) (l : List UInt8) (w : World) (h : Lib.IsBuilderF 39 5 B b (Lib.byteCells l) w) (hBw : B ≤ w.heap.size) :
    Calls Tryd.prog 16 #[.pointer (some ⟨b, 0, none⟩)] w fun e w' => e = .returned (.string ⟨l.toArray⟩) ∧ (Lib.IsBuilderF 39 5 B b (Lib.byteCells l) w' ∧ Below B w w' ∧ Lib.OthersKept 5 (some b) w w') := Any.Builder_String_any_k Tryd.lays169 Tryd.Builder_Extra_169 B b l w h hBw
def Tryd.laysM171_ren : Go.Shelf.Ren := ⟨fun | 171 => 14 | 243 => 21 | 246 => 29 | 283 => 34 | 284 => 35 | 285 => 36 | 286 => 37 | 129 => 43 | 317 => 42 | 318 => 44 | 319 => 45 | 320 => 46 | 337 => 56 | 338 => 57 | n => n, fun | 3 => 3 | 9 => 9 | 2 => 2 | 4 => 4 | 171 => 68 | 0 => 0 | 53 => 65 | 37 => 25 | 5 => 5 | 173 => 71 | 212 => 78 | 51 => 79 | 20 => 20 | 213 => 80 | 46 => 46 | 232 => 98 | 233 => 99 | n => n, fun | 17 => 0 | 18 => 4 | 19 => 5 | n => n⟩
theorem Tryd.laysM171 : Go.Proofs.LaysM.n171 Tryd.prog Tryd.laysM171_ren := {
  mixed := by kernel_rfl
  f129 := Tryd.func43.trans (congrArg some (by kernel_rfl))
  f171 := Tryd.func14.trans (congrArg some (by kernel_rfl))
  f243 := Tryd.func21.trans (congrArg some (by kernel_rfl))
  f246 := Tryd.func29.trans (congrArg some (by kernel_rfl))
  f283 := Tryd.func34.trans (congrArg some (by kernel_rfl))
  f284 := Tryd.func35.trans (congrArg some (by kernel_rfl))
  f285 := Tryd.func36.trans (congrArg some (by kernel_rfl))
  f286 := Tryd.func37.trans (congrArg some (by kernel_rfl))
  f317 := Tryd.func42.trans (congrArg some (by kernel_rfl))
  f318 := Tryd.func44.trans (congrArg some (by kernel_rfl))
  f319 := Tryd.func45.trans (congrArg some (by kernel_rfl))
  f320 := Tryd.func46.trans (congrArg some (by kernel_rfl))
  f337 := Tryd.func56.trans (congrArg some (by kernel_rfl))
  f338 := Tryd.func57.trans (congrArg some (by kernel_rfl))
  t0 := Tryd.underlying0
  a0 := Tryd.isAgg0
  z0 := Tryd.sizeOf0
  v0 := Tryd.zeroValue0
  t2 := Tryd.underlying2
  a2 := Tryd.isAgg2
  z2 := Tryd.sizeOf2
  v2 := Tryd.zeroValue2
  t3 := Tryd.underlying3
  a3 := Tryd.isAgg3
  z3 := Tryd.sizeOf3
  v3 := Tryd.zeroValue3
  t4 := Tryd.underlying4
  a4 := Tryd.isAgg4
  z4 := Tryd.sizeOf4
  v4 := Tryd.zeroValue4
  t5 := Tryd.underlying5
  a5 := Tryd.isAgg5
  z5 := Tryd.sizeOf5
  v5 := Tryd.zeroValue5
  t9 := Tryd.underlying9
  a9 := Tryd.isAgg9
  z9 := Tryd.sizeOf9
  v9 := Tryd.zeroValue9
  t20 := Tryd.underlying20
  a20 := Tryd.isAgg20
  z20 := Tryd.sizeOf20
  v20 := Tryd.zeroValue20
  t37 := Tryd.underlying25
  a37 := Tryd.isAgg25
  z37 := Tryd.sizeOf25
  v37 := Tryd.zeroValue25
  t46 := Tryd.underlying46
  a46 := Tryd.isAgg46
  z46 := Tryd.sizeOf46
  v46 := Tryd.zeroValue46
  t51 := Tryd.underlying79
  a51 := Tryd.isAgg79
  z51 := Tryd.sizeOf79
  v51 := Tryd.zeroValue79
  t53 := Tryd.underlying65
  a53 := Tryd.isAgg65
  z53 := Tryd.sizeOf65
  v53 := Tryd.zeroValue65
  t171 := Tryd.underlying68
  a171 := Tryd.isAgg68
  z171 := Tryd.sizeOf68
  v171 := Tryd.zeroValue68
  t173 := Tryd.underlying71
  a173 := Tryd.isAgg71
  z173 := Tryd.sizeOf71
  v173 := Tryd.zeroValue71
  t212 := Tryd.underlying78
  a212 := Tryd.isAgg78
  z212 := Tryd.sizeOf78
  v212 := Tryd.zeroValue78
  t213 := Tryd.underlying80
  a213 := Tryd.isAgg80
  z213 := Tryd.sizeOf80
  t232 := Tryd.underlying98
  a232 := Tryd.isAgg98
  z232 := Tryd.sizeOf98
  v232 := Tryd.zeroValue98
  t233 := Tryd.underlying99
  a233 := Tryd.isAgg99
  z233 := Tryd.sizeOf99
  v233 := Tryd.zeroValue99
  g17 := by kernel_rfl
  g18 := by kernel_rfl
  g19 := by kernel_rfl
  i0 := by kernel_rfl
  i2 := by kernel_rfl
  i3 := by kernel_rfl
  i4 := by kernel_rfl
  i5 := by kernel_rfl
  i9 := by kernel_rfl
  i20 := by kernel_rfl
  i37 := by kernel_rfl
  i46 := by kernel_rfl
  i51 := by kernel_rfl
  i53 := by kernel_rfl
  i171 := by kernel_rfl
  i173 := by kernel_rfl
  i212 := by kernel_rfl
  i232 := by kernel_rfl
  i233 := by kernel_rfl
  m17 := by kernel_rfl
  m18 := by kernel_rfl
  m19 := by kernel_rfl }
open Go.RowKit Go.Sort Go.Lib in
/-- strconv.Itoa: "Itoa is equivalent to FormatInt(int64(i), 10).": i's DECIMAL NUMERAL ('Lib.itoa': a '-' where i is negative, then the digits), FOR EVERY int. The world behind the call: the world before it, new blocks behind the heap (the library's 'var a [24]byte'), draws. (LAID: no walk: one application.) -/
theorem Tryd.strconv_Itoa (n : Int) (h0 : -9223372036854775808 ≤ n) (h1 : n ≤ 9223372036854775807) (w : World) (htab : Lib.TabIs Tryd.prog w "internal/strconv.uint64pow10" .u64 Lib.pow10Tab) :
    Calls Tryd.prog 14 #[.int .i64 n] w fun e w' => e = .returned (.string ⟨(Lib.itoa n).toArray⟩) ∧ ∃ k os, w' = grow (w.drewN k) os := Any.strconv_Itoa Tryd.laysM171 n h0 h1 w htab
def Tryd.laysC172_ren : Go.Shelf.Ren := ⟨fun | 172 => 32 | 244 => 39 | 245 => 40 | 247 => 51 | 279 => 52 | 280 => 53 | 281 => 54 | 282 => 55 | 287 => 60 | 316 => 61 | 171 => 14 | 205 => 62 | 321 => 63 | 322 => 64 | 243 => 21 | 246 => 29 | 283 => 34 | 284 => 35 | 285 => 36 | 286 => 37 | 129 => 43 | 317 => 42 | 318 => 44 | 319 => 45 | 320 => 46 | 337 => 56 | 338 => 57 | n => n, fun | 9 => 9 | 3 => 3 | 75 => 41 | 76 => 42 | 4 => 4 | 5 => 5 | 167 => 83 | 37 => 25 | 0 => 0 | 85 => 84 | 2 => 2 | 168 => 86 | 53 => 65 | 175 => 92 | 46 => 46 | 210 => 96 | 127 => 52 | 145 => 103 | 143 => 101 | 21 => 21 | 171 => 68 | 173 => 71 | 212 => 78 | 51 => 79 | 20 => 20 | 213 => 80 | 232 => 98 | 233 => 99 | 80 => 47 | n => n, fun | 15 => 2 | 16 => 3 | 17 => 0 | 18 => 4 | 19 => 5 | n => n⟩
theorem Tryd.laysC172 : Go.Proofs.LaysC.n172 Tryd.prog Tryd.laysC172_ren := {
  mixed := by kernel_rfl
  f129 := Tryd.func43.trans (congrArg some (by kernel_rfl))
  f171 := Tryd.func14.trans (congrArg some (by kernel_rfl))
  f172 := Tryd.func32.trans (congrArg some (by kernel_rfl))
  f205 := Tryd.func62.trans (congrArg some (by kernel_rfl))
  f243 := Tryd.func21.trans (congrArg some (by kernel_rfl))
  f244 := Tryd.func39.trans (congrArg some (by kernel_rfl))
  f245 := Tryd.func40.trans (congrArg some (by kernel_rfl))
  f246 := Tryd.func29.trans (congrArg some (by kernel_rfl))
  f247 := Tryd.func51.trans (congrArg some (by kernel_rfl))
  f279 := Tryd.func52.trans (congrArg some (by kernel_rfl))
  f280 := Tryd.func53.trans (congrArg some (by kernel_rfl))
  f281 := Tryd.func54.trans (congrArg some (by kernel_rfl))
  f282 := Tryd.func55.trans (congrArg some (by kernel_rfl))
  f283 := Tryd.func34.trans (congrArg some (by kernel_rfl))
  f284 := Tryd.func35.trans (congrArg some (by kernel_rfl))
  f285 := Tryd.func36.trans (congrArg some (by kernel_rfl))
  f286 := Tryd.func37.trans (congrArg some (by kernel_rfl))
  f287 := Tryd.func60.trans (congrArg some (by kernel_rfl))
  f316 := Tryd.func61.trans (congrArg some (by kernel_rfl))
  f317 := Tryd.func42.trans (congrArg some (by kernel_rfl))
  f318 := Tryd.func44.trans (congrArg some (by kernel_rfl))
  f319 := Tryd.func45.trans (congrArg some (by kernel_rfl))
  f320 := Tryd.func46.trans (congrArg some (by kernel_rfl))
  f321 := Tryd.func63.trans (congrArg some (by kernel_rfl))
  f322 := Tryd.func64.trans (congrArg some (by kernel_rfl))
  f337 := Tryd.func56.trans (congrArg some (by kernel_rfl))
  f338 := Tryd.func57.trans (congrArg some (by kernel_rfl))
  t0 := Tryd.underlying0
  a0 := Tryd.isAgg0
  z0 := Tryd.sizeOf0
  v0 := Tryd.zeroValue0
  t2 := Tryd.underlying2
  a2 := Tryd.isAgg2
  z2 := Tryd.sizeOf2
  v2 := Tryd.zeroValue2
  t3 := Tryd.underlying3
  a3 := Tryd.isAgg3
  z3 := Tryd.sizeOf3
  v3 := Tryd.zeroValue3
  t4 := Tryd.underlying4
  a4 := Tryd.isAgg4
  z4 := Tryd.sizeOf4
  v4 := Tryd.zeroValue4
  t5 := Tryd.underlying5
  a5 := Tryd.isAgg5
  z5 := Tryd.sizeOf5
  v5 := Tryd.zeroValue5
  t9 := Tryd.underlying9
  a9 := Tryd.isAgg9
  z9 := Tryd.sizeOf9
  v9 := Tryd.zeroValue9
  t20 := Tryd.underlying20
  a20 := Tryd.isAgg20
  z20 := Tryd.sizeOf20
  v20 := Tryd.zeroValue20
  t21 := Tryd.underlying21
  a21 := Tryd.isAgg21
  z21 := Tryd.sizeOf21
  v21 := Tryd.zeroValue21
  t37 := Tryd.underlying25
  a37 := Tryd.isAgg25
  z37 := Tryd.sizeOf25
  v37 := Tryd.zeroValue25
  t46 := Tryd.underlying46
  a46 := Tryd.isAgg46
  z46 := Tryd.sizeOf46
  v46 := Tryd.zeroValue46
  t51 := Tryd.underlying79
  a51 := Tryd.isAgg79
  z51 := Tryd.sizeOf79
  v51 := Tryd.zeroValue79
  t53 := Tryd.underlying65
  a53 := Tryd.isAgg65
  z53 := Tryd.sizeOf65
  v53 := Tryd.zeroValue65
  t75 := Tryd.underlying41
  a75 := Tryd.isAgg41
  z75 := Tryd.sizeOf41
  v75 := Tryd.zeroValue41
  t76 := Tryd.underlying42
  a76 := Tryd.isAgg42
  z76 := Tryd.sizeOf42
  v76 := Tryd.zeroValue42
  t85 := Tryd.underlying84
  a85 := Tryd.isAgg84
  z85 := Tryd.sizeOf84
  v85 := Tryd.zeroValue84
  t127 := Tryd.underlying52
  a127 := Tryd.isAgg52
  z127 := Tryd.sizeOf52
  v127 := Tryd.zeroValue52
  t143 := Tryd.underlying101
  a143 := Tryd.isAgg101
  z143 := Tryd.sizeOf101
  v143 := Tryd.zeroValue101
  t145 := Tryd.underlying103
  a145 := Tryd.isAgg103
  z145 := Tryd.sizeOf103
  v145 := Tryd.zeroValue103
  t167 := Tryd.underlying83
  a167 := Tryd.isAgg83
  z167 := Tryd.sizeOf83
  v167 := Tryd.zeroValue83
  t168 := Tryd.underlying86
  a168 := Tryd.isAgg86
  z168 := Tryd.sizeOf86
  v168 := Tryd.zeroValue86
  t171 := Tryd.underlying68
  a171 := Tryd.isAgg68
  z171 := Tryd.sizeOf68
  v171 := Tryd.zeroValue68
  t173 := Tryd.underlying71
  a173 := Tryd.isAgg71
  z173 := Tryd.sizeOf71
  v173 := Tryd.zeroValue71
  t175 := Tryd.underlying92
  a175 := Tryd.isAgg92
  z175 := Tryd.sizeOf92
  v175 := Tryd.zeroValue92
  t210 := Tryd.underlying96
  a210 := Tryd.isAgg96
  z210 := Tryd.sizeOf96
  v210 := Tryd.zeroValue96
  t212 := Tryd.underlying78
  a212 := Tryd.isAgg78
  z212 := Tryd.sizeOf78
  v212 := Tryd.zeroValue78
  t213 := Tryd.underlying80
  a213 := Tryd.isAgg80
  z213 := Tryd.sizeOf80
  t232 := Tryd.underlying98
  a232 := Tryd.isAgg98
  z232 := Tryd.sizeOf98
  v232 := Tryd.zeroValue98
  t233 := Tryd.underlying99
  a233 := Tryd.isAgg99
  z233 := Tryd.sizeOf99
  v233 := Tryd.zeroValue99
  g15 := by kernel_rfl
  g16 := by kernel_rfl
  g17 := by kernel_rfl
  g18 := by kernel_rfl
  g19 := by kernel_rfl
  t80 := Tryd.underlying47
  a80 := Tryd.isAgg47
  z80 := Tryd.sizeOf47
  v80 := Tryd.zeroValue47
  i0 := by kernel_rfl
  i2 := by kernel_rfl
  i3 := by kernel_rfl
  i4 := by kernel_rfl
  i5 := by kernel_rfl
  i9 := by kernel_rfl
  i20 := by kernel_rfl
  i21 := by kernel_rfl
  i37 := by kernel_rfl
  i46 := by kernel_rfl
  i51 := by kernel_rfl
  i53 := by kernel_rfl
  i75 := by kernel_rfl
  i76 := by kernel_rfl
  i80 := by kernel_rfl
  i85 := by kernel_rfl
  i127 := by kernel_rfl
  i143 := by kernel_rfl
  i145 := by kernel_rfl
  i167 := by kernel_rfl
  i168 := by kernel_rfl
  i171 := by kernel_rfl
  i173 := by kernel_rfl
  i175 := by kernel_rfl
  i210 := by kernel_rfl
  i212 := by kernel_rfl
  i232 := by kernel_rfl
  i233 := by kernel_rfl
  m15 := by kernel_rfl
  m16 := by kernel_rfl
  m17 := by kernel_rfl
  m18 := by kernel_rfl
  m19 := by kernel_rfl
  c0 := by kernel_rfl
  c2 := by kernel_rfl
  c3 := by kernel_rfl
  c4 := by kernel_rfl
  c5 := by kernel_rfl
  c9 := by kernel_rfl
  c20 := by kernel_rfl
  c21 := by kernel_rfl
  c37 := by kernel_rfl
  c46 := by kernel_rfl
  c51 := by kernel_rfl
  c53 := by kernel_rfl
  c75 := by kernel_rfl
  c76 := by kernel_rfl
  c80 := by kernel_rfl
  c85 := by kernel_rfl
  c127 := by kernel_rfl
  c143 := by kernel_rfl
  c145 := by kernel_rfl
  c167 := by kernel_rfl
  c168 := by kernel_rfl
  c171 := by kernel_rfl
  c173 := by kernel_rfl
  c175 := by kernel_rfl
  c210 := by kernel_rfl
  c212 := by kernel_rfl
  c213 := by kernel_rfl
  c232 := by kernel_rfl
  c233 := by kernel_rfl }
open Go.RowKit in
/-- strconv.Atoi, AT EVERY STRING THAT SPELLS AN int ('Lib.atoiAll .. = .ok v'; of whatever length: leading zeros count): v, AND NO ERROR. The world: as it was, or with the one new row that '[]byte(..)' lays. (LAID: no walk: one application.) -/
theorem Tryd.strconv_Atoi_ok (s : ByteArray) (hmax : s.size ≤ 9223372036854775806) (v : Int) (h : Lib.atoiAll s.data.toList = .ok v) (w : World) :
    Calls Tryd.prog 32 #[.string s] w fun e w' => e = .returned (.tuple #[.int .i64 v, .nilIface]) ∧ (w' = w ∨ ∃ t, w' = Lib.bytesWorld w 5 t) := Any.strconv_Atoi_ok Tryd.laysC172 s hmax v h w
open Go.RowKit in
theorem Tryd.strconv_Atoi_syntax_var (s : ByteArray) (hlim : s.size ≤ 281474976710656) (h : Lib.atoiAll s.data.toList = Lib.atoiAll []) (tp : TypeId) (p : Value) (w : World) (hvar : w.var? Tryd.prog "strconv.ErrSyntax" = some #[.iface tp p]) :
    Calls Tryd.prog 32 #[.string s] w fun e w' => ∃ N, e = .returned (.tuple #[.int .i64 0, .iface 86 (.pointer (some ⟨N, 0, none⟩))]) ∧ w.heap.size ≤ N ∧ w'.heap[N]? = some (.cells #[.string ⟨#[65, 116, 111, 105]⟩, .string s, .iface tp p] 96 (0, 0)) ∧ Below w.heap.size w w' := Any.strconv_Atoi_syntax_var Tryd.laysC172 s hlim (h.trans rfl) tp p w hvar
open Go.RowKit in
theorem Tryd.strconv_Atoi_range_var (s : ByteArray) (hlim : s.size ≤ 281474976710656) (h : Lib.atoiAll s.data.toList = .range) (tp : TypeId) (p : Value) (w : World) (hvar : w.var? Tryd.prog "strconv.ErrRange" = some #[.iface tp p]) :
    Calls Tryd.prog 32 #[.string s] w fun e w' => ∃ N, e = .returned (.tuple #[.int .i64 (Lib.atoiSat s.data.toList), .iface 86 (.pointer (some ⟨N, 0, none⟩))]) ∧ w.heap.size ≤ N ∧ w'.heap[N]? = some (.cells #[.string ⟨#[65, 116, 111, 105]⟩, .string s, .iface tp p] 96 (0, 0)) ∧ Below w.heap.size w w' := Any.strconv_Atoi_range_var Tryd.laysC172 s hlim h tp p w hvar
def Tryd.lays145_ren : Go.Shelf.Ren := ⟨fun | 145 => 24 | 220 => 31 | 219 => 38 | 217 => 47 | 225 => 48 | 224 => 49 | 267 => 50 | 266 => 58 | 314 => 59 | n => n, fun | 9 => 9 | 4 => 4 | 59 => 57 | 3 => 3 | 5 => 5 | 46 => 46 | 146 => 90 | 51 => 79 | n => n, fun | 1 => 1 | n => n⟩
theorem Tryd.lays145 : Go.Proofs.Lays.n145 Tryd.prog Tryd.lays145_ren := {
  mixed := by kernel_rfl
  f145 := Tryd.func24.trans (congrArg some (by kernel_rfl))
  f217 := Tryd.func47.trans (congrArg some (by kernel_rfl))
  f219 := Tryd.func38.trans (congrArg some (by kernel_rfl))
  f220 := Tryd.func31.trans (congrArg some (by kernel_rfl))
  f224 := Tryd.func49.trans (congrArg some (by kernel_rfl))
  f225 := Tryd.func48.trans (congrArg some (by kernel_rfl))
  f266 := Tryd.func58.trans (congrArg some (by kernel_rfl))
  f267 := Tryd.func50.trans (congrArg some (by kernel_rfl))
  f314 := Tryd.func59.trans (congrArg some (by kernel_rfl))
  t3 := Tryd.underlying3
  a3 := Tryd.isAgg3
  z3 := Tryd.sizeOf3
  v3 := Tryd.zeroValue3
  t4 := Tryd.underlying4
  a4 := Tryd.isAgg4
  z4 := Tryd.sizeOf4
  v4 := Tryd.zeroValue4
  t5 := Tryd.underlying5
  a5 := Tryd.isAgg5
  z5 := Tryd.sizeOf5
  v5 := Tryd.zeroValue5
  t9 := Tryd.underlying9
  a9 := Tryd.isAgg9
  z9 := Tryd.sizeOf9
  v9 := Tryd.zeroValue9
  t46 := Tryd.underlying46
  a46 := Tryd.isAgg46
  z46 := Tryd.sizeOf46
  v46 := Tryd.zeroValue46
  t51 := Tryd.underlying79
  a51 := Tryd.isAgg79
  z51 := Tryd.sizeOf79
  v51 := Tryd.zeroValue79
  t59 := Tryd.underlying57
  a59 := Tryd.isAgg57
  z59 := Tryd.sizeOf57
  v59 := Tryd.zeroValue57
  t146 := Tryd.underlying90
  a146 := Tryd.isAgg90
  z146 := Tryd.sizeOf90
  v146 := Tryd.zeroValue90
  g1 := by kernel_rfl }
open Go.RowKit Go.Lib in
/-- strings.Cut: "Cut slices s around the first instance of sep, returning the text before and after sep. The found result reports whether sep appears in s. If sep does not appear in s, cut returns s, "", false.": IT RETURNS 'Lib.cut s sep'; the world is as it was but for the count of draws. (LAID: no walk: one application.) -/
theorem Tryd.strings_Cut (s sep : ByteArray) (m : Int) (w : World) (hs : s.size < 4294967281) (hm : w.cell? ⟨1, 0, none⟩ = some (.int .i64 m)) :
    Calls Tryd.prog 24 #[.string s, .string sep] w fun e w' => e = .returned (.tuple #[.string ⟨(Lib.cut s.data.toList sep.data.toList).1.toArray⟩, .string ⟨(Lib.cut s.data.toList sep.data.toList).2.1.toArray⟩, .bool (Lib.cut s.data.toList sep.data.toList).2.2]) ∧ ∃ n, w' = w.drewN n := Any.strings_Cut Tryd.lays145 s sep m w hs hm
end Go.Proofs

namespace Go.Proofs
open Go.Shelf
def Tryd.lays166_ren : Go.Shelf.Ren := ⟨fun | 166 => 13 | 240 => 20 | 276 => 28 | n => n, fun | 70 => 37 | 72 => 39 | 37 => 25 | 75 => 41 | 164 => 61 | 80 => 47 | n => n, fun | n => n⟩
theorem Tryd.lays166 : Go.Proofs.Lays.n166 Tryd.prog Tryd.lays166_ren := {
  mixed := by kernel_rfl
  f166 := Tryd.func13.trans (congrArg some (by kernel_rfl))
  f240 := Tryd.func20.trans (congrArg some (by kernel_rfl))
  f276 := Tryd.func28.trans (congrArg some (by kernel_rfl))
  t0 := Tryd.underlying0
  a0 := Tryd.isAgg0
  z0 := Tryd.sizeOf0
  v0 := Tryd.zeroValue0
  t3 := Tryd.underlying3
  a3 := Tryd.isAgg3
  z3 := Tryd.sizeOf3
  v3 := Tryd.zeroValue3
  t4 := Tryd.underlying4
  a4 := Tryd.isAgg4
  z4 := Tryd.sizeOf4
  v4 := Tryd.zeroValue4
  t9 := Tryd.underlying9
  a9 := Tryd.isAgg9
  z9 := Tryd.sizeOf9
  v9 := Tryd.zeroValue9
  t20 := Tryd.underlying20
  a20 := Tryd.isAgg20
  z20 := Tryd.sizeOf20
  v20 := Tryd.zeroValue20
  t37 := Tryd.underlying25
  a37 := Tryd.isAgg25
  z37 := Tryd.sizeOf25
  v37 := Tryd.zeroValue25
  t70 := Tryd.underlying37
  a70 := Tryd.isAgg37
  z70 := Tryd.sizeOf37
  v70 := Tryd.zeroValue37
  t72 := Tryd.underlying39
  a72 := Tryd.isAgg39
  z72 := Tryd.sizeOf39
  v72 := Tryd.zeroValue39
  t75 := Tryd.underlying41
  a75 := Tryd.isAgg41
  z75 := Tryd.sizeOf41
  v75 := Tryd.zeroValue41
  t164 := Tryd.underlying61
  a164 := Tryd.isAgg61
  z164 := Tryd.sizeOf61
  v164 := Tryd.zeroValue61 }
theorem Tryd.Builder_Extra_166 : Builder.Extra Tryd.prog Tryd.lays166_ren := {
  sizeBuilder := by kernel_rfl
  liesBuilder := by kernel_rfl
  t5 := Tryd.underlying5
  a5 := Tryd.isAgg5
  z5 := Tryd.sizeOf5
  v5 := Tryd.zeroValue5
  infoByte := by kernel_rfl
  cellsByte := by kernel_rfl
  sizeByte := by kernel_rfl
  neB5 := by decide }
def Tryd.lays167_ren : Go.Shelf.Ren := ⟨fun | 167 => 15 | 240 => 20 | 276 => 28 | n => n, fun | 70 => 37 | 72 => 39 | 37 => 25 | 75 => 41 | 164 => 61 | 80 => 47 | n => n, fun | n => n⟩
theorem Tryd.lays167 : Go.Proofs.Lays.n167 Tryd.prog Tryd.lays167_ren := {
  mixed := by kernel_rfl
  f167 := Tryd.func15.trans (congrArg some (by kernel_rfl))
  f240 := Tryd.func20.trans (congrArg some (by kernel_rfl))
  f276 := Tryd.func28.trans (congrArg some (by kernel_rfl))
  t0 := Tryd.underlying0
  a0 := Tryd.isAgg0
  z0 := Tryd.sizeOf0
  v0 := Tryd.zeroValue0
  t4 := Tryd.underlying4
  a4 := Tryd.isAgg4
  z4 := Tryd.sizeOf4
  v4 := Tryd.zeroValue4
  t5 := Tryd.underlying5
  a5 := Tryd.isAgg5
  z5 := Tryd.sizeOf5
  v5 := Tryd.zeroValue5
  t9 := Tryd.underlying9
  a9 := Tryd.isAgg9
  z9 := Tryd.sizeOf9
  v9 := Tryd.zeroValue9
  t20 := Tryd.underlying20
  a20 := Tryd.isAgg20
  z20 := Tryd.sizeOf20
  v20 := Tryd.zeroValue20
  t37 := Tryd.underlying25
  a37 := Tryd.isAgg25
  z37 := Tryd.sizeOf25
  v37 := Tryd.zeroValue25
  t70 := Tryd.underlying37
  a70 := Tryd.isAgg37
  z70 := Tryd.sizeOf37
  v70 := Tryd.zeroValue37
  t72 := Tryd.underlying39
  a72 := Tryd.isAgg39
  z72 := Tryd.sizeOf39
  v72 := Tryd.zeroValue39
  t75 := Tryd.underlying41
  a75 := Tryd.isAgg41
  z75 := Tryd.sizeOf41
  v75 := Tryd.zeroValue41
  t164 := Tryd.underlying61
  a164 := Tryd.isAgg61
  z164 := Tryd.sizeOf61
  v164 := Tryd.zeroValue61 }
theorem Tryd.Builder_Extra_167 : Builder.Extra Tryd.prog Tryd.lays167_ren := {
  sizeBuilder := by kernel_rfl
  liesBuilder := by kernel_rfl
  t5 := Tryd.underlying5
  a5 := Tryd.isAgg5
  z5 := Tryd.sizeOf5
  v5 := Tryd.zeroValue5
  infoByte := by kernel_rfl
  cellsByte := by kernel_rfl
  sizeByte := by kernel_rfl
  neB5 := by decide }
open Go.RowKit in
theorem Tryd.Builder_WriteByte_k (B b : Nat) (bs : List Value) (c : Int) (w : World) (h : Lib.IsBuilderF 39 5 B b bs w) (hlen : bs.length + 1 ≤ 140737488355328) (hBw : B ≤ w.heap.size) :
    Calls Tryd.prog 15 #[.pointer (some ⟨b, 0, none⟩), .int .u8 c] w fun e w' => e = .returned .nilIface ∧ (Lib.BuilderAtF 39 5 B b (.pointer (some ⟨b, 0, none⟩)) (bs ++ [.int .u8 c]) w' ∧ Below B w w' ∧ Lib.OthersKept 5 (some b) w w') := Any.Builder_WriteByte_k Tryd.lays167 Tryd.Builder_Extra_167 B b bs c w h hlen hBw
open Go.RowKit in
theorem Tryd.Builder_WriteString_k (B b : Nat) (bs : List Value) (s : ByteArray) (w : World) (h : Lib.IsBuilderF 39 5 B b bs w) (hlen : bs.length + s.size ≤ 140737488355328) (hBw : B ≤ w.heap.size) :
    Calls Tryd.prog 13 #[.pointer (some ⟨b, 0, none⟩), .string s] w fun e w' => e = .returned (.tuple #[.int .i64 s.size, .nilIface]) ∧ (Lib.BuilderAtF 39 5 B b (.pointer (some ⟨b, 0, none⟩)) (bs ++ Lib.strCells s) w' ∧ Below B w w' ∧ Lib.OthersKept 5 (some b) w w') := Any.Builder_WriteString_k Tryd.lays166 Tryd.Builder_Extra_166 B b bs s w h hlen hBw
end Go.Proofs

namespace Go.Proofs.YtcglmhpembonmaaDoor
open Go Gv Go.RowKit
set_option linter.unusedVariables false
set_option linter.unusedSimpArgs false
set_option maxRecDepth 100000
theorem gn0 : Tryd.prog.globalNamed "internal/strconv.uint64pow10" = some 0 := by kernel_rfl
theorem gn2 : Tryd.prog.globalNamed "strconv.ErrSyntax" = some 2 := by kernel_rfl
theorem gn3 : Tryd.prog.globalNamed "strconv.ErrRange" = some 3 := by kernel_rfl
theorem var_at {W : World} {n : String} {g : Nat} {cs : Array Value} (hg : Tryd.prog.globalNamed n = some g) : W.var? Tryd.prog n = some cs ↔ ∃ T fz, W.heap[g]? = some (.cells cs T fz) := by
  unfold World.var?
  rw [hg, Option.bind_some]
  constructor
  · intro h
    split at h
    · rename_i cs' T fz e
      cases h
      exact ⟨T, fz, e⟩
    · cases h
  · rintro ⟨T, fz, e⟩
    rw [e]
theorem lt_of_some {W : World} {g : Nat} {o : Obj} (h : W.heap[g]? = some o) : g < W.heap.size := (Array.getElem?_eq_some_iff.1 h).1
/-- the variables that the library's functions read -/
def G0 : Gr where
  keys := [0, 1, 2, 3]
  is W := (∃ T fz, W.heap[0]? = some (.cells (Lib.pow10Tab.map fun z => Value.int .u64 z).toArray T fz)) ∧ (∃ cs T fz m, W.heap[1]? = some (.cells cs T fz) ∧ cs[0]? = some (Value.int .i64 m)) ∧
    (∃ tp p T fz, W.heap[2]? = some (.cells #[.iface tp p] T fz)) ∧ (∃ tp p T fz, W.heap[3]? = some (.cells #[.iface tp p] T fz))
  keep h := by
    rw [h 0 (by simp), h 1 (by simp), h 2 (by simp), h 3 (by simp)]
    exact id
  lt h k hk := by
    obtain ⟨⟨_, _, h0⟩, ⟨_, _, _, _, h1, _⟩, ⟨_, _, _, _, h2⟩, ⟨_, _, _, _, h3⟩⟩ := h
    simp only [List.mem_cons, List.not_mem_nil, or_false] at hk
    rcases hk with rfl | rfl | rfl | rfl
    · exact lt_of_some h0
    · exact lt_of_some h1
    · exact lt_of_some h2
    · exact lt_of_some h3
theorem G0.tab {W : World} (h : G0.is W) : Lib.TabIs Tryd.prog W "internal/strconv.uint64pow10" .u64 Lib.pow10Tab := (var_at gn0).2 h.1
theorem fr_below {W W' : World} (h : Below W.heap.size W W') : Fr [] W W' := ⟨h.os, h.tape, h.output, trivial, h.size, fun k hk _ => h.block k hk⟩
theorem fr_drewN (W : World) (n : Nat) : Fr [] W (W.drewN n) := ⟨rfl, rfl, rfl, trivial, Nat.le_refl _, fun _ _ _ => rfl⟩
theorem fr_grow (W : World) (os : Array Obj) : Fr [] W (Go.Sort.grow W os) := ⟨rfl, rfl, rfl, trivial, by simp [Go.Sort.grow], fun k hk _ => by
  show (W.heap ++ os)[k]? = W.heap[k]?
  rw [Array.getElem?_append_left hk]⟩
theorem ixb_c {s : ByteArray} {b : BitVec 8} {r : Int} (h : ixbM s b = some r) : Meets Tryd.prog 41 [VP.of s, VP.of b] (VP.of r) := fun A W vs hA hv => by
  cases h
  match vs, hv with
  | [_, _], .cons h1 (.cons h2 .nil) =>
    rw [of_str.1 h1, of_u8.1 h2]
    refine (Tryd.strings_IndexByte s b.toNat W).mono ?_
    rintro e W' ⟨rfl, rfl⟩
    exact ⟨_, rfl, .refl _ _, of_int.2 (by simp [UInt8.ofNat])⟩
theorem cut_c {s t : ByteArray} {r : ByteArray × ByteArray × Bool} (h : cutM s t = some r) : MeetsL G0 Tryd.prog 24 [VP.of s, VP.of t] (VP.tup [VP.of r.1, VP.of r.2.1, VP.of r.2.2]) := fun A W vs hG hA hv => by
  unfold cutM at h
  split at h
  case isFalse => cases h
  rename_i hs
  cases h
  match vs, hv with
  | [_, _], .cons h1 (.cons h2 .nil) =>
    rw [of_str.1 h1, of_str.1 h2]
    obtain ⟨_, ⟨cs, T, fz, m, g1, g2⟩, _⟩ := hG
    refine (Tryd.strings_Cut s t m W hs (by rw [cell_of_row W 1 0 cs T fz g1]; exact g2)).mono ?_
    rintro e W' ⟨rfl, n, rfl⟩
    exact ⟨_, rfl, fr_drewN W n, _, rfl, .cons (of_str.2 rfl) (.cons (of_str.2 rfl) (.cons (of_bool.2 rfl) .nil))⟩
theorem itoa_c {n : Int} {r : ByteArray} (h : itoaM n = some r) : MeetsL G0 Tryd.prog 14 [VP.of n] (VP.of r) := fun A W vs hG hA hv => by
  unfold itoaM at h
  split at h
  case isFalse => cases h
  rename_i hn
  cases h
  match vs, hv with
  | [_], .cons h1 .nil =>
    rw [of_int.1 h1]
    refine (Tryd.strconv_Itoa n hn.1 hn.2 W (G0.tab hG)).mono ?_
    rintro e W' ⟨rfl, k, os, rfl⟩
    exact ⟨_, rfl, (fr_drewN W k).trans (fr_grow _ os), of_str.2 rfl⟩
theorem atoi_c {s : ByteArray} {r : Int × Bool} (h : atoiM s = some r) : MeetsL G0 Tryd.prog 32 [VP.of s] (VP.tup [VP.of r.1, VP.nilq r.2]) := fun A W vs hG hA hv => by
  unfold atoiM at h
  split at h
  case isFalse => cases h
  rename_i hs
  match vs, hv with
  | [_], .cons h1 .nil =>
    rw [of_str.1 h1]
    obtain ⟨_, _, ⟨tp, p, T, fz, g2⟩, ⟨tp', p', T', fz', g3⟩⟩ := hG
    cases e1 : Lib.atoiAll s.data.toList with
    | ok v =>
      rw [e1] at h; cases h
      refine (Tryd.strconv_Atoi_ok s (by omega) v e1 W).mono ?_
      rintro e W' ⟨rfl, hw⟩
      refine ⟨_, rfl, ?_, _, rfl, .cons (of_int.2 rfl) (.cons rfl .nil)⟩
      rcases hw with rfl | ⟨t, rfl⟩
      · exact .refl _ _
      · exact ⟨rfl, rfl, rfl, trivial, by rw [Lib.bytesWorld_size]; omega, fun k hk _ => Lib.bytesWorld_at_old W 5 t k hk⟩
    | range =>
      rw [e1] at h; cases h
      refine (Tryd.strconv_Atoi_range_var s hs e1 tp' p' W ((var_at gn3).2 ⟨T', fz', g3⟩)).mono ?_
      rintro e W' ⟨N, rfl, _, _, hb⟩
      exact ⟨_, rfl, fr_below hb, _, rfl, .cons (of_int.2 rfl) (.cons ⟨_, _, rfl⟩ .nil)⟩
    | _ =>
      rw [e1] at h; cases h
      refine (Tryd.strconv_Atoi_syntax_var s hs (e1.trans rfl) tp p W ((var_at gn2).2 ⟨T, fz, g2⟩)).mono ?_
      rintro e W' ⟨N, rfl, _, _, hb⟩
      exact ⟨_, rfl, fr_below hb, _, rfl, .cons (of_int.2 rfl) (.cons ⟨_, _, rfl⟩ .nil)⟩
end Go.Proofs.YtcglmhpembonmaaDoor

namespace Go.Proofs.YtcglmhpembonmaaDoor
open Go Gv
set_option linter.unusedVariables false
set_option linter.unusedSimpArgs false
set_option maxRecDepth 100000
/-- the parser: the index of the line -/
structure T_parser where
  f_index : Int
  deriving DecidableEq, Inhabited
instance : Rp T_parser := .str (sxa Int) (fun x => x.f_index) 1
abbrev le_T_parser_index : Lens T_parser Int := .str sf1 0 T_parser.f_index fun b g => { b with f_index := g }
instance : Zc T_parser := ⟨Zc.cells Int, fun A W => by first | exact ⟨by rfl, Zc.ok (α := Int) A W⟩ | exact Zc.ok (α := Int) A W⟩
instance hzr56 : Zr Tryd.prog 56 (default : T_parser) := Zr.of (by kernel_rfl)
instance hkx : Kx Tryd.prog := ⟨mixed⟩
instance hfd56 : Kf Tryd.prog 56 0 le_T_parser_index := ⟨FdA.of Tryd.underlying56 rfl rfl ty3 rfl⟩
instance hty4 : Ty Tryd.prog 4 Bool := Ty.of (by rfl) Tryd.underlying4 (by kernel_rfl)
theorem hen14 : En Tryd.prog 14 := ⟨_, Tryd.func14, rfl, by kernel_rfl⟩
theorem hen24 : En Tryd.prog 24 := ⟨_, Tryd.func24, rfl, by kernel_rfl⟩
theorem hen25 : En Tryd.prog 25 := ⟨_, Tryd.func25, rfl, by kernel_rfl⟩
theorem hen26 : En Tryd.prog 26 := ⟨_, Tryd.func26, rfl, by kernel_rfl⟩
theorem hen32 : En Tryd.prog 32 := ⟨_, Tryd.func32, rfl, by kernel_rfl⟩
theorem hen33 : En Tryd.prog 33 := ⟨_, Tryd.func33, rfl, by kernel_rfl⟩
theorem hen41 : En Tryd.prog 41 := ⟨_, Tryd.func41, rfl, by kernel_rfl⟩
/-- the value of the panic -/
def wrongV (k : Int) : Value := .iface 53 (.int .i64 k)
theorem r_wrong {c : Cx} {E : List (Nat × VP)} {L : List Ent} {d : Option Tmp} {ty : TypeId} {pos : String} {af : Array Edge} {g : Option (Nat × Bool)} {x : Operand} {k : Int} (hP : c.P = Tryd.prog) (hx : Look c E L x (.of k)) :
    HR c E L ⟨d, .makeInterface 53 x, ty, pos, af, g⟩ (.eq (wrongV k)) := .pure fun a W s => by
  have h := of_int.1 (hx a W s)
  refine ⟨wrongV k, ?_, rfl⟩
  simp only [execOp, Instr.makeInterface, Sem.run_bind, hP, run_underlying Tryd.underlying53, Result.andThen_ok, h]
  rfl
theorem need_ok {p : Nat} {x : T_parser} {b : Bool} (hb : b = true) : MV Tryd.prog 25 [VP.pb p, VP.of b] p x (.tup []) x := by
  subst hb
  refine MeetsO.of Tryd.func25 rfl Tryd.ntmps25 rfl fun W A => ?_
  refine go1 ?_
  refine Wp.cond (look_t rfl) (fun hc => by cases hc) (fun _ => ?_)
  refine go1 ?_
  exact To.endn e_o0
theorem need_bad {p : Nat} {x : T_parser} {b : Bool} (hb : b = false) : Panics Tryd.prog 25 [VP.pb p, VP.of b] [vr p x] (wrongV x.f_index) (δ := Unit) (fun _ => [vr p x]) := by
  subst hb
  refine Panics.of Tryd.func25 rfl Tryd.ntmps25 rfl fun W A => ?_
  refine go1 ?_
  refine Wp.cond (look_t rfl) (fun _ => ?_) (fun hc => by cases hc)
  refine go1 ?_
  refine Sq.v (r_wrong rfl (look_t rfl)) rfl rfl rfl ?_
  refine Sq.pan (t := 53) (v := .int .i64 x.f_index) (fun a W s => ?_) ?_
  · exact look_t (c := _) (L := [vr p x]) (t := 10) rfl a W s
  exact To.endX () 0 rfl rfl rfl rfl rfl
/-- how a function of the parser's ends -/
def resE {β : Type} (x : T_parser) (r : Option β) : β ⊕ Value := match r with | some b => .inl b | none => .inr (wrongV x.f_index)
theorem bytes_c {p : Nat} {x : T_parser} {s : ByteArray} {r : Option (List (BitVec 8))} (h : bytesP s = some r) :
    MeetsH G0 Tryd.prog 33 [VP.pb p, VP.of s] [vr p x] fun A W => PostE [p] A W (resE x r) (fun b => VP.of b) (fun _ : Unit => [vr p x]) := by
  unfold bytesP at h
  refine MeetsH.of Tryd.func33 rfl Tryd.ntmps33 rfl fun W A hG => Wp.seq (Wp.reg (Sq.v (r_asg (look_nil (α := BitVec 8))) rfl rfl rfl (Sq.nil (To.next (Wp.seq (Wp.reg (Sq.v (r_move (look_t rfl)) rfl rfl rfl (Sq.v (r_move (look_t rfl)) rfl rfl rfl (Sq.v (r_lens Tryd.underlying9 (look_t rfl)) rfl rfl rfl ?_)))))))))
  obtain ⟨y1, hy1, h⟩ := bind_some h
  refine Sq.v (r_rem (look_t rfl) (look_int 2) (modM_some hy1)) rfl rfl rfl (Sq.v (r_eql (look_t rfl) (look_int 0)) rfl rfl rfl ?_)
  cases hb : y1 == 0 with
  | false =>
    rw [hb] at h
    cases h
    refine Sq.callX (Lin := [vr p x]) (Lr := []) hen25 (need_bad rfl) ⟨look_t rfl, look_t rfl, trivial⟩ fun q => ?_
    repeat (first | with_reducible apply To.pthen | with_reducible apply To.bpan)
    exact To.endX () 0 rfl rfl rfl rfl rfl
  | true =>
  rw [hb] at h
  replace h := show _ = some r from h
  simp only [cond_true] at h
  refine Sq.vS (HS.call [0] hen25 (need_ok rfl) ⟨look_t rfl, look_t rfl, trivial⟩ rfl ⟨rfl, trivial⟩ rfl) rfl rfl rfl (Sq.nil (To.next (Wp.seq (Wp.reg (Sq.own (α := BitVec 8) 5 (Sq.v (r_asg look_own) rfl rfl rfl (Sq.nil (To.next (Wp.seq (Wp.seq (Wp.reg (Sq.v (r_asg (look_int 0)) rfl rfl rfl (Sq.nil (To.next (Wp.block ?_)))))))))))))))
  refine Wp.loopG (γ := (Option Nat × Nat)) (δ := (Option Nat × Nat)) h (fun s1 g1 => [(0, VP.pb p), (1, VP.of s), (5, VP.eq (slv g1.1 s1.2.length g1.2)), (6, VP.of (s1.1))]) (fun s1 g1 => [⟨g1.1, .row 5 s1.2 g1.2⟩, vr p x])
    (fun e => match e with | some _ => Exit.exit 0 | none => Exit.panic [{ v := wrongV x.f_index, recovered := false }]) (fun e g1 => match e with | some l => [(5, VP.eq (slv g1.1 l.length g1.2))] | none => [])
    (fun e g1 => match e with | some l => [⟨g1.1, .row 5 l g1.2⟩, vr p x] | none => [vr p x]) (none, 0) rfl (.same rfl (.same rfl (.same rfl (.same rfl .nil)))) (fun s1 r h g1 => ?_) (fun g1 => ?_)
  · refine Wp.seq (Wp.seq (Wp.reg (Sq.v (r_move (look_t rfl)) rfl rfl rfl (Sq.v (r_move (look_t rfl)) rfl rfl rfl (Sq.v (r_lens Tryd.underlying9 (look_t rfl)) rfl rfl rfl (Sq.v (r_lss (look_t rfl) (look_t rfl)) rfl rfl rfl (Sq.nil (To.next ?_))))))))
    refine Wp.cond (look_t rfl) (fun hc => ?_) (fun hc => ?_)
    · replace h := cond_t hc h
      refine Wp.skip (To.next (Wp.seq (Wp.block (Wp.seq ?_))))
      obtain ⟨y3, hy3, h⟩ := bind_some h
      obtain ⟨y4, hy4, h⟩ := bind_some h
      obtain ⟨y5, hy5, h⟩ := bind_some h
      obtain ⟨y6, hy6, h⟩ := bind_some h
      refine Wp.dr mixed 9 (rg 21 9) [[], [], [0, 1], [2], [], [], [5], [4, 6], [7]] [.val (VP.of (s)), .val (VP.of (s1.1)), .val (VP.of (y3)), .val (VP.of (y4)), .val (VP.of (s)), .val (VP.of (s1.1)), .val (VP.of (w64 (s1.1 + 1))), .val (VP.of (y5)), .val (VP.of (y6))] (fun ps1 => ⟨fun L' hL => HO.v (r_move (look_t rfl)) rfl, fun L' hL => HO.v (r_move (look_t rfl)) rfl, fun L' hL => HO.v (r_idxs Tryd.underlying9 (look_t rfl) (look_t rfl) hy3) rfl, fun L' hL => HO.v (r_call hen41 (ixb_c hy4) ⟨look_str hexd, look_t rfl, trivial⟩) rfl, fun L' hL => HO.v (r_move (look_t rfl)) rfl, fun L' hL => HO.v (r_move (look_t rfl)) rfl, fun L' hL => HO.v (r_add (look_t rfl) (look_int 1)) rfl, fun L' hL => HO.v (r_idxs Tryd.underlying9 (look_t rfl) (look_t rfl) hy5) rfl, fun L' hL => HO.v (r_call hen41 (ixb_c hy6) ⟨look_str hexd, look_t rfl, trivial⟩) rfl, trivial⟩) fun ps1 => ?_
      refine Sq.v (r_asg (look_t rfl)) rfl rfl rfl (Sq.v (r_asg (look_t rfl)) rfl rfl rfl (Sq.nil (To.next (Wp.seq (Wp.reg (Sq.v (r_move (look_t rfl)) rfl rfl rfl (Sq.v (r_move (look_t rfl)) rfl rfl rfl (Sq.v (r_geq (look_t rfl) (look_int 0)) rfl rfl rfl (Sq.v (r_move (look_t rfl)) rfl rfl rfl (Sq.g (fun hb => r_move (look_t rfl)) rfl rfl rfl rfl rfl (Sq.g (fun hb => r_geq (look_tc rfl hb) (look_int 0)) rfl rfl rfl rfl rfl (Sq.v (r_and (look_t rfl) (look_t rfl) (fun h => h)) rfl rfl rfl ?_))))))))))))
      cases hb : (decide (y4 ≥ 0)) && (decide (y6 ≥ 0)) with
      | false =>
        rw [hb] at h
        cases h
        refine Sq.bring 1 rfl (Sq.callX (Lin := [vr p x]) hen25 (need_bad rfl) ⟨look_t rfl, look_t rfl, trivial⟩ fun q => ?_)
        repeat (first | with_reducible apply To.pthen | with_reducible apply To.bpan)
        refine To.bring 1 rfl ?_
        exact To.leaveG (none, 0) 1 rfl (by simp) rfl .nil
      | true =>
      rw [hb] at h
      simp only [cond_true] at h
      refine Sq.vS (HS.call [1] hen25 (need_ok rfl) ⟨look_t rfl, look_t rfl, trivial⟩ rfl ⟨rfl, trivial⟩ rfl) rfl rfl rfl (Sq.nil (To.next (Wp.reg (Sq.v (r_move (look_t rfl)) rfl rfl rfl (Sq.v (r_move (look_t rfl)) rfl rfl rfl (Sq.v (r_ishlu (look_t rfl) (look_u64 4 rfl)) rfl rfl rfl (Sq.v (r_move (look_t rfl)) rfl rfl rfl (Sq.v (r_ior (look_t rfl) (look_t rfl)) rfl rfl rfl (Sq.v (r_ci8 Tryd.underlying3 Tryd.underlying5 (look_t rfl)) rfl rfl rfl ?_)))))))))
      refine Sq.v (r_bsl (r := [BitVec.ofInt 8 (ior (ishl y4 (4#64).toNat) y6)]) Tryd.underlying25 ty5 zr5 rfl rfl (.cons (by simp) (look_t rfl) (.nil))) rfl rfl rfl ?_
      obtain ⟨y8, hy8, h⟩ := bind_some h
      refine Sq.app (i := 0) Tryd.underlying25 ty5 zr5 (bytes := 1) (by kernel_rfl) (look_t rfl) rfl (look_t rfl) hy8 rfl fun key1 cap1 => ?_
      refine Sq.v (r_asg (look_t rfl)) rfl rfl rfl (Sq.nil (To.bnorm (To.next (Wp.reg (Sq.v (r_move (look_t rfl)) rfl rfl rfl (Sq.v (r_add (look_t rfl) (look_int 2)) rfl rfl rfl (Sq.v (r_asg (look_t rfl)) rfl rfl rfl (Sq.nil ?_))))))))
      cases h
      exact To.roundG (key1, cap1) 0 rfl (.same rfl (.same rfl (.same rfl (.same rfl .nil))))
    · replace h := cond_f hc h
      refine Wp.exit (To.exit ?_)
      cases h
      exact To.leaveG (e := some s1.2) (g1.1, g1.2) 0 rfl (by simp) rfl (.same rfl .nil)
  · cases r with
    | none =>
      repeat (first | with_reducible apply To.pthen | with_reducible apply To.bpan)
      apply To.endX (Lo := fun _ : Unit => [vr p x]) () 0 <;> rfl
    | some l =>
    refine To.bexit (To.next (Wp.seq (Wp.reg (Sq.v (r_move (look_t rfl)) rfl rfl rfl (Sq.v (r_asg (look_t rfl)) rfl rfl rfl (Sq.nil (To.next (Wp.ret (To.freezeL (α := BitVec 8) 0 [4, 5, 46] ⟨rfl, rfl, rfl, trivial⟩ rfl (To.bring 1 rfl ?_))))))))))
    exact To.endO1 (ρ := fun _ : Unit => VP.of l) () (.cons_cons _ (List.nil_sublist _)) rfl rfl (rvo_t rfl)
end Go.Proofs.YtcglmhpembonmaaDoor

namespace Go.Proofs.YtcglmhpembonmaaDoor
open Go Gv
set_option linter.unusedVariables false
set_option linter.unusedSimpArgs false
set_option maxRecDepth 100000
theorem run_eq_nilI {P : Program} {W : World} {t : TypeId} {ms : Array (String × TypeId)} (d : Nat) (hu : P.underlying t = some (.interface ms)) : (Op.equalIn (d + 1) t .nilIface .nilIface).run P W = .ok true W := by
  simp [Op.equalIn, run_underlying hu]
theorem run_eq_nilJ {P : Program} {W : World} {t t' : TypeId} {u : Value} {ms : Array (String × TypeId)} (d : Nat) (hu : P.underlying t = some (.interface ms)) : (Op.equalIn (d + 1) t (.iface t' u) .nilIface).run P W = .ok false W := by
  simp [Op.equalIn, run_underlying hu]
theorem r_nilE {c : Cx} {E : List (Nat × VP)} {L : List Ent} {d : Option Tmp} {ty : TypeId} {pos : String} {af : Array Edge} {g : Option (Nat × Bool)} {x : Operand} {t t2 : TypeId} {ms : Array (String × TypeId)} {b : Bool}
    (hu : c.P.underlying t = some (.interface ms)) (hx : Look c E L x (.nilq b)) : HR c E L ⟨d, .binOp .eql t x (.const .nilIface) t2, ty, pos, af, g⟩ (.of b) := .pure fun a W s => by
  have h := hx a W s
  have hn : a.eval (.const .nilIface) = .nilIface := rfl
  cases b with
  | true =>
    have h1 : a.eval x = .nilIface := h
    exact ⟨.bool true, by simp [execOp, eqGuard, binOp, h1, hn, Op.equal, show (Op.equalIn Op.maxDepth t .nilIface .nilIface).run c.P W = .ok true W from run_eq_nilI 9999 hu], of_bool.2 rfl⟩
  | false =>
    obtain ⟨t', u, h1⟩ : ∃ t u, a.eval x = .iface t u := h
    exact ⟨.bool false, by simp [execOp, eqGuard, binOp, h1, hn, Op.equal, show (Op.equalIn Op.maxDepth t (.iface t' u) .nilIface).run c.P W = .ok false W from run_eq_nilJ 9999 hu], of_bool.2 rfl⟩
theorem call_c {p : Nat} {x : T_parser} {s : ByteArray} {r : Option T_api_Call} (h : callP s = some r) :
    MeetsH G0 Tryd.prog 26 [VP.pb p, VP.of s] [vr p x] fun A W => PostE [p] A W (resE x r) (fun b => VP.of b) (fun _ : Unit => [vr p x]) := by
  unfold callP at h
  refine MeetsH.of Tryd.func26 rfl Tryd.ntmps26 rfl fun W A hG => Wp.seq (Wp.reg (Sq.alloc zr36 rfl fun p1 => Sq.nil (To.next (Wp.seq (Wp.reg (Sq.v (r_move (look_t rfl)) rfl rfl rfl ?_))))))
  obtain ⟨y1, hy1, h⟩ := bind_some h
  refine Sq.v (r_callG hG hen24 (cut_c hy1) ⟨look_t rfl, look_str (ByteArray.mk #[32]), trivial⟩) rfl rfl rfl (Sq.v (r_move (look_t rfl)) rfl rfl rfl (Sq.v (r_ext (look_t rfl) rfl) rfl rfl rfl (Sq.v (r_ext (look_t rfl) rfl) rfl rfl rfl (Sq.v (r_ext (look_t rfl) rfl) rfl rfl rfl (Sq.v (r_asg (look_t rfl)) rfl rfl rfl (Sq.v (r_asg (look_t rfl)) rfl rfl rfl (Sq.v (r_asg (look_t rfl)) rfl rfl rfl (Sq.nil (To.next (Wp.seq (Wp.reg (Sq.v (r_move (look_t rfl)) rfl rfl rfl (Sq.v (r_move (look_t rfl)) rfl rfl rfl ?_)))))))))))))
  cases hb : y1.2.2 with
  | false =>
    rw [hb] at h
    cases h
    refine Sq.bring 1 rfl (Sq.callX (Lin := [vr p x]) hen25 (need_bad rfl) ⟨look_t rfl, look_t rfl, trivial⟩ fun q => ?_)
    repeat (first | with_reducible apply To.pthen | with_reducible apply To.bpan)
    refine To.bring 1 rfl ?_
    exact To.endX () 1 rfl rfl rfl rfl rfl
  | true =>
  rw [hb] at h
  simp only [cond_true] at h
  refine Sq.vS (HS.call [1] hen25 (need_ok rfl) ⟨look_t rfl, look_t rfl, trivial⟩ rfl ⟨rfl, trivial⟩ rfl) rfl rfl rfl (Sq.nil (To.next (Wp.seq (Wp.reg (Sq.v (r_move (look_t rfl)) rfl rfl rfl ?_)))))
  obtain ⟨y2, hy2, h⟩ := bind_some h
  refine Sq.v (r_callG hG hen32 (atoi_c hy2) ⟨look_t rfl, trivial⟩) rfl rfl rfl (Sq.v (r_move (look_t rfl)) rfl rfl rfl (Sq.v (r_ext (look_t rfl) rfl) rfl rfl rfl (Sq.v (r_ext (look_t rfl) rfl) rfl rfl rfl (Sq.v (r_asg (look_t rfl)) rfl rfl rfl (Sq.v (r_asg (look_t rfl)) rfl rfl rfl (Sq.nil (To.next (Wp.seq (Wp.reg (Sq.v (r_move (look_t rfl)) rfl rfl rfl (Sq.v (r_move (look_t rfl)) rfl rfl rfl (Sq.v (r_nilE Tryd.underlying41 (look_t rfl)) rfl rfl rfl (Sq.v (r_move (look_t rfl)) rfl rfl rfl (Sq.g (fun hb => r_move (look_t rfl)) rfl rfl rfl rfl rfl ?_))))))))))))))
  obtain ⟨y3, hy3, h⟩ := bind_some h
  refine Sq.g (fun hb => r_callG hG hen14 (itoa_c (condM_some hy3 hb)) ⟨look_tc rfl hb, trivial⟩) rfl rfl rfl rfl rfl (Sq.g (fun hb => r_move (look_t rfl)) rfl rfl rfl rfl rfl (Sq.g (fun hb => r_eqS Tryd.underlying9 (look_tc rfl hb) (look_tc rfl hb)) rfl rfl rfl rfl rfl (Sq.v (r_and (look_t rfl) (look_t rfl) (fun h => h)) rfl rfl rfl ?_)))
  cases hb : y2.2 && (y3.data.toList == y1.1.data.toList) with
  | false =>
    rw [hb] at h
    cases h
    refine Sq.bring 1 rfl (Sq.callX (Lin := [vr p x]) hen25 (need_bad rfl) ⟨look_t rfl, look_t rfl, trivial⟩ fun q => ?_)
    repeat (first | with_reducible apply To.pthen | with_reducible apply To.bpan)
    refine To.bring 1 rfl ?_
    exact To.endX () 1 rfl rfl rfl rfl rfl
  | true =>
  rw [hb] at h
  simp only [cond_true] at h
  refine Sq.vS (HS.call [1] hen25 (need_ok rfl) ⟨look_t rfl, look_t rfl, trivial⟩ rfl ⟨rfl, trivial⟩ rfl) rfl rfl rfl (Sq.nil (To.next (Wp.seq (Wp.reg (Sq.v (r_move (look_t rfl)) rfl rfl rfl (Sq.v (r_move (look_t rfl)) rfl rfl rfl (Sq.v (r_move (look_t rfl)) rfl rfl rfl (Sq.bring 1 rfl ?_))))))))
  obtain ⟨o, ho, h⟩ := bind_some h
  cases o with
  | none =>
    cases h
    have hc : MeetsH G0 Tryd.prog 33 [VP.pb p, VP.of y1.2.1] [vr p x] fun A W => PostX (ks [vr p x]) A W (wrongV x.f_index) (fun _ : Unit => [vr p x]) := bytes_c ho
    refine Sq.callHX (Lin := [vr p x]) hG hen33 hc ⟨look_t rfl, look_t rfl, trivial⟩ fun q => ?_
    repeat (first | with_reducible apply To.pthen | with_reducible apply To.bpan)
    refine To.bring 1 rfl ?_
    exact To.endX () 1 rfl rfl rfl rfl rfl
  | some d =>
    cases h
    have hc : MeetsH G0 Tryd.prog 33 [VP.pb p, VP.of y1.2.1] [vr p x] fun A W => PostO (ks [vr p x]) A W (fun _ : Unit => VP.of d) (fun _ : Unit => [vr p x]) := bytes_c ho
    refine Sq.callH (Lin := [vr p x]) hG hen33 hc ⟨look_t rfl, look_t rfl, trivial⟩ rfl fun q => ?_
    refine Sq.v (r_build (b := { f_Controller := y2.1, f_Data := d : T_api_Call }) rfl bu36 zr36 (.cons le_T_api_Call_Controller rfl (look_t rfl) rfl (.cons le_T_api_Call_Data rfl (look_t rfl) rfl (.nil)))) rfl rfl rfl ?_
    refine Sq.store (i := 1) (Lens.id T_api_Call) (v := ({ f_Controller := y2.1, f_Data := d } : T_api_Call)) (b' := ({ f_Controller := y2.1, f_Data := d } : T_api_Call)) ty36 (look_t rfl) (look_t rfl) rfl rfl rfl (Sq.nil (To.next (Wp.ret ?_)))
    exact To.endO1 (ρ := fun _ : Unit => VP.of ({ f_Controller := y2.1, f_Data := d } : T_api_Call)) () (.cons_cons _ (List.nil_sublist _)) rfl rfl (rvo_c (i := 1) ty36 rfl rfl)
end Go.Proofs.YtcglmhpembonmaaDoor

namespace Go.Proofs.YtcglmhpembonmaaDoor
open Go Gv
set_option linter.unusedVariables false
set_option linter.unusedSimpArgs false
set_option maxRecDepth 100000
theorem hen23 : En Tryd.prog 23 := ⟨_, Tryd.func23, rfl, by kernel_rfl⟩
theorem hidle23 {v0 v1 v2 : Value} : Idle Tryd.prog 23 [v0, v1, v2] := fun w => by
  refine callsDIn_of_wpSIn Tryd.func23 rfl trivial fun c₀ cs hu => ?_
  apply wpSIn_seq
  apply wpSIn_region
  simp [wpOpsSIn, go_sem, recoverD, hu, Tryd.ntmps23, Exit.thenS]
  apply wpSIn_seq
  apply wpSIn_region
  simp [wpOpsSIn, go_sem, Exit.thenS, Act.eval]
  refine wpSIn_cond (t := false) (by simp [Act.eval, Array.replicate]) ?_
  simp only [Bool.false_eq_true, if_false]
  refine wpSIn_of_wpIn rfl (wpIn_skip ?_)
  cases c₀
  simp_all [bodyPostS, results, Tryd.results23]
theorem catch23 {p1 p2 p3 : Nat} {k : Int} {w : World} {v1 v2 v3 : Value} (c1 : w.cell? ⟨p1, 0, none⟩ = some v1) (f1 : w.frozen? ⟨p1, 0, none⟩ = false)
    (c2 : (w.setCell ⟨p1, 0, none⟩ (.slice none 0 0)).cell? ⟨p2, 0, none⟩ = some v2) (f2 : (w.setCell ⟨p1, 0, none⟩ (.slice none 0 0)).frozen? ⟨p2, 0, none⟩ = false)
    (c3 : ((w.setCell ⟨p1, 0, none⟩ (.slice none 0 0)).setCell ⟨p2, 0, none⟩ (.int .i64 k)).cell? ⟨p3, 0, none⟩ = some v3) (f3 : ((w.setCell ⟨p1, 0, none⟩ (.slice none 0 0)).setCell ⟨p2, 0, none⟩ (.int .i64 k)).frozen? ⟨p3, 0, none⟩ = false) :
    CallsDIn Fence.wide 8 Tryd.prog 23 #[.pointer (some ⟨p1, 0, none⟩), .pointer (some ⟨p2, 0, none⟩), .pointer (some ⟨p3, 0, none⟩)] (.panicking [{ v := wrongV k, recovered := false }]) w fun e u' w' =>
      e = .returned (.tuple #[]) ∧ u' = .panicking [{ v := wrongV k, recovered := true }] ∧ w' = ((w.setCell ⟨p1, 0, none⟩ (.slice none 0 0)).setCell ⟨p2, 0, none⟩ (.int .i64 k)).setCell ⟨p3, 0, none⟩ (.bool false) := by
  refine callsDIn_of_wpSIn Tryd.func23 rfl trivial fun c₀ cs hu => ?_
  apply wpSIn_seq
  apply wpSIn_region
  simp [wpOpsSIn, go_sem, recoverD, hu, Tryd.ntmps23, Exit.thenS]
  apply wpSIn_seq
  apply wpSIn_region
  simp [wpOpsSIn, go_sem, Exit.thenS, Act.eval, wrongV]
  refine wpSIn_cond (t := true) (by simp [Act.eval, Array.replicate]) ?_
  simp only [if_true]
  apply wpSIn_seq
  apply wpSIn_region
  have ht : ∀ w : World, (Instr.typeAssert (.iface 53 (.int .i64 k)) 20 53 true).run Tryd.prog w = .ok (.tuple #[.int .i64 k, .bool true]) w := fun w => by
    simp [Instr.typeAssert, run_underlying Tryd.underlying53]
  simp [wpOpsSIn, go_sem, Exit.thenS, Act.eval, ht]
  apply wpSIn_seq
  apply wpSIn_seq
  apply wpSIn_region
  simp [wpOpsSIn, go_sem, Exit.thenS, Act.eval]
  refine wpSIn_cond (t := false) (by simp [Act.eval, Array.replicate]) ?_
  simp only [Bool.false_eq_true, if_false]
  refine wpSIn_of_wpIn rfl (wpIn_skip ?_)
  simp only [Exit.thenS]
  apply wpSIn_region
  simp [wpOpsSIn, go_sem, Exit.thenS, Act.eval, c1, f1, c2, f2, c3, f3, bodyPostS, results, Tryd.results23]
end Go.Proofs.YtcglmhpembonmaaDoor

namespace Go.Proofs.YtcglmhpembonmaaDoor
open Go Gv
set_option linter.unusedVariables false
set_option linter.unusedSimpArgs false
set_option maxRecDepth 100000
set_option maxHeartbeats 2000000
instance hzr22 : Zr Tryd.prog 22 (default : List T_api_Call) := Zr.of (by kernel_rfl)
instance hzr3 : Zr Tryd.prog 3 (default : Int) := Zr.of (by kernel_rfl)
instance hzr4 : Zr Tryd.prog 4 (default : Bool) := Zr.of (by kernel_rfl)
instance hty22 : Ty Tryd.prog 22 (List T_api_Call) := Ty.of (by rfl) Tryd.underlying22 (by kernel_rfl)
theorem hzh22_0 : Zh Tryd.prog 22 [0] := by unfold Zh; kernel_rfl
theorem MeetsL.ofM {G : Gr} {P : Program} {f : FuncId} {fn : Func} {code : Code} {n : Nat} {τs : List VP} {ρ : VP} (hf : P.funcs[f]? = some fn) (hb : fn.body = some code) (hn : fn.ntmps = n) (hlen : Nat.ble τs.length n = true)
    (h : ∀ W A, G.on [] W → Wp ⟨P, n, W, [], A, none, []⟩ (bodyPostM Fence.wide 9 P fn (Post ⟨P, n, W, [], A, none, []⟩ ρ)) code (params 0 τs) []) : MeetsL G P f τs ρ := fun A W vs hG hA hv =>
  (callsIn_wide (n := 9)).1 (callsIn_of_wp_marks hf hb trivial (h W A ⟨hG, fun k hk => by simp⟩ _ _ (MeetsH.st (Lin := []) (a := ⟨#[], []⟩) hn hlen (fun k hk => ⟨hA k hk, by simp [ks]⟩) .nil (fun k hk => by cases hk) (fun e he => by cases he) hv)))
/-- a variable of one cell is written -/
theorem St.set1 {c : Cx} {E : List (Nat × VP)} {L : List Ent} {a : Act} {W : World} (s : St c E L a W) {i p : Nat} {β γ : Type} [Rp β] [Rp γ] {x : β} {y : γ} {u : Value} (hL : L[i]? = some ⟨some p, .var x⟩) (h1 : Rp.size β = 1) (hu : ∀ A W, Rp.rep A W [u] y) :
    (∃ v, W.cell? ⟨p, 0, none⟩ = some v) ∧ W.frozen? ⟨p, 0, none⟩ = false ∧ St c E (L.set i ⟨some p, .var y⟩) a (W.setCell ⟨p, 0, none⟩ u) := by
  obtain ⟨ob, hob, cs, T, rfl, hr⟩ := s.own _ (List.mem_of_getElem? hL)
  have hl : cs.toList.length = 1 := (Rp.len hr).trans h1
  have hsz : cs.size = 1 := by simpa using hl
  refine ⟨⟨cs[0], by rw [cell_of_row W p 0 cs T (0, 0) hob]; simp [hsz]⟩, by simp [World.frozen?, hob], ?_⟩
  rw [setCell_eq_setRow W p 0 cs T (0, 0) u hob]
  refine s.store hL hob ⟨_, T, rfl, ?_⟩
  have e : (cs.setIfInBounds 0 u).toList = [u] := by
    obtain ⟨l⟩ := cs
    match l, hl with
    | [z], _ => simp
  rw [e]
  exact hu _ _
/-- a panic of the parser's is caught -/
theorem To.endP {c : Cx} {E : List (Nat × VP)} {L : List Ent} {fn : Func} {R : Ending → World → Prop} {p1 p2 p3 i1 i2 i3 : Nat} {k : Int} {x1 : List T_api_Call} {x2 : Int} {x3 : Bool} (hP : c.P = Tryd.prog)
    (hds : c.ds = [dfn 23 [.pointer (some ⟨p1, 0, none⟩), .pointer (some ⟨p2, 0, none⟩), .pointer (some ⟨p3, 0, none⟩)]])
    (h1 : L[i1]? = some ⟨some p1, .var x1⟩) (h2 : (L.set i1 ⟨some p1, .var ([] : List T_api_Call)⟩)[i2]? = some ⟨some p2, .var x2⟩) (h3 : ((L.set i1 ⟨some p1, .var ([] : List T_api_Call)⟩).set i2 ⟨some p2, .var k⟩)[i3]? = some ⟨some p3, .var x3⟩)
    (hk : To { c with ds := [] } (bodyPost c.P fn R) .ret E (((L.set i1 ⟨some p1, .var ([] : List T_api_Call)⟩).set i2 ⟨some p2, .var k⟩).set i3 ⟨some p3, .var false⟩)) :
    To c (bodyPostM Fence.wide 9 c.P fn R) (.panic [{ v := wrongV k, recovered := false }]) E L := fun a W s => by
  obtain ⟨P, n, W0, X, A0, rd, ds⟩ := c
  simp only at hP hds
  subst hP hds
  show LeavesInM Fence.wide 9 Tryd.prog fn a.tmps R a.defers (.panicking [{ v := wrongV k, recovered := false }]) W
  rw [s.defers]
  have hen : En Tryd.prog 23 := hen23
  refine ⟨by simp, .inr ⟨(fun h => by cases h), Fn.func 23, _, 23, #[.pointer (some ⟨p1, 0, none⟩), .pointer (some ⟨p2, 0, none⟩), .pointer (some ⟨p3, 0, none⟩)], rfl, ?_, fun _ _ => trivial, ?_⟩⟩
  · simp [dfn, invoke, hen.run]
  obtain ⟨⟨v1, c1⟩, f1, s1⟩ := St.set1 (y := ([] : List T_api_Call)) (u := .slice none 0 0) s h1 rfl fun A W => Zc.ok (α := List T_api_Call) A W
  obtain ⟨⟨v2, c2⟩, f2, s2⟩ := St.set1 (y := k) (u := .int .i64 k) s1 h2 rfl fun A W => rfl
  obtain ⟨⟨v3, c3⟩, f3, s3⟩ := St.set1 (y := false) (u := .bool false) s2 h3 rfl fun A W => rfl
  refine (catch23 c1 f1 c2 f2 c3 f3).mono fun e u' W' ⟨he, hu, hw⟩ => ?_
  subst he hu hw
  have s4 : St ⟨Tryd.prog, n, W0, X, A0, rd, []⟩ E (((L.set i1 ⟨some p1, .var ([] : List T_api_Call)⟩).set i2 ⟨some p2, .var k⟩).set i3 ⟨some p3, .var false⟩) { a with defers := [] } _ :=
    { defers := rfl, size := s3.size, env := s3.env, fr := s3.fr, own := s3.own, nodup := s3.nodup, lt := s3.lt, mine := s3.mine, old := s3.old }
  obtain ⟨_, v', h5, h6⟩ := hk _ _ s4
  exact ⟨v', h5, h6⟩
theorem HS.callH {c : Cx} {E : List (Nat × VP)} {L : List Ent} {d : Option Tmp} {ty : TypeId} {pos : String} {af : Array Edge} {g : Option (Nat × Bool)} {G : Gr} {f : FuncId} {xs : List Operand} {ats : Array TypeId} {τs : List VP} {Lin : List Ent} {ρ : Unit → VP} {Lo : Unit → List Ent} (is : List Nat) (hG : G.on c.X c.W0) (en : En c.P f)
    (h : MeetsH G c.P f τs Lin fun A W => PostO (ks Lin) A W ρ Lo) (hx : Looks c E L xs τs) (hn : decide is.Nodup = true) (hp : Pick L is Lin) (hl : Lo () = Lin) : HS c E L ⟨d, .call ⟨.value (.func f), xs.toArray, ats⟩, ty, pos, af, g⟩ (ρ ()) := fun a W s => by
  obtain ⟨R, hR⟩ := hp.perm (of_decide_eq_true hn)
  have hkp := ks_perm hR
  have ho := opto_callH (d := d) (ty := ty) (pos := pos) (af := af) (g := g) (ats := ats) en hG h (s.perm hR) ((hx.perm hR).holds a W (s.perm hR))
  unfold OpTo at ho ⊢
  refine Oper.wp_mono (fun a' W' ⟨v, h1, dd, h2, h3⟩ => ⟨v, h1, ?_, ?_⟩) ho
  · cases dd; have hl' : Lo PUnit.unit = Lin := hl; simp only [hl'] at h2; exact h2.perm hR.symm
  · cases dd
    have hl' : Lo PUnit.unit = Lin := hl
    simp only [hl'] at h3
    exact VP.mono _ (.drop fun k hm => by
      simp only [List.mem_append] at hm ⊢
      rwa [← hkp.mem_iff]) h3
theorem To.qpan {c : Cx} {E : List (Nat × VP)} {L : List Ent} {Q : Exit → Act → World → Prop} {K : Act → World → Prop} {ch : List PanicEntry} (h : To c Q (.panic ch) E L) : To c (QK K Q) (.panic ch) E L := fun a W s => h a W s
theorem lines_c {s : ByteArray} {r : List T_api_Call ⊕ Int} (h : linesP s = some r) : MeetsL G0 Tryd.prog 18 [VP.of s] (VP.tup [VP.of (linesR r).1, VP.of (linesR r).2.1, VP.of (linesR r).2.2]) := by
  unfold linesP at h
  refine MeetsL.ofM Tryd.func18 rfl Tryd.ntmps18 rfl fun W A hG => Wp.seq (Wp.reg (Sq.allocX (z := (default : List T_api_Call)) [0] hzh22_0 hzr22 rfl fun p1 => Sq.own (α := T_api_Call) 36 (Sq.alloc hzr3 rfl fun p2 => Sq.alloc hzr4 rfl fun p3 => Sq.nil (To.next (Wp.seq (Wp.reg (Sq.v (r_mkR (f := 23) (us := [.pointer (some ⟨p1, 0, none⟩), .pointer (some ⟨p2, 0, none⟩), .pointer (some ⟨p3, 0, none⟩)]) ⟨look_t rfl, look_t rfl, look_t rfl, trivial⟩) rfl rfl rfl (Sq.defer rfl (look_t rfl) (Sq.nil (To.next (Wp.seq (Wp.reg ?_))))))))))))
  refine Sq.alloc hzr56 rfl fun p4 => Sq.nil (To.next (Wp.seq (Wp.block ?_)))
  refine Wp.loopG (γ := (Option Nat × Nat)) (δ := (Option Nat × Nat × List T_api_Call)) h (fun s1 g1 => [(0, VP.of (s1.1)), (2, VP.pb p1), (3, VP.pb p2), (4, VP.pb p3), (5, VP.pb p4)]) (fun s1 g1 => [vr p4 (⟨s1.2.1⟩ : T_parser), vr p3 (default : Bool), vr p2 (default : Int), ⟨g1.1, .row 36 s1.2.2 g1.2⟩, ⟨some p1, .varX (default : List T_api_Call) [(0, slv g1.1 s1.2.2.length g1.2)]⟩])
    (fun e => match e with | .inl _ => Exit.exit 0 | .inr k => Exit.panic [{ v := wrongV k, recovered := false }]) (fun e g1 => [(2, VP.pb p1), (3, VP.pb p2), (4, VP.pb p3)])
    (fun e g1 => match e with | .inl l => [vr p3 (default : Bool), vr p2 (default : Int), ⟨g1.1, .row 36 l g1.2.1⟩, ⟨some p1, .varX (default : List T_api_Call) [(0, slv g1.1 l.length g1.2.1)]⟩] | .inr k => [vr p3 (default : Bool), vr p2 (default : Int), ⟨g1.1, .row 36 g1.2.2 g1.2.1⟩, ⟨some p1, .varX (default : List T_api_Call) [(0, slv g1.1 g1.2.2.length g1.2.1)]⟩]) (none, 0) rfl (.same rfl (.same rfl (.same rfl (.same rfl (.same rfl .nil))))) (fun s1 r h g1 => ?_) (fun g1 => ?_)
  · refine Wp.seq (Wp.seq (Wp.reg (Sq.v (r_move (look_t rfl)) rfl rfl rfl (Sq.v (r_neS Tryd.underlying9 (look_t rfl) (look_str (ByteArray.mk #[]))) rfl rfl rfl (Sq.nil (To.next ?_))))))
    refine Wp.cond (look_t rfl) (fun hc => ?_) (fun hc => ?_)
    · replace h := cond_t hc h
      refine Wp.skip (To.next (Wp.block (Wp.seq (Wp.reg (Sq.v (r_move (look_t rfl)) rfl rfl rfl ?_)))))
      obtain ⟨y1, hy1, h⟩ := bind_some h
      refine Sq.v (r_callG hG hen24 (cut_c hy1) ⟨look_t rfl, look_str (ByteArray.mk #[10]), trivial⟩) rfl rfl rfl (Sq.v (r_move (look_t rfl)) rfl rfl rfl (Sq.v (r_ext (look_t rfl) rfl) rfl rfl rfl (Sq.v (r_ext (look_t rfl) rfl) rfl rfl rfl (Sq.v (r_ext (look_t rfl) rfl) rfl rfl rfl (Sq.v (r_asg (look_t rfl)) rfl rfl rfl (Sq.v (r_asg (look_t rfl)) rfl rfl rfl (Sq.v (r_asg (look_t rfl)) rfl rfl rfl (Sq.nil (To.next (Wp.seq (Wp.reg (Sq.v (r_move (look_t rfl)) rfl rfl rfl ?_))))))))))))
      cases hb : y1.2.2 with
      | false =>
        rw [hb] at h
        cases h
        refine Sq.callX (Lin := [vr p4 (⟨s1.2.1⟩ : T_parser)]) hen25 (need_bad rfl) ⟨look_t rfl, look_t rfl, trivial⟩ fun q => ?_
        repeat (first | with_reducible apply To.pthen | with_reducible apply To.bpan)
        exact To.leaveG (g1.1, g1.2, s1.2.2) 1 rfl (by simp) rfl (.same rfl (.same rfl (.same rfl .nil)))
      | true =>
      rw [hb] at h
      simp only [cond_true] at h
      refine Sq.vS (HS.call [0] hen25 (need_ok rfl) ⟨look_t rfl, look_t rfl, trivial⟩ rfl ⟨rfl, trivial⟩ rfl) rfl rfl rfl (Sq.nil (To.next (Wp.seq ?_)))
      obtain ⟨o, hy3, h⟩ := bind_some h
      cases o with
      | none =>
        cases h
        have hc : MeetsH G0 Tryd.prog 26 [VP.pb p4, VP.of y1.1] [vr p4 (⟨s1.2.1⟩ : T_parser)] fun A W => PostX (ks [vr p4 (⟨s1.2.1⟩ : T_parser)]) A W (wrongV s1.2.1) (fun _ : Unit => [vr p4 (⟨s1.2.1⟩ : T_parser)]) := call_c hy3
        refine Wp.le (E' := [(2, VP.pb p1), (3, VP.pb p2), (4, VP.pb p3), (5, VP.pb p4), (6, VP.of y1.1)]) (.same rfl (.same rfl (.same rfl (.same rfl (.same rfl .nil))))) ?_
        refine Wp.drawE mixed 6 #[false, false, false, false, false, false] rfl rfl ?_
        refine AnyS.cut (γ := Unit) 4 #[true, true, false, false, false, false] (fun _ => [(2, VP.pb p1), (3, VP.pb p2), (4, VP.pb p3), (5, VP.pb p4), (21, VP.of y1.1)]) (fun _ => [vr p4 (⟨s1.2.1⟩ : T_parser), vr p3 (default : Bool), vr p2 (default : Int), ⟨g1.1, .row 36 s1.2.2 g1.2⟩, ⟨some p1, .varX (default : List T_api_Call) [(0, slv g1.1 s1.2.2.length g1.2)]⟩]) (fun _ => ?_) fun S3 => ?_
        · refine AnyS.stp [2] ⟨⟨_, rfl, ?_⟩, trivial⟩
          refine Sq.callHX (Lin := [vr p4 (⟨s1.2.1⟩ : T_parser)]) hG hen26 hc ⟨look_t rfl, look_t rfl, trivial⟩ fun q => To.qpan ?_
          repeat (first | with_reducible apply To.pthen | with_reducible apply To.bpan)
          exact To.leaveG (g1.1, g1.2, s1.2.2) 1 rfl (by simp) rfl (.same rfl (.same rfl (.same rfl .nil)))
        refine AnyS.cut (γ := Unit) 5 #[false, true, false, false, false, false] (fun _ => [(2, VP.pb p1), (3, VP.pb p2), (4, VP.pb p3), (5, VP.pb p4), (21, VP.of y1.1)]) (fun _ => [vr p4 (⟨s1.2.1⟩ : T_parser), vr p3 (default : Bool), vr p2 (default : Int), ⟨g1.1, .row 36 s1.2.2 g1.2⟩, ⟨some p1, .varX (default : List T_api_Call) [(0, slv g1.1 s1.2.2.length g1.2)]⟩]) (fun _ => ?_) fun S2 => ?_
        · refine AnyS.stp [0, 2] ⟨⟨_, rfl, ?_⟩, ⟨_, rfl, ?_⟩, trivial⟩
          · exact Sq.v (r_loadH (i := 4) (q := 0) (β := List T_api_Call) (γ := T_api_Call) hty22 (look_t rfl) rfl rfl) rfl rfl rfl (Sq.nil (To.anyA (S3 ())))
          · refine Sq.callHX (Lin := [vr p4 (⟨s1.2.1⟩ : T_parser)]) hG hen26 hc ⟨look_t rfl, look_t rfl, trivial⟩ fun q => To.qpan ?_
            repeat (first | with_reducible apply To.pthen | with_reducible apply To.bpan)
            exact To.leaveG (g1.1, g1.2, s1.2.2) 1 rfl (by simp) rfl (.same rfl (.same rfl (.same rfl .nil)))
        refine AnyS.cut (γ := Unit) 5 #[true, false, false, false, false, false] (fun _ => [(2, VP.pb p1), (3, VP.pb p2), (4, VP.pb p3), (5, VP.pb p4), (6, VP.of y1.1)]) (fun _ => [vr p4 (⟨s1.2.1⟩ : T_parser), vr p3 (default : Bool), vr p2 (default : Int), ⟨g1.1, .row 36 s1.2.2 g1.2⟩, ⟨some p1, .varX (default : List T_api_Call) [(0, slv g1.1 s1.2.2.length g1.2)]⟩]) (fun _ => ?_) fun S1 => ?_
        · refine AnyS.stp [1] ⟨⟨_, rfl, ?_⟩, trivial⟩
          exact Sq.v (r_move (look_t rfl)) rfl rfl rfl (Sq.nil (To.anyA (S3 ())))
        refine AnyS.stp [0, 1] ⟨⟨_, rfl, ?_⟩, ⟨_, rfl, ?_⟩, trivial⟩
        · exact Sq.v (r_loadH (i := 4) (q := 0) (β := List T_api_Call) (γ := T_api_Call) hty22 (look_t rfl) rfl rfl) rfl rfl rfl (Sq.nil (To.anyA (S1 ())))
        · exact Sq.v (r_move (look_t rfl)) rfl rfl rfl (Sq.nil (To.anyA (S2 ())))
      | some y3 =>
      obtain ⟨y4, hy4, h⟩ := bind_some h
      have hc : MeetsH G0 Tryd.prog 26 [VP.pb p4, VP.of y1.1] [vr p4 (⟨s1.2.1⟩ : T_parser)] fun A W => PostO (ks [vr p4 (⟨s1.2.1⟩ : T_parser)]) A W (fun _ : Unit => VP.of y3) (fun _ : Unit => [vr p4 (⟨s1.2.1⟩ : T_parser)]) := call_c hy3
      refine Wp.le (E' := [(2, VP.pb p1), (3, VP.pb p2), (4, VP.pb p3), (5, VP.pb p4), (6, VP.of y1.1), (7, VP.of y1.2.1)]) (.same rfl (.same rfl (.same rfl (.same rfl (.same rfl (.same rfl .nil)))))) ?_
      refine Wp.eD mixed (Hp 20 [] [4] (VP.eq (slv g1.1 s1.2.2.length g1.2)) :: Hp 21 [] [] (VP.of (y1.1)) :: Hp 22 [1] [0] (VP.of (y3)) :: Hp 23 [2] [] (VP.of ([y3])) :: ⟨some 24, [0, 3], [3], [3], fun hd => VP.eq (slv (hd 4 0) y4.length ((hd 4 1).getD 0)), fun hd _ => ⟨(hd 4 0), .row 36 y4 ((hd 4 1).getD 0)⟩⟩ :: Hs [0, 4] [4] [4] (fun hd => ⟨some p1, .varX (default : List T_api_Call) [(0, slv (hd 4 0) y4.length ((hd 4 1).getD 0))]⟩) :: []) ⟨?_, ?_, ?_, ?_, ?_, ?_, trivial⟩ fun hd1 => ?_
      · exact hd_v rfl rfl rfl fun hd E' L' hE hL => r_loadH (i := 4) (q := 0) (β := List T_api_Call) (γ := T_api_Call) hty22 (look_t (hE _ _ rfl)) (hL 4 _ rfl rfl) rfl
      · exact hd_v rfl rfl rfl fun hd E' L' hE hL => r_move (look_t (hE _ _ rfl))
      · intro hd E' L' hE hL
        refine Sq.vS (HS.callH [0] hG hen26 hc ⟨look_t (hE _ _ rfl), look_t (hE _ _ rfl), trivial⟩ rfl ⟨(hL 0 _ rfl rfl), trivial⟩ rfl) rfl rfl rfl (Sq.nil ?_)
        exact To.fin (gm []) rfl rfl
      · exact hd_v rfl rfl rfl fun hd E' L' hE hL => r_bsl (r := [y3]) Tryd.underlying22 ty36 zr36 rfl rfl (.cons (by simp) (look_t (hE _ _ rfl)) (.nil))
      · intro hd E' L' hE hL
        refine Sq.app (i := 3) Tryd.underlying22 ty36 zr36 (bytes := 32) (by kernel_rfl) (look_t (hE _ _ rfl)) (hL 3 _ rfl rfl) (look_t (hE _ _ rfl)) hy4 rfl fun key1 cap1 => ?_
        refine Sq.nil ?_
        exact To.fin (gm [key1, some cap1]) rfl rfl
      · intro hd E' L' hE hL
        refine Sq.storeH (i := 4) (γ := T_api_Call) (b' := (default : List T_api_Call)) (os' := [(0, slv (hd 4 0) y4.length ((hd 4 1).getD 0))]) (Lens.id (List T_api_Call)) hty22 (look_t (hE _ _ rfl)) (look_t (hE _ _ rfl)) slv_one (hL 4 _ rfl rfl) rfl rfl rfl (Sq.nil ?_)
        exact To.fin (gm []) rfl rfl
      refine To.eqL (L2 := [vr p4 (⟨s1.2.1⟩ : T_parser), vr p3 (default : Bool), vr p2 (default : Int), ⟨(hd1 4 0), .row 36 y4 ((hd1 4 1).getD 0)⟩, ⟨some p1, .varX (default : List T_api_Call) [(0, slv (hd1 4 0) y4.length ((hd1 4 1).getD 0))]⟩]) rfl (To.le (E' := [(2, VP.pb p1), (3, VP.pb p2), (4, VP.pb p3), (5, VP.pb p4), (7, VP.of (y1.2.1))]) (.same rfl (.same rfl (.same rfl (.same rfl (.same rfl .nil))))) (To.next (Wp.seq (Wp.reg (Sq.v (r_fa hfd56.fd (look_t rfl)) rfl rfl rfl (Sq.v (r_load (i := 0) ((Lens.id T_parser).comp le_T_parser_index) (r := s1.2.1) ty3 (look_t rfl) rfl rfl rfl) rfl rfl rfl (Sq.v (r_add (look_t rfl) (look_int 1)) rfl rfl rfl (Sq.v (r_fa hfd56.fd (look_t rfl)) rfl rfl rfl ?_))))))))
      refine Sq.store (i := 0) ((Lens.id T_parser).comp le_T_parser_index) (v := (w64 (s1.2.1 + 1) : Int)) (b' := (⟨w64 (s1.2.1 + 1)⟩ : T_parser)) ty3 (look_t rfl) (look_t rfl) rfl rfl rfl (Sq.nil (To.next (Wp.reg (Sq.v (r_move (look_t rfl)) rfl rfl rfl (Sq.v (r_asg (look_t rfl)) rfl rfl rfl (Sq.nil (To.bnorm ?_)))))))
      cases h
      exact To.roundG ((hd1 4 0), ((hd1 4 1).getD 0)) 0 rfl (.same rfl (.same rfl (.same rfl (.same rfl (.same rfl .nil)))))
    · replace h := cond_f hc h
      refine Wp.exit (To.exit ?_)
      cases h
      exact To.leaveG (g1.1, g1.2, []) 1 rfl (by simp) rfl (.same rfl (.same rfl (.same rfl .nil)))
  · cases r with
    | inl l =>
      refine To.bexit (To.next (Wp.seq (Wp.reg (Sq.v (r_loadH (i := 3) (q := 0) (β := List T_api_Call) (γ := T_api_Call) hty22 (look_t rfl) rfl rfl) rfl rfl rfl (Sq.storeH (i := 3) (γ := T_api_Call) (b' := (default : List T_api_Call)) (os' := [(0, slv g1.1 l.length g1.2.1)]) (Lens.id (List T_api_Call)) hty22 (look_t rfl) (look_t rfl) slv_one rfl rfl rfl rfl (Sq.store (i := 1) (Lens.id Int) (v := (0 : Int)) (b' := (0 : Int)) ty3 (look_t rfl) (look_int 0) rfl rfl rfl (Sq.store (i := 0) (Lens.id Bool) (v := true) (b' := true) hty4 (look_t rfl) (look_bool true) rfl rfl rfl (Sq.nil (To.next (Wp.ret (To.endR rfl hen23 hidle23 ?_)))))))))))
      refine To.thaw (β := List T_api_Call) (γ := T_api_Call) (b' := l) (Lens.id (List T_api_Call)) 3 2 0 rfl rfl rfl rfl rfl rfl (To.fromX 3 rfl ?_)
      exact To.end3 rfl (rv_c (i := 3) hty22 rfl rfl) (rv_c (i := 1) ty3 rfl rfl) (rv_c (i := 0) hty4 rfl rfl)
    | inr k =>
      repeat (first | with_reducible apply To.pthen | with_reducible apply To.bpan)
      refine To.thaw (β := List T_api_Call) (γ := T_api_Call) (b' := g1.2.2) (Lens.id (List T_api_Call)) 3 2 0 rfl rfl rfl rfl rfl rfl (To.fromX 3 rfl ?_)
      refine To.endP (i1 := 3) (i2 := 1) (i3 := 0) rfl rfl rfl rfl rfl ?_
      exact To.end3 rfl (rv_c (i := 3) hty22 rfl rfl) (rv_c (i := 1) ty3 rfl rfl) (rv_c (i := 0) hty4 rfl rfl)
theorem lines_g {s : ByteArray} {r : List T_api_Call × Int × Bool} (h : linesM s = some r) : MeetsL G0 Tryd.prog 18 [VP.of s] (VP.tup [VP.of r.1, VP.of r.2.1, VP.of r.2.2]) := by
  unfold linesM at h
  obtain ⟨q, h1, rfl⟩ := Option.map_eq_some_iff.1 h
  exact lines_c h1
end Go.Proofs.YtcglmhpembonmaaDoor

namespace Go.Proofs.YtcglmhpembonmaaDoor
open Go Gv Go.RowKit
set_option linter.unusedVariables false
set_option linter.unusedSimpArgs false
set_option maxRecDepth 100000
set_option maxHeartbeats 2000000
/-- a pointer to a builder that holds bs; its blocks are from B on -/
def VP.bld (B : Nat) (bs : List UInt8) : VP where
  holds A W v := ∃ b p u, v = .pointer (some ⟨b, 0, none⟩) ∧ (p = .pointer none ∨ p = .pointer (some ⟨b, 0, none⟩)) ∧ B ≤ b ∧ W.heap[b]? = some (.cells #[p, u] 39 (0, 0)) ∧ W.ownsRowF B 5 1 u bs.length (Lib.byteCells bs) ∧
    u.ownBlock ≠ some b ∧ b ∉ A ∧ ∀ g, u.ownBlock = some g → g ∉ A
  mono {A W A' W' v} e h := by
    obtain ⟨b, p, u, h1, h2, h3, h4, h5, h6, h7, h8⟩ := h
    have hlt : b < W.heap.size := lt_of_some h4
    have hg : ∀ g, u.ownBlock = some g → g < W.heap.size ∧ W'.heap[g]? = W.heap[g]? := fun g hg => by
      rcases h5.2 with ⟨rfl, _⟩ | ⟨q, cap, cur, fz, rfl, _, hq, _⟩
      · simp [Value.ownBlock] at hg
      · simp only [Value.ownBlock, Option.some.injEq] at hg
        subst hg
        exact ⟨lt_of_some hq, e.block _ (lt_of_some hq) (h8 _ rfl)⟩
    refine ⟨b, p, u, h1, h2, h3, by rw [e.block b hlt h7]; exact h4, ⟨h5.1, ?_⟩, h6, fun hm => h7 (e.new b hm hlt), fun g hu hm => h8 g hu (e.new g hm (hg g hu).1)⟩
    rcases h5.2 with h | ⟨q, cap, cur, fz, rfl, k1, hq, rest⟩
    · exact .inl h
    · exact .inr ⟨q, cap, cur, fz, rfl, k1, by rw [(hg q rfl).2]; exact hq, rest⟩
theorem bld_is {B : Nat} {bs : List UInt8} {A : List Nat} {W : World} {v : Value} (h : (VP.bld B bs).holds A W v) : ∃ b, v = .pointer (some ⟨b, 0, none⟩) ∧ Lib.IsBuilderF 39 5 B b (Lib.byteCells bs) W ∧ ∃ p u, W.heap[b]? = some (.cells #[p, u] 39 (0, 0)) := by
  obtain ⟨b, p, u, h1, h2, h3, h4, h5, h6, h7, h8⟩ := h
  have hl : (Lib.byteCells bs).length = bs.length := Lib.byteCells_length bs
  refine ⟨b, h1, ?_, p, u, h4⟩
  rcases h2 with rfl | rfl
  · exact .inl ⟨h3, u, h4, by rw [hl]; exact h5, h6⟩
  · exact .inr ⟨h3, u, h4, by rw [hl]; exact h5, h6⟩
theorem bld_of {B b : Nat} {bs : List UInt8} {A : List Nat} {W : World} (h : Lib.IsBuilderF 39 5 B b (Lib.byteCells bs) W) (hA : ∀ k ∈ A, k < B ∨ ∃ cs T fz, W.heap[k]? = some (.cells cs T fz) ∧ T ≠ 5 ∧ T ≠ 39) : (VP.bld B bs).holds A W (.pointer (some ⟨b, 0, none⟩)) := by
  have key : ∀ p, (p = .pointer none ∨ p = .pointer (some ⟨b, 0, none⟩)) → Lib.BuilderAtF 39 5 B b p (Lib.byteCells bs) W → (VP.bld B bs).holds A W (.pointer (some ⟨b, 0, none⟩)) := by
    rintro p hp ⟨h1, u, h2, h3, h4⟩
    have hl : (Lib.byteCells bs).length = bs.length := Lib.byteCells_length bs
    rw [hl] at h3
    refine ⟨b, p, u, rfl, hp, h1, h2, h3, h4, fun hm => ?_, fun g hg hm => ?_⟩
    · rcases hA b hm with h | ⟨cs, T, fz, h5, h6, h7⟩
      · omega
      · rw [h2] at h5
        injection h5 with h5
        injection h5 with _ h5
        exact h7 h5.symm
    · rcases h3.2 with ⟨rfl, _⟩ | ⟨q, cap, cur, fz, rfl, hq, hq2, _⟩
      · simp [Value.ownBlock] at hg
      · simp only [Value.ownBlock, Option.some.injEq] at hg
        subst hg
        rcases hA _ hm with h | ⟨cs, T, fz, h5, h6, h7⟩
        · omega
        · rw [hq2] at h5
          injection h5 with h5
          injection h5 with _ h5
          exact h6 h5.symm
  rcases h with h | h
  · exact key _ (.inl rfl) h
  · exact key _ (.inr rfl) h
/-- a variable whose type is known -/
def CP.varT {α : Type} [Rp α] (T : TypeId) (x : α) : CP where
  holds A W o := ∃ cs, o = .cells cs T (0, 0) ∧ Rp.rep A W cs.toList x
  nilOk := False
  mono e h := let ⟨cs, ho, hr⟩ := h; ⟨cs, ho, Rp.mono e hr⟩
/-- what a builder's call leaves alone -/
def Kb (τ : VP) : Prop := ∀ A W A' W' v, τ.holds A W v → τ.holds A' W' v
theorem kb_int {x : Int} : Kb (VP.of x) := fun A W A' W' v h => of_int.2 (of_int.1 h)
theorem kb_u8 {x : BitVec 8} : Kb (VP.of x) := fun A W A' W' v h => of_u8.2 (of_u8.1 h)
theorem kb_eq {x : Value} : Kb (VP.eq x) := fun A W A' W' v h => h
/-- all slots' values but the builder's -/
inductive KbE : List (Nat × VP) → Prop
  | nil : KbE []
  | cons {t τ E} : Kb τ → KbE E → KbE ((t, τ) :: E)
theorem KbE.get : ∀ {E : List (Nat × VP)}, KbE E → ∀ t τ, Gv.look E t = some τ → Kb τ
  | _, .nil, t, τ, h => by cases h
  | _, .cons (t := u) h1 h2, t, τ, h => by
    simp only [Gv.look] at h
    by_cases e : Nat.beq u t = true
    · rw [e] at h; simp only [cond_true, Option.some.injEq] at h; subst h; exact h1
    · simp only [Bool.not_eq_true] at e; rw [e] at h; exact h2.get t τ h
section
variable {c : Cx} {E : List (Nat × VP)} {L : List Ent} {ops : Array Oper} {Q : Exit → Act → World → Prop} {d : Option Tmp} {ty : TypeId} {pos : String} {af : Array Edge} {g : Option (Nat × Bool)} {x y : Operand} {t t2 : TypeId}
/-- the entries that a builder's call leaves alone -/
inductive KbL : List Ent → Prop
  | nil : KbL []
  | cons {p : Nat} {T : TypeId} {α : Type} [Rp α] {w : α} {L : List Ent} : Nat.beq T 5 = false → Nat.beq T 39 = false → (∀ A W A' W' cs, Rp.rep A W cs w → Rp.rep A' W' cs w) → KbL L → KbL (⟨some p, CP.varT T w⟩ :: L)
theorem KbL.get {A A' : List Nat} {b : Nat} {W W' : World} (hb : ∃ p u, W.heap[b]? = some (.cells #[p, u] 39 (0, 0))) (hk : Lib.OthersKept 5 (some b) W W') : ∀ {L : List Ent}, KbL L → ∀ e ∈ L, e.ok A W → e.ok A' W'
  | _, .nil, e, he, _ => by cases he
  | _, @KbL.cons p T α _ w L h5 h39 hr hL, e, he, ho => by
    rcases List.mem_cons.1 he with rfl | he
    · obtain ⟨o, h1, cs, rfl, h2⟩ := ho
      obtain ⟨q, u, hq⟩ := hb
      have n5 : T ≠ 5 := fun h => by rw [h] at h5; cases h5
      have n39 : T ≠ 39 := fun h => by rw [h] at h39; cases h39
      refine ⟨_, hk p _ h1 (fun h => ?_) (fun c fz h => ?_), cs, rfl, hr _ _ _ _ _ h2⟩
      · have e : p = b := Option.some.inj h
        rw [e, hq] at h1
        injection h1 with h1
        injection h1 with _ h1
        exact n39 h1.symm
      · injection h with _ h
        exact n5 h
    · exact KbL.get hb hk hL e he ho
theorem KbL.typ {A : List Nat} {W : World} : ∀ {L : List Ent}, KbL L → (∀ e ∈ L, e.ok A W) → ∀ k ∈ ks L, ∃ cs T fz, W.heap[k]? = some (.cells cs T fz) ∧ T ≠ 5 ∧ T ≠ 39
  | _, .nil, _, k, hk => by cases hk
  | _, @KbL.cons p T α _ w L h5 h39 hr hL, h, k, hk => by
    rcases List.mem_cons.1 (show k ∈ p :: ks L from hk) with rfl | hk
    · obtain ⟨o, h1, cs, rfl, h2⟩ := h _ (List.mem_cons_self ..)
      exact ⟨cs, T, _, h1, (fun h => by rw [h] at h5; cases h5), (fun h => by rw [h] at h39; cases h39)⟩
    · exact KbL.typ hL (fun e he => h e (List.mem_cons_of_mem _ he)) k hk
/-- a call of the builder's -/
theorem Sq.bld {rest : List Oper} {dd sb B : Nat} {f : FuncId} {xs : List Operand} {ats : Array TypeId} {bs bs' : List UInt8} {σ : VP} (en : En c.P f) (hB : c.W0.heap.size = B) (hA : ∀ k ∈ c.A0, k < B)
    (h3 : Gv.look E sb = some (VP.bld B bs)) {E2 : List (Nat × VP)} (hE : Le E E2) (hK : KbE E2) (hL : KbL L) (hn : Nat.blt dd c.n = true)
    (hc : ∀ a W, St c E L a W → ∀ b, a.eval (.tmp sb) = .pointer (some ⟨b, 0, none⟩) → Lib.IsBuilderF 39 5 B b (Lib.byteCells bs) W → B ≤ W.heap.size →
      Calls c.P f (xs.map a.eval).toArray W fun e W' => (∃ r, e = .returned r ∧ ∀ A W, σ.holds A W r) ∧ Lib.IsBuilderF 39 5 B b (Lib.byteCells bs') W' ∧ Below B W W' ∧ Lib.OthersKept 5 (some b) W W')
    (k : Sq c ops Q rest ((dd, σ) :: (sb, VP.bld B bs') :: E2) L) : Sq c ops Q (⟨some dd, .call ⟨.value (.func f), xs.toArray, ats⟩, ty, pos, af, none⟩ :: rest) E L := fun a W s => by
  obtain ⟨v3, h4, h5⟩ := s.env sb _ h3
  obtain ⟨b, rfl, h6, h7⟩ := bld_is h5
  have hsz : B ≤ W.heap.size := by rw [← hB]; exact s.fr.size
  have hev : a.eval (.tmp sb) = .pointer (some ⟨b, 0, none⟩) := by simp [Act.eval, h4]
  refine wpList_op rfl (R := fun v W' => St c ((sb, VP.bld B bs') :: E2) L a W' ∧ ∀ A W, σ.holds A W v) (.of_enter (f := f) (args := (xs.map a.eval).toArray) (W' := W) (by simp [execOp, resolve, Deferred.ofValue, Act.eval, invoke, en.run]) ?_) fun v W' ⟨s', hv⟩ => k _ _ (s'.put (by simpa using hn) (hv _ _))
  refine (hc a W s b hev h6 hsz).mono fun e W' ⟨⟨r, he, hr⟩, h8', h9, h10⟩ => ⟨r, he, ?_, hr⟩
  have hown : ∀ e ∈ L, e.ok (ks L ++ c.A0) W' := fun e he => hL.get h7 h10 e he (s.own e he)
  have h8 : (VP.bld B bs').holds (ks L ++ c.A0) W' (.pointer (some ⟨b, 0, none⟩)) := bld_of h8' fun k hk => by
    rcases List.mem_append.1 hk with hk | hk
    · exact .inr (hL.typ hown k hk)
    · exact .inl (hA k hk)
  exact
  { defers := s.defers
    size := s.size
    env := fun t τ hl => by
      simp only [Gv.look] at hl
      by_cases e : Nat.beq sb t = true
      · rw [e] at hl
        simp only [cond_true, Option.some.injEq] at hl
        subst hl
        have := look_beq.1 e
        subst this
        exact ⟨_, h4, h8⟩
      · simp only [Bool.not_eq_true] at e
        rw [e] at hl
        simp only [cond_false] at hl
        obtain ⟨v, g1, g2⟩ := (s.less hE.look).env t τ hl
        exact ⟨v, g1, hK.get t τ hl _ _ _ _ _ g2⟩
    fr := ⟨h9.os.trans s.fr.os, h9.tape.trans s.fr.tape, h9.output.trans s.fr.output, trivial, Nat.le_trans s.fr.size h9.size, fun k hk hx => (h9.block k (hB ▸ hk)).trans (s.fr.block k hk hx)⟩
    own := hown
    nodup := s.nodup
    lt := fun k hk => Nat.lt_of_lt_of_le (s.lt k hk) h9.size
    mine := s.mine
    old := fun k hk => ⟨Nat.lt_of_lt_of_le (s.old k hk).1 h9.size, (s.old k hk).2⟩ }
theorem appL_some {bs xs r : List UInt8} (h : appL bs xs = some r) : bs.length + xs.length ≤ 140737488355328 ∧ r = bs ++ xs := by
  unfold appL at h
  split at h
  · exact ⟨by assumption, (Option.some.inj h).symm⟩
  · cases h
theorem hen13 : En Tryd.prog 13 := ⟨_, Tryd.func13, rfl, by kernel_rfl⟩
theorem hen15 : En Tryd.prog 15 := ⟨_, Tryd.func15, rfl, by kernel_rfl⟩
theorem hen16 : En Tryd.prog 16 := ⟨_, Tryd.func16, rfl, by kernel_rfl⟩
theorem Sq.wstr {rest : List Oper} {dd sb B : Nat} {ats : Array TypeId} {bs bs' : List UInt8} {s0 : ByteArray} (hP : c.P = Tryd.prog) (hB : c.W0.heap.size = B) (hA : ∀ k ∈ c.A0, k < B)
    (hx : Look c E L x (.of s0)) (ha : appL bs s0.data.toList = some bs') (h3 : Gv.look E sb = some (VP.bld B bs)) {E2 : List (Nat × VP)} (hE : Le E E2) (hK : KbE E2) (hL : KbL L) (hn : Nat.blt dd c.n = true)
    (k : Sq c ops Q rest ((dd, VP.any) :: (sb, VP.bld B bs') :: E2) L) : Sq c ops Q (⟨some dd, .call ⟨.value (.func 13), #[.tmp sb, x], ats⟩, ty, pos, af, none⟩ :: rest) E L := by
  obtain ⟨h1, rfl⟩ := appL_some ha
  refine Sq.bld (xs := [.tmp sb, x]) (hP ▸ hen13) hB hA h3 hE hK hL hn (fun a W s b hb hI hBw => ?_) k
  rw [List.map_cons, List.map_cons, List.map_nil, hb, of_str.1 (hx a W s), hP]
  refine (Tryd.Builder_WriteString_k B b _ s0 W hI (by rw [Lib.byteCells_length]; exact h1) hBw).mono ?_
  rintro e W' ⟨rfl, g1, g2, g3⟩
  refine ⟨⟨_, rfl, fun _ _ => trivial⟩, ?_, g2, g3⟩
  rw [Lib.byteCells_append, ← Lib.strCells_eq]
  exact .inr g1
theorem Sq.wbyte {rest : List Oper} {dd sb B : Nat} {ats : Array TypeId} {bs bs' : List UInt8} {s0 : BitVec 8} (hP : c.P = Tryd.prog) (hB : c.W0.heap.size = B) (hA : ∀ k ∈ c.A0, k < B)
    (hx : Look c E L x (.of s0)) (ha : appL bs [UInt8.ofNat s0.toNat] = some bs') (h3 : Gv.look E sb = some (VP.bld B bs)) {E2 : List (Nat × VP)} (hE : Le E E2) (hK : KbE E2) (hL : KbL L) (hn : Nat.blt dd c.n = true)
    (k : Sq c ops Q rest ((dd, VP.any) :: (sb, VP.bld B bs') :: E2) L) : Sq c ops Q (⟨some dd, .call ⟨.value (.func 15), #[.tmp sb, x], ats⟩, ty, pos, af, none⟩ :: rest) E L := by
  obtain ⟨h1, rfl⟩ := appL_some ha
  refine Sq.bld (xs := [.tmp sb, x]) (hP ▸ hen15) hB hA h3 hE hK hL hn (fun a W s b hb hI hBw => ?_) k
  rw [List.map_cons, List.map_cons, List.map_nil, hb, of_u8.1 (hx a W s), hP]
  refine (Tryd.Builder_WriteByte_k B b _ s0.toNat W hI (by rw [Lib.byteCells_length]; exact h1) hBw).mono ?_
  rintro e W' ⟨rfl, g1, g2, g3⟩
  refine ⟨⟨_, rfl, fun _ _ => trivial⟩, ?_, g2, g3⟩
  have e1 : Lib.byteCells [UInt8.ofNat s0.toNat] = [.int .u8 (s0.toNat : Int)] := by
    have := s0.isLt
    simp [Lib.byteCells, UInt8.toNat_ofNat', Nat.mod_eq_of_lt this]
  rw [Lib.byteCells_append, e1]
  exact .inr g1
theorem Sq.wstring {rest : List Oper} {dd sb B : Nat} {ats : Array TypeId} {bs : List UInt8} (hP : c.P = Tryd.prog) (hB : c.W0.heap.size = B) (hA : ∀ k ∈ c.A0, k < B)
    (h3 : Gv.look E sb = some (VP.bld B bs)) {E2 : List (Nat × VP)} (hE : Le E E2) (hK : KbE E2) (hL : KbL L) (hn : Nat.blt dd c.n = true)
    (k : Sq c ops Q rest ((dd, VP.of (⟨bs.toArray⟩ : ByteArray)) :: (sb, VP.bld B bs) :: E2) L) : Sq c ops Q (⟨some dd, .call ⟨.value (.func 16), #[.tmp sb], ats⟩, ty, pos, af, none⟩ :: rest) E L := by
  refine Sq.bld (xs := [.tmp sb]) (hP ▸ hen16) hB hA h3 hE hK hL hn (fun a W s b hb hI hBw => ?_) k
  rw [List.map_cons, List.map_nil, hb, hP]
  refine (Tryd.Builder_String_any_k B b bs W hI hBw).mono ?_
  rintro e W' ⟨rfl, g1, g2, g3⟩
  exact ⟨⟨_, rfl, fun _ _ => of_str.2 rfl⟩, g1, g2, g3⟩
/-! ### What lies in old memory -/
theorem r_lenV {ad : Option Addr} {n cap : Nat} {e : TypeId} (hu : c.P.underlying t = some (.slice e)) (hx : Look c E L x (.eq (.slice ad n cap))) : HR c E L ⟨d, .call ⟨.builtin .len, #[x], #[t]⟩, ty, pos, af, g⟩ (.of (n : Int)) := .pure fun a W s => by
  have h1 : a.eval x = _ := hx a W s
  exact ⟨.int .i64 n, by simp [execOp, resolve, invoke, builtin, Builtin.len_, h1, run_underlying hu, goInt], of_int.2 rfl⟩
theorem r_iaV {b off n cap k e : Nat} {α : Type} [Rp α] {z : Int} (hu : c.P.underlying t = some (.slice e)) (te : Ty c.P e α) (hx : Look c E L x (.eq (.slice (some ⟨b, off, none⟩) n cap))) (hy : Look c E L y (.of z)) (hk : idx n z = some k) :
    HR c E L ⟨d, .indexAddr t x y, ty, pos, af, g⟩ (.eq (.pointer (some ⟨b, off + k * Rp.size α, none⟩))) := .pure fun a W s => by
  obtain ⟨h6, rfl⟩ := idx_some hk
  have h1 : a.eval x = _ := hx a W s
  have h5 := of_int.1 (hy a W s)
  obtain ⟨ie, hie, hsz⟩ := te.info
  exact ⟨_, by simp [execOp, Instr.indexAt, asIntOf, run_underlying hu, h1, h5, h6, Go.sizeOf, typeInfo, hie, hsz, addr_add]; rfl, by simp [VP.eq]⟩
theorem r_ldM {b o : Nat} {α : Type} [Rp α] {z : α} (tt : Ty c.P t α) (hx : Look c E L x (.eq (.pointer (some ⟨b, o, none⟩)))) (hm : ∀ A, ∃ cur T fz, c.W0.heap[b]? = some (.cells cur T fz) ∧ o + Rp.size α ≤ cur.size ∧ ∀ W, Rp.rep A W ((cur.toList.drop o).take (Rp.size α)) z) (hX : c.X = []) :
    HR c E L ⟨d, .load t x, ty, pos, af, g⟩ (.of z) := .pure fun a W s => by
  obtain ⟨cur, T, fz, h1, h2, h3⟩ := hm (ks L ++ c.A0)
  have h4 : W.heap[b]? = some (.cells cur T fz) := (s.fr.block b (lt_of_some h1) (by rw [hX]; simp)).trans h1
  obtain ⟨v, h5, h6⟩ := run_loadVar_at (A := ks L ++ c.A0) tt h4 h2 (h3 W)
  have h7 : a.eval x = _ := hx a W s
  exact ⟨v, by simp [execOp, Instr.loadAt, Instr.sureAddr, h7, h5], h6⟩
/-! ### A variable whose type is known -/
theorem Sq.allocT {rest : List Oper} {dd : Nat} {α : Type} [Rp α] {z : α} (zr : Zr c.P t z) (hn : Nat.blt dd c.n = true)
    (k : ∀ p, Sq c ops Q rest ((dd, .eq (.pointer (some ⟨p, 0, none⟩))) :: E) (⟨some p, CP.varT t z⟩ :: L)) : Sq c ops Q (⟨some dd, .alloc t, ty, pos, af, none⟩ :: rest) E L := fun a W s => by
  obtain ⟨i, zv, h1, h2, h3⟩ := zr.zero
  refine wpList_op rfl (R := fun v W' => v = .pointer (some ⟨W.heap.size, 0, none⟩) ∧ W' = W.alloc (.cells zv.cells t)) (.of_run ?_ ⟨rfl, rfl⟩) fun v W' ⟨hv, hw⟩ => ?_
  · simp [execOp, Instr.alloc, zeroValue, typeInfo, h1, h2, newVar, newRow]
  · subst hv
    subst hw
    exact k _ _ _ ((s.alloc (cp := CP.varT t z) ⟨zv.cells, rfl, (h3 _ _).2⟩).put (by simpa using hn) rfl)
theorem Sq.storeT {rest : List Oper} {p T : Nat} {β : Type} [Rp β] {b v : β} (tt : Ty c.P t β) (hx : Look c E (⟨some p, CP.varT T b⟩ :: L) x (.eq (.pointer (some ⟨p, 0, none⟩))))
    (hy : Look c E (⟨some p, CP.varT T b⟩ :: L) y (.of v)) (k : Sq c ops Q rest E (⟨some p, CP.varT T v⟩ :: L)) : Sq c ops Q (⟨none, .store t x y, ty, pos, af, none⟩ :: rest) E (⟨some p, CP.varT T b⟩ :: L) := fun a W s => by
  obtain ⟨ob, hob, cs, rfl, hrep⟩ := s.own _ (List.mem_cons_self ..)
  have h1 : cs.toList.length = Rp.size β := Rp.len hrep
  have hv := hy a W s
  have h2 := run_storeVar_at (A := ks (⟨some p, CP.varT T b⟩ :: L) ++ c.A0) tt hob (off := 0) (by simp at h1; omega) hv
  have h4 : a.eval x = _ := hx a W s
  refine wpList_op rfl (R := fun v W' => W' = W.setRow p (splice cs.toList 0 (a.eval y).cells.toList).toArray) (.of_skip ?_ rfl) fun v W' hw => ?_
  · simp [execOp, Instr.storeAt, Instr.sureAddr, h4, h2]
  · subst hw
    refine k _ _ (s.store (i := 0) (cp' := CP.varT T _) rfl hob ⟨_, rfl, ?_⟩)
    have h5 := Rp.len hv.2
    have : splice cs.toList 0 (a.eval y).cells.toList = (a.eval y).cells.toList := by
      simp only [splice, List.take_zero, List.nil_append, Nat.zero_add]
      rw [h5, ← h1, List.drop_length, List.append_nil]
    rw [List.toList_toArray, this]
    exact hv.2
theorem r_loadT {p T o : Nat} {β γ : Type} [Rp β] [Rp γ] {b : β} (l : Lens β γ) {r : γ} (tt : Ty c.P t γ) (hx : Look c E (⟨some p, CP.varT T b⟩ :: L) x (.eq (.pointer (some ⟨p, o, none⟩)))) (ho : o = l.off) (hr : l.get b = r) :
    HR c E (⟨some p, CP.varT T b⟩ :: L) ⟨d, .load t x, ty, pos, af, g⟩ (.of r) := .pure fun a W s => by
  subst ho; subst hr
  obtain ⟨ob, hob, cs, rfl, hrep⟩ := s.own _ (List.mem_cons_self ..)
  have h1 : cs.toList.length = Rp.size β := Rp.len hrep
  have hin := l.inb
  obtain ⟨v, h5, h6⟩ := run_loadVar_at (A := ks (⟨some p, CP.varT T b⟩ :: L) ++ c.A0) tt hob (off := l.off) (by simp at h1; omega) (l.get_rep hrep)
  have h7 : a.eval x = _ := hx a W s
  exact ⟨v, by simp [execOp, Instr.loadAt, Instr.sureAddr, h7, h5], h6⟩
end
end Go.Proofs.YtcglmhpembonmaaDoor

namespace Go.Proofs.YtcglmhpembonmaaDoor
open Go Gv Go.RowKit
set_option linter.unusedVariables false
set_option linter.unusedSimpArgs false
set_option maxRecDepth 100000
set_option maxHeartbeats 2000000
/-- a request whose data are told by their very value -/
structure T_cx where
  c : Int
  d : Ex
instance : Inhabited T_cx := ⟨⟨0, default⟩⟩
instance : Rp T_cx := .str (sxb Int (sxa Ex)) (fun x => (x.c, x.d)) 2
abbrev le_cx_c : Lens T_cx Int := .str sf2 0 T_cx.c fun b g => { b with c := g }
abbrev le_cx_d : Lens T_cx Ex := .str (sft sf1) 1 T_cx.d fun b g => { b with d := g }
instance : Zc Ex := ⟨[.slice none 0 0], fun A W => ⟨rfl, rfl⟩⟩
instance : Zc T_cx := ⟨Zc.cells Int ++ Zc.cells Ex, fun A W => ⟨by rfl, Zc.ok (α := Int) A W, Zc.ok (α := Ex) A W⟩⟩
theorem ty36x : Ty Tryd.prog 36 T_cx := Ty.of (by rfl) Tryd.underlying36 (by kernel_rfl)
theorem zr36x : Zr Tryd.prog 36 (default : T_cx) := Zr.of (by kernel_rfl)
theorem ty25x : Ty Tryd.prog 25 Ex := Ty.of (by rfl) Tryd.underlying25 (by kernel_rfl)
theorem fd36c : Kf Tryd.prog 36 0 le_cx_c := ⟨FdA.of Tryd.underlying36 rfl rfl ty3 rfl⟩
theorem fd36d : Kf Tryd.prog 36 1 le_cx_d := ⟨FdA.of Tryd.underlying36 rfl rfl ty25x rfl⟩
/-- the builder's zero value -/
structure T_bx where
  a : Ex
  b : Ex
instance : Inhabited T_bx := ⟨⟨⟨.pointer none⟩, ⟨.slice none 0 0⟩⟩⟩
instance : Rp T_bx := .str (sxb Ex (sxa Ex)) (fun x => (x.a, x.b)) 2
instance : Zc T_bx := ⟨[.pointer none, .slice none 0 0], fun A W => ⟨by rfl, ⟨rfl, rfl⟩, ⟨rfl, rfl⟩⟩⟩
theorem zr39x : Zr Tryd.prog 39 (default : T_bx) := Zr.of (by kernel_rfl)
theorem rep_bx {A W cs} (h : Rp.rep A W cs (default : T_bx)) : cs = [.pointer none, .slice none 0 0] := by
  obtain ⟨h1, h2, h3⟩ := h
  match cs, h1 with
  | [u, v], _ =>
    have e1 : [u] = [Value.pointer none] := h2.1
    have e2 : [v] = [Value.slice none 0 0] := h3.1
    cases e1
    cases e2
    rfl
theorem rep_cx {A W A' W' cs} {x : T_cx} (h : Rp.rep A W cs x) : Rp.rep A' W' cs x := h
/-- the cells of a request -/
theorem rep_call {A W cs} {x : T_api_Call} (h : Rp.rep A W cs x) : ∃ sv, (VP.of x.f_Data).holds A W sv ∧ ∀ A' W', Rp.rep A' W' cs (⟨x.f_Controller, ⟨sv⟩⟩ : T_cx) := by
  obtain ⟨h1, h2, h3⟩ := h
  match cs, h1 with
  | [u, v], _ =>
    obtain ⟨w, e, hs⟩ := h3
    have e : [v] = [w] := e
    cases e
    have ho : v.oneCell' = true := hs.one
    exact ⟨v, of_list.2 hs, fun A' W' => ⟨rfl, h2, ⟨by rfl, ho⟩⟩⟩
/-- what is known of a slice of requests in old memory -/
structure CallsAt (W0 : World) (A : List Nat) (vl : Value) (l : List T_api_Call) : Prop where
  len : ∃ ad cap, vl = .slice ad l.length cap
  get : ∀ k, k < l.length → ∃ b off cap sv, vl = .slice (some ⟨b, off, none⟩) l.length cap ∧ (VP.of (lget l k).f_Data).holds A W0 sv ∧
    ∀ A', ∃ cur T fz, W0.heap[b]? = some (.cells cur T fz) ∧ off + k * 2 + 2 ≤ cur.size ∧ ∀ W, Rp.rep A' W ((cur.toList.drop (off + k * 2)).take 2) (⟨(lget l k).f_Controller, ⟨sv⟩⟩ : T_cx)
theorem CallsAt.of {W0 : World} {A : List Nat} {vl : Value} {l : List T_api_Call} (h : (VP.of l).holds A W0 vl) : CallsAt W0 A vl l := by
  rcases of_list.1 h with ⟨⟨a0, h0⟩, rfl⟩ | ⟨b, off, cap, cur, T, fz, h1, h2, h3, h4, h5, h6, h7⟩
  · exact ⟨⟨a0, 0, h0⟩, fun k hk => by simp at hk⟩
  · refine ⟨⟨_, cap, h1⟩, fun k hk => ?_⟩
    have h8 := h7.2 k hk
    have hsz : Rp.size T_api_Call = 2 := rfl
    rw [hsz] at h6 h8
    have e1 : ((((cur.toList.drop off).take (l.length * 2)).drop (k * 2)).take 2) = ((cur.toList.drop (off + k * 2)).take 2) := by
      rw [List.drop_take, List.take_take, List.drop_drop, Nat.min_eq_left (by omega)]
    rw [e1] at h8
    obtain ⟨sv, g1, g2⟩ := rep_call h8
    rw [← lget_eq l hk] at g1 g2
    exact ⟨b, off, cap, sv, h1, g1, fun A' => ⟨cur, T, fz, h3, by omega, fun W => g2 A' W⟩⟩
/-- .. and of a slice of bytes -/
structure BytesAt (W0 : World) (sv : Value) (l : List (BitVec 8)) : Prop where
  len : ∃ ad cap, sv = .slice ad l.length cap
  get : ∀ k, k < l.length → ∃ b off cap, sv = .slice (some ⟨b, off, none⟩) l.length cap ∧
    ∀ A', ∃ cur T fz, W0.heap[b]? = some (.cells cur T fz) ∧ off + k * 1 + 1 ≤ cur.size ∧ ∀ W, Rp.rep A' W ((cur.toList.drop (off + k * 1)).take 1) (lget l k)
theorem BytesAt.of {W0 : World} {A : List Nat} {sv : Value} {l : List (BitVec 8)} (h : (VP.of l).holds A W0 sv) : BytesAt W0 sv l := by
  rcases of_list.1 h with ⟨⟨a0, h0⟩, rfl⟩ | ⟨b, off, cap, cur, T, fz, h1, h2, h3, h4, h5, h6, h7⟩
  · exact ⟨⟨a0, 0, h0⟩, fun k hk => by simp at hk⟩
  · refine ⟨⟨_, cap, h1⟩, fun k hk => ?_⟩
    have h8 := h7.2 k hk
    have hsz : Rp.size (BitVec 8) = 1 := rfl
    rw [hsz] at h6 h8
    have e1 : ((((cur.toList.drop off).take (l.length * 1)).drop (k * 1)).take 1) = ((cur.toList.drop (off + k * 1)).take 1) := by
      rw [List.drop_take, List.take_take, List.drop_drop, Nat.min_eq_left (by omega)]
    rw [e1, ← lget_eq l hk] at h8
    exact ⟨b, off, cap, h1, fun A' => ⟨cur, T, fz, h3, by omega, fun W => h8⟩⟩
section
variable {c : Cx} {E : List (Nat × VP)} {L : List Ent} {ops : Array Oper} {Q : Exit → Act → World → Prop} {ty : TypeId} {pos : String} {af : Array Edge}
theorem r_lenX {d : Option Tmp} {g : Option (Nat × Bool)} {x : Operand} {t : TypeId} {sv : Value} {ad : Option Addr} {n cap : Nat} {e : TypeId} (hu : c.P.underlying t = some (.slice e)) (he : sv = .slice ad n cap) (hx : Look c E L x (.of (⟨sv⟩ : Ex))) :
    HR c E L ⟨d, .call ⟨.builtin .len, #[x], #[t]⟩, ty, pos, af, g⟩ (.of (n : Int)) := by
  subst he
  exact r_lenV hu (look_xe hx)
/-- a new builder -/
theorem Sq.allocB {rest : List Oper} {dd B : Nat} (hP : c.P = Tryd.prog) (hB : c.W0.heap.size = B) (hA : ∀ k ∈ ks L ++ c.A0, k < B) (hn : Nat.blt dd c.n = true) (k : Sq c ops Q rest ((dd, VP.bld B []) :: E) L) :
    Sq c ops Q (⟨some dd, .alloc 39, ty, pos, af, none⟩ :: rest) E L := fun a W s => by
  obtain ⟨i, zv, h1, h2, h3⟩ := zr39x.zero
  have hz : zv.cells = #[.pointer none, .slice none 0 0] := by
    have := rep_bx (h3 [] W).2
    rw [← Array.toList_inj, this]
  refine wpList_op rfl (R := fun v W' => v = .pointer (some ⟨W.heap.size, 0, none⟩) ∧ W' = W.alloc (.cells zv.cells 39)) (.of_run ?_ ⟨rfl, rfl⟩) fun v W' ⟨hv, hw⟩ => ?_
  · simp [execOp, Instr.alloc, zeroValue, typeInfo, hP, h1, h2, newVar, newRow]
  · subst hv hw
    have hsz : B ≤ W.heap.size := by rw [← hB]; exact s.fr.size
    refine k _ _ ((s.world (Fr.alloc W _)).put (by simpa using hn) ⟨W.heap.size, .pointer none, .slice none 0 0, rfl, .inl rfl, hsz, by rw [hz]; exact ha_new W _, ⟨rfl, .inl ⟨rfl, rfl⟩⟩, by simp [Value.ownBlock], fun hm => ?_, fun g hg => by simp [Value.ownBlock] at hg⟩)
    have := hA _ hm
    omega
end
theorem en14f : En Tryd.prog 14 := ⟨_, Tryd.func14, rfl, by kernel_rfl⟩
theorem kb_ex {x : Value} : Kb (VP.of (⟨x⟩ : Ex)) := fun A W A' W' v h => of_ex.2 (of_ex.1 h)
theorem calls_enter {P : Program} {f : FuncId} {fn : Func} {code : Code} {n : Nat} {τs : List VP} {ρ : VP} {A : List Nat} {W : World} {vs : List Value} (hf : P.funcs[f]? = some fn) (hb : fn.body = some code) (hn : fn.ntmps = n) (hlen : Nat.ble τs.length n = true)
    (hA : ∀ k ∈ A, k < W.heap.size) (hv : HoldsAll A W τs vs) (h : Wp ⟨P, n, W, [], A, none, []⟩ (bodyPost P fn (Post ⟨P, n, W, [], A, none, []⟩ ρ)) code (params 0 τs) []) :
    Calls P f vs.toArray W fun e W' => ∃ v, e = .returned v ∧ Fr [] W W' ∧ ρ.holds A W' v :=
  calls_of_wp hf hb (wpIn_wide.1 (h _ _ (MeetsH.st (Lin := []) (a := ⟨#[], []⟩) hn hlen (fun k hk => ⟨hA k hk, by simp [ks]⟩) .nil (fun k hk => by cases hk) (fun e he => by cases he) hv)))
theorem Cs_Format {l : List T_api_Call} {r : ByteArray} (h : Ls_Format l = some r) : MeetsL G0 Tryd.prog 6 [VP.of l] (VP.of r) := fun A W vs hG hA hv => by
  match vs, hv with
  | [vl], .cons hvl .nil =>
  have hl := CallsAt.of hvl
  obtain ⟨ad, cap, hlen⟩ := hl.len
  unfold Ls_Format at h
  obtain ⟨bs, h0, rfl⟩ := Option.map_eq_some_iff.1 h
  unfold fmtM at h0
  have hGon : G0.on [] W := ⟨hG, fun k hk => by simp⟩
  refine calls_enter (τs := [VP.eq vl]) Tryd.func6 rfl Tryd.ntmps6 rfl hA (.cons rfl .nil) ?_
  subst hlen
  refine Wp.seq (Wp.reg (Sq.v (r_asg (look_str (ByteArray.mk #[]))) rfl rfl rfl (Sq.nil (To.next ?_))))
  refine Wp.seq (Wp.reg (Sq.allocB rfl rfl (fun k hk => hA k (by simpa [ks] using hk)) rfl (Sq.nil (To.next ?_))))
  refine Wp.seq (Wp.seq (Wp.reg (Sq.v (r_move (look_t rfl)) rfl rfl rfl (Sq.v (r_lenV Tryd.underlying22 (look_t rfl)) rfl rfl rfl (Sq.v (r_move (look_int 0)) rfl rfl rfl (Sq.nil (To.next (Wp.block ?_))))))))
  refine Wp.loopG (γ := Unit) (δ := Unit) h0 (fun s1 _ => [(3, VP.bld W.heap.size s1.2), (8, VP.eq (.slice ad l.length cap)), (9, VP.of (l.length : Int)), (10, VP.of s1.1)]) (fun _ _ => []) (fun _ => Exit.exit 0) (fun e _ => [(3, VP.bld W.heap.size e)]) (fun _ _ => []) () rfl (.same rfl (.same rfl (.same rfl (.same rfl .nil)))) (fun s1 r h _ => ?_) (fun _ => ?_)
  · refine Wp.seq (Wp.reg (Sq.v (r_lss (look_t rfl) (look_t rfl)) rfl rfl rfl (Sq.nil (To.next (Wp.seq ?_)))))
    refine Wp.cond (look_t rfl) (fun hc => ?_) (fun hc => ?_)
    · replace h := cond_t hc h
      obtain ⟨k, hk, h⟩ := bind_some h
      obtain ⟨b2, hb2, h⟩ := bind_some h
      cases h
      obtain ⟨b, off, cap2, sv, e1, hsv, hmem⟩ := hl.get k (idx_some hk).1
      injection e1 with e1 _ e3
      subst e1 e3
      have hby := BytesAt.of hsv
      obtain ⟨sad, scap, hslen⟩ := hby.len
      unfold lineM at hb2
      obtain ⟨y1, hy1, hb2⟩ := bind_some hb2
      obtain ⟨y2, hy2, hb2⟩ := bind_some hb2
      obtain ⟨b1, hb1, hb2⟩ := bind_some hb2
      obtain ⟨b4, hb4, hb2⟩ := bind_some hb2
      refine Wp.skip (To.next (Wp.seq (Wp.block (Wp.seq (Wp.reg ?_)))))
      refine Sq.v (r_iaV Tryd.underlying22 ty36 (look_t rfl) (look_t rfl) hk) rfl rfl rfl ?_
      refine Sq.v (r_ldM ty36x (look_t rfl) hmem rfl) rfl rfl rfl ?_
      refine Sq.allocT zr36x rfl fun p => Sq.storeT ty36x (look_t rfl) (look_t rfl) (Sq.nil (To.next (Wp.seq (Wp.reg ?_))))
      refine Sq.v (r_fa fd36c.fd (look_t rfl)) rfl rfl rfl (Sq.v (r_loadT le_cx_c ty3 (look_t rfl) rfl rfl) rfl rfl rfl ?_)
      refine Sq.v (r_callG hGon en14f (itoa_c hy1) ⟨look_t rfl, trivial⟩) rfl rfl rfl (Sq.v (r_cat (look_t rfl) (look_str (ByteArray.mk #[32])) hy2) rfl rfl rfl ?_)
      refine Sq.wstr (E2 := [(5, VP.eq (.pointer (some ⟨p, 0, none⟩))), (8, VP.eq (.slice (some ⟨b, off, none⟩) l.length cap)), (9, VP.of (l.length : Int)), (10, VP.of s1.1)]) rfl rfl hA (look_t rfl) hb1 rfl (.same rfl (.same rfl (.same rfl (.same rfl .nil)))) (.cons kb_eq (.cons kb_eq (.cons kb_int (.cons kb_int .nil)))) (.cons rfl rfl (fun _ _ _ _ _ h => rep_cx h) .nil) rfl (Sq.nil (To.next (Wp.seq ?_)))
      refine Wp.seq (Wp.reg (Sq.v (r_fa fd36d.fd (look_t rfl)) rfl rfl rfl (Sq.v (r_loadT le_cx_d ty25x (look_t rfl) rfl rfl) rfl rfl rfl ?_)))
      refine Sq.v (r_lenX Tryd.underlying25 hslen (look_t rfl)) rfl rfl rfl (Sq.v (r_move (look_int 0)) rfl rfl rfl (Sq.nil (To.next (Wp.block ?_))))
      refine Wp.loopG (γ := Unit) (δ := Unit) hb4 (fun s2 _ => [(3, VP.bld W.heap.size s2.2), (8, VP.eq (.slice (some ⟨b, off, none⟩) l.length cap)), (9, VP.of (l.length : Int)), (10, VP.of s1.1), (20, VP.of (⟨sv⟩ : Ex)), (21, VP.of ((lget l k).f_Data.length : Int)), (22, VP.of s2.1)]) (fun _ _ => [⟨some p, CP.varT 36 (⟨(lget l k).f_Controller, ⟨sv⟩⟩ : T_cx)⟩]) (fun _ => Exit.exit 2)
        (fun e _ => [(3, VP.bld W.heap.size e), (8, VP.eq (.slice (some ⟨b, off, none⟩) l.length cap)), (9, VP.of (l.length : Int)), (10, VP.of s1.1)]) (fun _ _ => [⟨some p, CP.varT 36 (⟨(lget l k).f_Controller, ⟨sv⟩⟩ : T_cx)⟩]) () rfl (.same rfl (.same rfl (.same rfl (.same rfl (.same rfl (.same rfl (.same rfl .nil))))))) (fun s2 r h _ => ?_) (fun _ => ?_)
      · refine Wp.seq (Wp.reg (Sq.v (r_lss (look_t rfl) (look_t rfl)) rfl rfl rfl (Sq.nil (To.next (Wp.seq ?_)))))
        refine Wp.cond (look_t rfl) (fun hc2 => ?_) (fun hc2 => ?_)
        · replace h := cond_t hc2 h
          obtain ⟨k2, hk2, h⟩ := bind_some h
          obtain ⟨y3, hy3, h⟩ := bind_some h
          obtain ⟨c2, hc2', h⟩ := bind_some h
          obtain ⟨y4, hy4, h⟩ := bind_some h
          obtain ⟨c3, hc3, h⟩ := bind_some h
          cases h
          obtain ⟨bb, boff, bcap, e2, hm2⟩ := hby.get k2 (idx_some hk2).1
          subst e2
          refine Wp.skip (To.next (Wp.seq (Wp.block (Wp.seq (Wp.reg ?_)))))
          refine Sq.v (r_iaV Tryd.underlying25 ty5 (look_xe (look_t rfl)) (look_t rfl) hk2) rfl rfl rfl ?_
          refine Sq.v (r_ldM ty5 (look_t rfl) hm2 rfl) rfl rfl rfl (Sq.v (r_asg (look_t rfl)) rfl rfl rfl (Sq.nil (To.next (Wp.seq (Wp.reg ?_)))))
          refine Sq.v (r_move (look_t rfl)) rfl rfl rfl (Sq.v (r_shr8 (look_t rfl) (look_u64 4 rfl)) rfl rfl rfl (Sq.v (r_idxs8 Tryd.underlying9 (look_str hexd) (look_t rfl) hy3) rfl rfl rfl ?_))
          refine Sq.wbyte (E2 := [(7, VP.of (lget (lget l k).f_Data k2)), (8, VP.eq (.slice (some ⟨b, off, none⟩) l.length cap)), (9, VP.of (l.length : Int)), (10, VP.of s1.1), (20, VP.of (⟨.slice (some ⟨bb, boff, none⟩) (lget l k).f_Data.length bcap⟩ : Ex)), (21, VP.of ((lget l k).f_Data.length : Int)), (22, VP.of s2.1)]) rfl rfl hA (look_t rfl) hc2' rfl (.same rfl (.same rfl (.same rfl (.same rfl (.same rfl (.same rfl (.same rfl .nil))))))) (.cons kb_u8 (.cons kb_eq (.cons kb_int (.cons kb_int (.cons kb_ex (.cons kb_int (.cons kb_int .nil))))))) (.cons rfl rfl (fun _ _ _ _ _ h => rep_cx h) .nil) rfl (Sq.nil (To.next (Wp.reg ?_)))
          refine Sq.v (r_move (look_t rfl)) rfl rfl rfl (Sq.v (r_and8 (look_t rfl) (look_u8 15 rfl)) rfl rfl rfl (Sq.v (r_idxs8 Tryd.underlying9 (look_str hexd) (look_t rfl) hy4) rfl rfl rfl ?_))
          refine Sq.wbyte (E2 := [(8, VP.eq (.slice (some ⟨b, off, none⟩) l.length cap)), (9, VP.of (l.length : Int)), (10, VP.of s1.1), (20, VP.of (⟨.slice (some ⟨bb, boff, none⟩) (lget l k).f_Data.length bcap⟩ : Ex)), (21, VP.of ((lget l k).f_Data.length : Int)), (22, VP.of s2.1)]) rfl rfl hA (look_t rfl) hc3 rfl (.same rfl (.same rfl (.same rfl (.same rfl (.same rfl (.same rfl .nil)))))) (.cons kb_eq (.cons kb_int (.cons kb_int (.cons kb_ex (.cons kb_int (.cons kb_int .nil)))))) (.cons rfl rfl (fun _ _ _ _ _ h => rep_cx h) .nil) rfl (Sq.nil (To.bnorm (To.next (Wp.reg ?_))))
          refine Sq.v (r_add (look_t rfl) (look_int 1)) rfl rfl rfl (Sq.v (r_move (look_t rfl)) rfl rfl rfl (Sq.nil ?_))
          exact To.roundG () 0 rfl (.same rfl (.same rfl (.same rfl (.same rfl (.same rfl (.same rfl (.same rfl .nil)))))))
        · replace h := cond_f hc2 h
          refine Wp.exit (To.exit ?_)
          cases h
          exact To.leaveG () 0 rfl (by simp) rfl (.same rfl (.same rfl (.same rfl (.same rfl .nil))))
      · refine To.bexit (To.next (Wp.reg ?_))
        refine Sq.wstr (E2 := [(8, VP.eq (.slice (some ⟨b, off, none⟩) l.length cap)), (9, VP.of (l.length : Int)), (10, VP.of s1.1)]) (s0 := ByteArray.mk #[10]) rfl rfl hA (look_str _) hb2 rfl (.same rfl (.same rfl (.same rfl .nil))) (.cons kb_eq (.cons kb_int (.cons kb_int .nil))) (.cons rfl rfl (fun _ _ _ _ _ h => rep_cx h) .nil) rfl (Sq.nil (To.bnorm (To.next (Wp.reg ?_))))
        refine Sq.v (r_add (look_t rfl) (look_int 1)) rfl rfl rfl (Sq.v (r_move (look_t rfl)) rfl rfl rfl (Sq.nil ?_))
        exact To.roundG () 1 rfl (.same rfl (.same rfl (.same rfl (.same rfl .nil))))
    · replace h := cond_f hc h
      refine Wp.exit (To.exit ?_)
      cases h
      exact To.leaveG () 0 rfl (by simp) rfl (.same rfl .nil)
  · refine To.bexit (To.next (Wp.seq (Wp.reg ?_)))
    refine Sq.wstring (E2 := []) rfl rfl hA rfl .nil .nil .nil rfl (Sq.v (r_asg (look_t rfl)) rfl rfl rfl (Sq.nil (To.next (Wp.ret ?_))))
    exact To.end1 rfl (rv_t rfl)
end Go.Proofs.YtcglmhpembonmaaDoor

