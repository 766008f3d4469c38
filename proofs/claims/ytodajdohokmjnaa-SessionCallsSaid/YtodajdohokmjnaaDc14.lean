/-
  Printed by the decompiler (dec.py) out of the seat's translation. Each function meets its functional program. Conditions: none.
-/
import Derived.Test.YtodajdohokmjnaaDc6
import Derived.Test.YtodajdohokmjnaaDc8
namespace Go.Proofs.Ytodajdohokmjnaa
open Go Gv
set_option linter.unusedVariables false
set_option linter.unusedSimpArgs false
set_option maxRecDepth 100000
set_option maxHeartbeats 2000000 in
theorem C_mcase_Codes_roles {x0 : T_mcase_Codes} {x1 : List T_api_Table} {pp0 : Nat} {r : (List T_api_Role) × T_mcase_Codes} (h : L_mcase_Codes_roles x0 x1 = some r) : MeetsO Try.prog 53 [VP.eq (.pointer (some ⟨pp0, 0, none⟩)), VP.of (x1)] [⟨some pp0, .var (x0 : T_mcase_Codes)⟩] (δ := Unit) (fun d => VP.of (r.1)) (fun d => [⟨some pp0, .var (r.2 : T_mcase_Codes)⟩]) := by
  unfold L_mcase_Codes_roles at h
  refine MeetsO.of Try.func53 rfl Try.ntmps53 rfl fun W A => ?_
  refine Wp.seq ?_
  refine Wp.reg ?_
  refine Sq.v (r_asg (look_nil (α := T_api_Role))) rfl rfl rfl ?_
  refine Sq.nil ?_
  refine To.next ?_
  refine Wp.seq ?_
  refine Wp.reg ?_
  refine Sq.v (r_bsl (r := ([1, 2, 3, 4, 5, 6] : List Int)) Try.underlying64 ty3 zr3 rfl rfl (.cons (by simp) (look_int 1) (.cons (by simp) (look_int 2) (.cons (by simp) (look_int 3) (.cons (by simp) (look_int 4) (.cons (by simp) (look_int 5) (.cons (by simp) (look_int 6) (.nil)))))))) rfl rfl rfl ?_
  refine Sq.v (r_buildX (b := ({ (default : T_api_Role) with f_ID := 1, f_Name := ByteArray.mk #[97, 108, 108], f_Actions := ([1, 2, 3, 4, 5, 6] : List Int), f_Quota := 40, f_Audit := true } : T_api_Role)) [2] zh207_2 rfl bu207 zr207 (.cons le_T_api_Role_ID rfl (look_int 1) rfl (by rfl) (.cons le_T_api_Role_Name rfl (look_str (ByteArray.mk #[97, 108, 108])) rfl (by rfl) (.cons le_T_api_Role_Actions rfl (look_t rfl) rfl (by rfl) (.cons le_T_api_Role_Quota rfl (look_int 40) rfl (by rfl) (.cons le_T_api_Role_Audit rfl (look_bool true) rfl (by rfl) (.nil))))))) rfl rfl rfl ?_
  refine Sq.own (α := T_api_Grant) 209 ?_
  refine Sq.allocX (z := (default : T_api_Role)) [2] zh207_2 zr207 rfl fun p1 => ?_
  refine Sq.own (α := T_api_Grant) 209 ?_
  refine Sq.storeW (i := 1) ty207 (look_t rfl) (look_t rfl) rfl ?_
  refine Sq.nil ?_
  refine To.next ?_
  refine Wp.seq ?_
  refine Wp.reg ?_
  refine Sq.v (r_move (look_t rfl)) rfl rfl rfl ?_
  refine Sq.bring 3 rfl ?_
  obtain ⟨y1, hy1, h⟩ := bind_some h
  refine Sq.callO (Lin := [⟨some pp0, .var (x0 : T_mcase_Codes)⟩]) (Lr := [⟨none, .row 209 (([] : List T_api_Grant) : List T_api_Grant) 0⟩, ⟨some p1, .varX (({ (default : T_api_Role) with f_ID := 1, f_Name := ByteArray.mk #[97, 108, 108], f_Actions := ([1, 2, 3, 4, 5, 6] : List Int), f_Quota := 40, f_Audit := true } : T_api_Role) : T_api_Role) [(2, slv none ([] : List T_api_Grant).length 0)]⟩, ⟨none, .row 209 (([] : List T_api_Grant) : List T_api_Grant) 0⟩]) en49 (C_mcase_Codes_Next hy1) ⟨look_t rfl, look_int 3, trivial⟩ rfl fun q1 => ?_
  refine Sq.v (r_add (look_int 3) (look_t rfl)) rfl rfl rfl ?_
  refine Sq.v (r_bsl (r := ([1, 2, w64 (3 + y1.1)] : List Int)) Try.underlying64 ty3 zr3 rfl rfl (.cons (by simp) (look_int 1) (.cons (by simp) (look_int 2) (.cons (by simp) (look_t rfl) (.nil))))) rfl rfl rfl ?_
  refine Sq.v (r_move (look_t rfl)) rfl rfl rfl ?_
  refine Sq.bring 0 rfl ?_
  obtain ⟨y2, hy2, h⟩ := bind_some h
  refine Sq.callO (Lin := [⟨some pp0, .var (y1.2 : T_mcase_Codes)⟩]) (Lr := [⟨none, .row 209 (([] : List T_api_Grant) : List T_api_Grant) 0⟩, ⟨some p1, .varX (({ (default : T_api_Role) with f_ID := 1, f_Name := ByteArray.mk #[97, 108, 108], f_Actions := ([1, 2, 3, 4, 5, 6] : List Int), f_Quota := 40, f_Audit := true } : T_api_Role) : T_api_Role) [(2, slv none ([] : List T_api_Grant).length 0)]⟩, ⟨none, .row 209 (([] : List T_api_Grant) : List T_api_Grant) 0⟩]) en49 (C_mcase_Codes_Next hy2) ⟨look_t rfl, look_int 6, trivial⟩ rfl fun q2 => ?_
  refine Sq.v (r_add (look_int 1) (look_t rfl)) rfl rfl rfl ?_
  refine Sq.v (r_buildX (b := ({ (default : T_api_Role) with f_ID := 2, f_Name := ByteArray.mk #[115, 111, 109, 101], f_Actions := ([1, 2, w64 (3 + y1.1)] : List Int), f_Quota := w64 (1 + y2.1) } : T_api_Role)) [2] zh207_2 rfl bu207 zr207 (.cons le_T_api_Role_ID rfl (look_int 2) rfl (by rfl) (.cons le_T_api_Role_Name rfl (look_str (ByteArray.mk #[115, 111, 109, 101])) rfl (by rfl) (.cons le_T_api_Role_Actions rfl (look_t rfl) rfl (by rfl) (.cons le_T_api_Role_Quota rfl (look_t rfl) rfl (by rfl) (.nil)))))) rfl rfl rfl ?_
  refine Sq.own (α := T_api_Grant) 209 ?_
  refine Sq.allocX (z := (default : T_api_Role)) [2] zh207_2 zr207 rfl fun p2 => ?_
  refine Sq.own (α := T_api_Grant) 209 ?_
  refine Sq.storeW (i := 1) ty207 (look_t rfl) (look_t rfl) rfl ?_
  refine Sq.nil ?_
  refine To.next ?_
  refine Wp.seq ?_
  refine Wp.reg ?_
  refine Sq.v (r_move (look_t rfl)) rfl rfl rfl ?_
  refine Sq.bring 3 rfl ?_
  obtain ⟨y3, hy3, h⟩ := bind_some h
  refine Sq.callO (Lin := [⟨some pp0, .var (y2.2 : T_mcase_Codes)⟩]) (Lr := [⟨none, .row 209 (([] : List T_api_Grant) : List T_api_Grant) 0⟩, ⟨some p2, .varX (({ (default : T_api_Role) with f_ID := 2, f_Name := ByteArray.mk #[115, 111, 109, 101], f_Actions := ([1, 2, w64 (3 + y1.1)] : List Int), f_Quota := w64 (1 + y2.1) } : T_api_Role) : T_api_Role) [(2, slv none ([] : List T_api_Grant).length 0)]⟩, ⟨none, .row 209 (([] : List T_api_Grant) : List T_api_Grant) 0⟩, ⟨none, .row 209 (([] : List T_api_Grant) : List T_api_Grant) 0⟩, ⟨some p1, .varX (({ (default : T_api_Role) with f_ID := 1, f_Name := ByteArray.mk #[97, 108, 108], f_Actions := ([1, 2, 3, 4, 5, 6] : List Int), f_Quota := 40, f_Audit := true } : T_api_Role) : T_api_Role) [(2, slv none ([] : List T_api_Grant).length 0)]⟩, ⟨none, .row 209 (([] : List T_api_Grant) : List T_api_Grant) 0⟩]) en49 (C_mcase_Codes_Next hy3) ⟨look_t rfl, look_int 6, trivial⟩ rfl fun q3 => ?_
  refine Sq.v (r_add (look_int 1) (look_t rfl)) rfl rfl rfl ?_
  refine Sq.v (r_bsl (r := [w64 (1 + y3.1)]) Try.underlying64 ty3 zr3 rfl rfl (.cons (by simp) (look_t rfl) (.nil))) rfl rfl rfl ?_
  refine Sq.v (r_move (look_t rfl)) rfl rfl rfl ?_
  refine Sq.bring 0 rfl ?_
  obtain ⟨y4, hy4, h⟩ := bind_some h
  refine Sq.callO (Lin := [⟨some pp0, .var (y3.2 : T_mcase_Codes)⟩]) (Lr := [⟨none, .row 209 (([] : List T_api_Grant) : List T_api_Grant) 0⟩, ⟨some p2, .varX (({ (default : T_api_Role) with f_ID := 2, f_Name := ByteArray.mk #[115, 111, 109, 101], f_Actions := ([1, 2, w64 (3 + y1.1)] : List Int), f_Quota := w64 (1 + y2.1) } : T_api_Role) : T_api_Role) [(2, slv none ([] : List T_api_Grant).length 0)]⟩, ⟨none, .row 209 (([] : List T_api_Grant) : List T_api_Grant) 0⟩, ⟨none, .row 209 (([] : List T_api_Grant) : List T_api_Grant) 0⟩, ⟨some p1, .varX (({ (default : T_api_Role) with f_ID := 1, f_Name := ByteArray.mk #[97, 108, 108], f_Actions := ([1, 2, 3, 4, 5, 6] : List Int), f_Quota := 40, f_Audit := true } : T_api_Role) : T_api_Role) [(2, slv none ([] : List T_api_Grant).length 0)]⟩, ⟨none, .row 209 (([] : List T_api_Grant) : List T_api_Grant) 0⟩]) en49 (C_mcase_Codes_Next hy4) ⟨look_t rfl, look_int 4, trivial⟩ rfl fun q4 => ?_
  refine Sq.v (r_buildX (b := ({ (default : T_api_Role) with f_ID := 7, f_Name := ByteArray.mk #[102, 101, 119], f_Actions := [w64 (1 + y3.1)], f_Quota := y4.1 } : T_api_Role)) [2] zh207_2 rfl bu207 zr207 (.cons le_T_api_Role_ID rfl (look_int 7) rfl (by rfl) (.cons le_T_api_Role_Name rfl (look_str (ByteArray.mk #[102, 101, 119])) rfl (by rfl) (.cons le_T_api_Role_Actions rfl (look_t rfl) rfl (by rfl) (.cons le_T_api_Role_Quota rfl (look_t rfl) rfl (by rfl) (.nil)))))) rfl rfl rfl ?_
  refine Sq.own (α := T_api_Grant) 209 ?_
  refine Sq.allocX (z := (default : T_api_Role)) [2] zh207_2 zr207 rfl fun p3 => ?_
  refine Sq.own (α := T_api_Grant) 209 ?_
  refine Sq.storeW (i := 1) ty207 (look_t rfl) (look_t rfl) rfl ?_
  refine Sq.nil ?_
  refine To.next ?_
  refine Wp.seq ?_
  refine Wp.seq ?_
  refine Wp.reg ?_
  refine Sq.v (r_move (look_t rfl)) rfl rfl rfl ?_
  refine Sq.v (r_len Try.underlying28 (look_t rfl)) rfl rfl rfl ?_
  refine Sq.v (r_move (look_int 0)) rfl rfl rfl ?_
  refine Sq.nil ?_
  refine To.next ?_
  refine Wp.block ?_
  obtain ⟨e1, hl, h⟩ := bind_some h
  refine Wp.loopG (σ := Int × T_api_Role × (List T_api_Grant) × T_mcase_Codes × T_api_Role × (List T_api_Grant) × T_api_Role × (List T_api_Grant)) (ε := (Int × Bool × T_api_Role × (List T_api_Grant) × T_mcase_Codes × T_api_Role × (List T_api_Grant) × T_api_Role × (List T_api_Grant))) (γ := (Option Nat × Nat) × (Option Nat × Nat) × (Option Nat × Nat)) (δ := (Option Nat × Nat) × (Option Nat × Nat) × (Option Nat × Nat)) hl (fun s1 g1 => [(0, VP.eq (.pointer (some ⟨pp0, 0, none⟩))), (1, VP.of (x1)), (4, VP.of ([] : List T_api_Role)), (5, VP.eq (.pointer (some ⟨p1, 0, none⟩))), (6, VP.eq (.pointer (some ⟨p2, 0, none⟩))), (7, VP.eq (.pointer (some ⟨p3, 0, none⟩))), (30, VP.of (x1)), (31, VP.of (x1.length : Int)), (32, VP.of (s1.1))]) (fun s1 g1 => [⟨none, .row 209 (([] : List T_api_Grant) : List T_api_Grant) 0⟩, ⟨some p3, .varX (s1.2.1 : T_api_Role) [(2, slv g1.1.1 s1.2.2.1.length g1.1.2)]⟩, ⟨g1.1.1, .row 209 (s1.2.2.1 : List T_api_Grant) g1.1.2⟩, ⟨some pp0, .var (s1.2.2.2.1 : T_mcase_Codes)⟩, ⟨none, .row 209 (([] : List T_api_Grant) : List T_api_Grant) 0⟩, ⟨some p2, .varX (s1.2.2.2.2.1 : T_api_Role) [(2, slv g1.2.1.1 s1.2.2.2.2.2.1.length g1.2.1.2)]⟩, ⟨g1.2.1.1, .row 209 (s1.2.2.2.2.2.1 : List T_api_Grant) g1.2.1.2⟩, ⟨none, .row 209 (([] : List T_api_Grant) : List T_api_Grant) 0⟩, ⟨some p1, .varX (s1.2.2.2.2.2.2.1 : T_api_Role) [(2, slv g1.2.2.1 s1.2.2.2.2.2.2.2.length g1.2.2.2)]⟩, ⟨g1.2.2.1, .row 209 (s1.2.2.2.2.2.2.2 : List T_api_Grant) g1.2.2.2⟩]) (fun q5 => Exit.exit 0) (fun q5 g1 => [(0, VP.eq (.pointer (some ⟨pp0, 0, none⟩))), (1, VP.of (x1)), (4, VP.of ([] : List T_api_Role)), (5, VP.eq (.pointer (some ⟨p1, 0, none⟩))), (6, VP.eq (.pointer (some ⟨p2, 0, none⟩))), (7, VP.eq (.pointer (some ⟨p3, 0, none⟩))), (30, VP.of (x1)), (31, VP.of (x1.length : Int)), (32, VP.of (q5.1)), (33, VP.of (q5.2.1))]) (fun q5 g1 => [⟨none, .row 209 (([] : List T_api_Grant) : List T_api_Grant) 0⟩, ⟨some p3, .varX (q5.2.2.1 : T_api_Role) [(2, slv g1.1.1 q5.2.2.2.1.length g1.1.2)]⟩, ⟨g1.1.1, .row 209 (q5.2.2.2.1 : List T_api_Grant) g1.1.2⟩, ⟨some pp0, .var (q5.2.2.2.2.1 : T_mcase_Codes)⟩, ⟨none, .row 209 (([] : List T_api_Grant) : List T_api_Grant) 0⟩, ⟨some p2, .varX (q5.2.2.2.2.2.1 : T_api_Role) [(2, slv g1.2.1.1 q5.2.2.2.2.2.2.1.length g1.2.1.2)]⟩, ⟨g1.2.1.1, .row 209 (q5.2.2.2.2.2.2.1 : List T_api_Grant) g1.2.1.2⟩, ⟨none, .row 209 (([] : List T_api_Grant) : List T_api_Grant) 0⟩, ⟨some p1, .varX (q5.2.2.2.2.2.2.2.1 : T_api_Role) [(2, slv g1.2.2.1 q5.2.2.2.2.2.2.2.2.length g1.2.2.2)]⟩, ⟨g1.2.2.1, .row 209 (q5.2.2.2.2.2.2.2.2 : List T_api_Grant) g1.2.2.2⟩]) ((none, 0), (none, 0), (none, 0)) rfl (.same rfl (.same rfl (.same rfl (.same rfl (.same rfl (.same rfl (.same rfl (.same rfl (.same rfl .nil))))))))) (fun s1 r h g1 => ?_) (fun g1 => ?_)
  · clear hl
    refine Wp.seq ?_
    refine Wp.reg ?_
    refine Sq.v (r_lss (look_t rfl) (look_t rfl)) rfl rfl rfl ?_
    refine Sq.nil ?_
    refine To.next ?_
    refine Wp.seq ?_
    refine Wp.cond (look_t rfl) (fun hc => ?_) (fun hc => ?_)
    · replace h := cond_t hc h
      refine Wp.skip ?_
      refine To.next ?_
      refine Wp.seq ?_
      refine Wp.block ?_
      refine Wp.seq ?_
      refine Wp.reg ?_
      obtain ⟨k1, hk1, h⟩ := bind_some h
      refine Sq.v (r_ias (k := k1) Try.underlying28 ty136 (look_t rfl) (look_t rfl) (idx_some hk1)) rfl rfl rfl ?_
      refine Sq.v (r_loadp ty136 (look_t rfl)) rfl rfl rfl ?_
      refine Sq.alloc zr136 rfl fun p4 => ?_
      refine Sq.store (i := 0) (Lens.id T_api_Table) (v := (lget x1 k1 : T_api_Table)) (b' := (lget x1 k1 : T_api_Table)) ty136 (look_t rfl) (look_t rfl) rfl rfl rfl ?_
      refine Sq.nil ?_
      refine To.next ?_
      refine Wp.seq ?_
      refine Wp.reg ?_
      refine Sq.v (r_fa fd136_2 (look_t rfl)) rfl rfl rfl ?_
      refine Sq.v (r_load (i := 0) ((Lens.id T_api_Table).comp le_T_api_Table_Keys) (r := (lget x1 k1).f_Keys) ty134 (look_t rfl) rfl rfl rfl) rfl rfl rfl ?_
      refine Sq.v (r_len Try.underlying134 (look_t rfl)) rfl rfl rfl ?_
      obtain ⟨y5, hy5, h⟩ := bind_some h
      refine Sq.mks Try.underlying96 ty4 zr4 rfl (by kernel_rfl) (look_t rfl) (look_t rfl) hy5 rfl fun key1 => ?_
      refine Sq.v (r_asg (look_t rfl)) rfl rfl rfl ?_
      refine Sq.nil ?_
      refine To.next ?_
      refine Wp.seq ?_
      refine Wp.reg ?_
      refine Sq.v (r_fa fd136_2 (look_t rfl)) rfl rfl rfl ?_
      refine Sq.v (r_load (i := 1) ((Lens.id T_api_Table).comp le_T_api_Table_Keys) (r := (lget x1 k1).f_Keys) ty134 (look_t rfl) rfl rfl rfl) rfl rfl rfl ?_
      refine Sq.v (r_len Try.underlying134 (look_t rfl)) rfl rfl rfl ?_
      obtain ⟨y6, hy6, h⟩ := bind_some h
      refine Sq.mks Try.underlying96 ty4 zr4 rfl (by kernel_rfl) (look_t rfl) (look_t rfl) hy6 rfl fun key2 => ?_
      refine Sq.v (r_asg (look_t rfl)) rfl rfl rfl ?_
      refine Sq.nil ?_
      refine To.next ?_
      refine Wp.seq ?_
      refine Wp.seq ?_
      refine Wp.reg ?_
      refine Sq.v (r_move (look_t rfl)) rfl rfl rfl ?_
      refine Sq.v (r_lenO (i := 1) Try.underlying96 (look_t rfl) rfl rfl) rfl rfl rfl ?_
      refine Sq.v (r_move (look_int 0)) rfl rfl rfl ?_
      refine Sq.nil ?_
      refine To.next ?_
      refine Wp.block ?_
      obtain ⟨e2, hl, h⟩ := bind_some h
      refine Wp.loopG (σ := Int × (List Bool) × (List Bool) × T_mcase_Codes) (ε := (Int × Bool × (List Bool) × (List Bool) × T_mcase_Codes)) (γ := (Option Nat × Nat) × (Option Nat × Nat)) (δ := (Option Nat × Nat) × (Option Nat × Nat)) hl (fun s2 g2 => [(0, VP.eq (.pointer (some ⟨pp0, 0, none⟩))), (1, VP.of (x1)), (4, VP.of ([] : List T_api_Role)), (5, VP.eq (.pointer (some ⟨p1, 0, none⟩))), (6, VP.eq (.pointer (some ⟨p2, 0, none⟩))), (7, VP.eq (.pointer (some ⟨p3, 0, none⟩))), (9, VP.eq (.pointer (some ⟨p4, 0, none⟩))), (10, VP.eq (slv g2.2.1 s2.2.2.1.length g2.2.2)), (11, VP.eq (slv g2.1.1 s2.2.1.length g2.1.2)), (30, VP.of (x1)), (31, VP.of (x1.length : Int)), (32, VP.of (s1.1)), (33, VP.of (decide (s1.1 < (x1.length : Int)))), (45, VP.of (y5.length : Int)), (46, VP.of (s2.1))]) (fun s2 g2 => [⟨g2.1.1, .row 4 (s2.2.1 : List Bool) g2.1.2⟩, ⟨g2.2.1, .row 4 (s2.2.2.1 : List Bool) g2.2.2⟩, ⟨some p4, .var (lget x1 k1 : T_api_Table)⟩, ⟨none, .row 209 (([] : List T_api_Grant) : List T_api_Grant) 0⟩, ⟨some p3, .varX (s1.2.1 : T_api_Role) [(2, slv g1.1.1 s1.2.2.1.length g1.1.2)]⟩, ⟨g1.1.1, .row 209 (s1.2.2.1 : List T_api_Grant) g1.1.2⟩, ⟨some pp0, .var (s2.2.2.2 : T_mcase_Codes)⟩, ⟨none, .row 209 (([] : List T_api_Grant) : List T_api_Grant) 0⟩, ⟨some p2, .varX (s1.2.2.2.2.1 : T_api_Role) [(2, slv g1.2.1.1 s1.2.2.2.2.2.1.length g1.2.1.2)]⟩, ⟨g1.2.1.1, .row 209 (s1.2.2.2.2.2.1 : List T_api_Grant) g1.2.1.2⟩, ⟨none, .row 209 (([] : List T_api_Grant) : List T_api_Grant) 0⟩, ⟨some p1, .varX (s1.2.2.2.2.2.2.1 : T_api_Role) [(2, slv g1.2.2.1 s1.2.2.2.2.2.2.2.length g1.2.2.2)]⟩, ⟨g1.2.2.1, .row 209 (s1.2.2.2.2.2.2.2 : List T_api_Grant) g1.2.2.2⟩]) (fun q6 => Exit.exit 2) (fun q6 g2 => [(0, VP.eq (.pointer (some ⟨pp0, 0, none⟩))), (1, VP.of (x1)), (4, VP.of ([] : List T_api_Role)), (5, VP.eq (.pointer (some ⟨p1, 0, none⟩))), (6, VP.eq (.pointer (some ⟨p2, 0, none⟩))), (7, VP.eq (.pointer (some ⟨p3, 0, none⟩))), (9, VP.eq (.pointer (some ⟨p4, 0, none⟩))), (10, VP.eq (slv g2.2.1 q6.2.2.2.1.length g2.2.2)), (11, VP.eq (slv g2.1.1 q6.2.2.1.length g2.1.2)), (30, VP.of (x1)), (31, VP.of (x1.length : Int)), (32, VP.of (s1.1)), (33, VP.of (decide (s1.1 < (x1.length : Int)))), (45, VP.of (y5.length : Int)), (46, VP.of (q6.1)), (47, VP.of (q6.2.1))]) (fun q6 g2 => [⟨g2.1.1, .row 4 (q6.2.2.1 : List Bool) g2.1.2⟩, ⟨g2.2.1, .row 4 (q6.2.2.2.1 : List Bool) g2.2.2⟩, ⟨some p4, .var (lget x1 k1 : T_api_Table)⟩, ⟨none, .row 209 (([] : List T_api_Grant) : List T_api_Grant) 0⟩, ⟨some p3, .varX (s1.2.1 : T_api_Role) [(2, slv g1.1.1 s1.2.2.1.length g1.1.2)]⟩, ⟨g1.1.1, .row 209 (s1.2.2.1 : List T_api_Grant) g1.1.2⟩, ⟨some pp0, .var (q6.2.2.2.2 : T_mcase_Codes)⟩, ⟨none, .row 209 (([] : List T_api_Grant) : List T_api_Grant) 0⟩, ⟨some p2, .varX (s1.2.2.2.2.1 : T_api_Role) [(2, slv g1.2.1.1 s1.2.2.2.2.2.1.length g1.2.1.2)]⟩, ⟨g1.2.1.1, .row 209 (s1.2.2.2.2.2.1 : List T_api_Grant) g1.2.1.2⟩, ⟨none, .row 209 (([] : List T_api_Grant) : List T_api_Grant) 0⟩, ⟨some p1, .varX (s1.2.2.2.2.2.2.1 : T_api_Role) [(2, slv g1.2.2.1 s1.2.2.2.2.2.2.2.length g1.2.2.2)]⟩, ⟨g1.2.2.1, .row 209 (s1.2.2.2.2.2.2.2 : List T_api_Grant) g1.2.2.2⟩]) ((key2, y6.length), (key1, y5.length)) rfl (.same rfl (.same rfl (.same rfl (.same rfl (.same rfl (.same rfl (.same rfl (.same rfl (.same rfl (.same rfl (.same rfl (.same rfl (.same rfl (.same rfl (.same rfl .nil))))))))))))))) (fun s2 r h g2 => ?_) (fun g2 => ?_)
      · clear hl
        refine Wp.seq ?_
        refine Wp.reg ?_
        refine Sq.v (r_lss (look_t rfl) (look_t rfl)) rfl rfl rfl ?_
        refine Sq.nil ?_
        refine To.next ?_
        refine Wp.seq ?_
        refine Wp.cond (look_t rfl) (fun hc => ?_) (fun hc => ?_)
        · replace h := cond_t hc h
          refine Wp.skip ?_
          refine To.next ?_
          refine Wp.seq ?_
          refine Wp.block ?_
          refine Wp.seq ?_
          refine Wp.reg ?_
          refine Sq.v (r_move (look_t rfl)) rfl rfl rfl ?_
          refine Sq.v (r_asg (look_t rfl)) rfl rfl rfl ?_
          refine Sq.nil ?_
          refine To.next ?_
          refine Wp.reg ?_
          refine Sq.v (r_move (look_t rfl)) rfl rfl rfl ?_
          refine Sq.v (r_move (look_t rfl)) rfl rfl rfl ?_
          refine Sq.v (r_move (look_t rfl)) rfl rfl rfl ?_
          refine Sq.v (r_move (look_t rfl)) rfl rfl rfl ?_
          refine Sq.v (r_move (look_t rfl)) rfl rfl rfl ?_
          refine Sq.bring 6 rfl ?_
          obtain ⟨y7, hy7, h⟩ := bind_some h
          refine Sq.callO (Lin := [⟨some pp0, .var (s2.2.2.2 : T_mcase_Codes)⟩]) (Lr := [⟨g2.1.1, .row 4 (s2.2.1 : List Bool) g2.1.2⟩, ⟨g2.2.1, .row 4 (s2.2.2.1 : List Bool) g2.2.2⟩, ⟨some p4, .var (lget x1 k1 : T_api_Table)⟩, ⟨none, .row 209 (([] : List T_api_Grant) : List T_api_Grant) 0⟩, ⟨some p3, .varX (s1.2.1 : T_api_Role) [(2, slv g1.1.1 s1.2.2.1.length g1.1.2)]⟩, ⟨g1.1.1, .row 209 (s1.2.2.1 : List T_api_Grant) g1.1.2⟩, ⟨none, .row 209 (([] : List T_api_Grant) : List T_api_Grant) 0⟩, ⟨some p2, .varX (s1.2.2.2.2.1 : T_api_Role) [(2, slv g1.2.1.1 s1.2.2.2.2.2.1.length g1.2.1.2)]⟩, ⟨g1.2.1.1, .row 209 (s1.2.2.2.2.2.1 : List T_api_Grant) g1.2.1.2⟩, ⟨none, .row 209 (([] : List T_api_Grant) : List T_api_Grant) 0⟩, ⟨some p1, .varX (s1.2.2.2.2.2.2.1 : T_api_Role) [(2, slv g1.2.2.1 s1.2.2.2.2.2.2.2.length g1.2.2.2)]⟩, ⟨g1.2.2.1, .row 209 (s1.2.2.2.2.2.2.2 : List T_api_Grant) g1.2.2.2⟩]) en49 (C_mcase_Codes_Next hy7) ⟨look_t rfl, look_int 4, trivial⟩ rfl fun q7 => ?_
          refine Sq.v (r_gtr (look_t rfl) (look_int 0)) rfl rfl rfl ?_
          obtain ⟨k2, hk2, h⟩ := bind_some h
          refine Sq.v (r_iaO (i := 2) (k := k2) (xs := (s2.2.2.1 : List Bool)) Try.underlying96 ty4 (look_t rfl) (look_t rfl) rfl (idx_some hk2)) rfl rfl rfl ?_
          refine Sq.storeR (i := 2) (k := k2) (Lens.id Bool) (v := (true : Bool)) (r := (lset s2.2.2.1 k2 true : List Bool)) ty4 (look_t rfl) (look_bool true) rfl (idx_some hk2).1 rfl rfl ?_
          refine Sq.relen (m := (lset s2.2.2.1 k2 true).length) 10 rfl (lset_len rfl) ?_
          refine Sq.relen (m := (lset s2.2.2.1 k2 true).length) 49 rfl (lset_len rfl) ?_
          obtain ⟨k3, hk3, h⟩ := bind_some h
          refine Sq.v (r_iaO (i := 1) (k := k3) (xs := (s2.2.1 : List Bool)) Try.underlying96 ty4 (look_t rfl) (look_t rfl) rfl (idx_some hk3)) rfl rfl rfl ?_
          refine Sq.storeR (i := 1) (k := k3) (Lens.id Bool) (v := (decide (y7.1 > 0) : Bool)) (r := (lset s2.2.1 k3 (decide (y7.1 > 0)) : List Bool)) ty4 (look_t rfl) (look_t rfl) rfl (idx_some hk3).1 rfl rfl ?_
          refine Sq.relen (m := (lset s2.2.1 k3 (decide (y7.1 > 0))).length) 11 rfl (lset_len rfl) ?_
          refine Sq.relen (m := (lset s2.2.1 k3 (decide (y7.1 > 0))).length) 51 rfl (lset_len rfl) ?_
          refine Sq.nil ?_
          refine To.bnorm ?_
          refine To.next ?_
          refine Wp.reg ?_
          refine Sq.v (r_add (look_t rfl) (look_int 1)) rfl rfl rfl ?_
          refine Sq.v (r_move (look_t rfl)) rfl rfl rfl ?_
          refine Sq.nil ?_
          refine To.bring 6 rfl ?_
          refine To.bring 6 rfl ?_
          refine To.bring 6 rfl ?_
          refine To.bring 6 rfl ?_
          refine To.bring 6 rfl ?_
          refine To.bring 6 rfl ?_
          replace h := some_in h
          subst h
          exact To.roundG ((g2.1.1, g2.1.2), (g2.2.1, g2.2.2)) 0 rfl (.same rfl (.same rfl (.same rfl (.same rfl (.same rfl (.same rfl (.same rfl (.same rfl (.same rfl (.same rfl (.same rfl (.same rfl (.same rfl (.same rfl (.same rfl .nil)))))))))))))))
        · replace h := cond_f hc h
          refine Wp.exit ?_
          refine To.exit ?_
          replace h := some_in h
          subst h
          exact To.leaveG ((g2.1.1, g2.1.2), (g2.2.1, g2.2.2)) 0 rfl (by simp) rfl (.same rfl (.same rfl (.same rfl (.same rfl (.same rfl (.same rfl (.same rfl (.same rfl (.same rfl (.same rfl (.same rfl (.same rfl (.same rfl (.same rfl (.same rfl (.same rfl .nil))))))))))))))))
      · clear hl
        refine To.bexit ?_
        refine To.next ?_
        refine Wp.seq ?_
        refine Wp.reg ?_
        refine Sq.v (r_fa fd207_2 (look_t rfl)) rfl rfl rfl ?_
        refine Sq.v (r_loadH (i := 11) (q := 0) (β := T_api_Role) (γ := T_api_Grant) ty205 (look_t rfl) rfl rfl) rfl rfl rfl ?_
        refine Sq.v (r_fa fd136_0 (look_t rfl)) rfl rfl rfl ?_
        refine Sq.v (r_load (i := 2) ((Lens.id T_api_Table).comp le_T_api_Table_ID) (r := (lget x1 k1).f_ID) ty3 (look_t rfl) rfl rfl rfl) rfl rfl rfl ?_
        refine Sq.v (r_move (look_t rfl)) rfl rfl rfl ?_
        refine Sq.freezeL (α := Bool) 1 [63, 10] ⟨rfl, rfl, trivial⟩ rfl ?_
        obtain ⟨z1, hz1, h⟩ := bind_some h
        refine Sq.v ((r_build (b := { f_Table := (lget x1 k1).f_ID, f_Read := true, f_Write := true, f_Keys := e2.2.2.2.1 : T_api_Grant }) rfl bu209 zr209 (.cons le_T_api_Grant_Table rfl (look_t rfl) rfl (.cons le_T_api_Grant_Read rfl (look_bool true) rfl (.cons le_T_api_Grant_Write rfl (look_bool true) rfl (.cons le_T_api_Grant_Keys rfl (look_t rfl) rfl (.nil)))))).as (some_in hz1)) rfl rfl rfl ?_
        refine Sq.v (r_bsl (r := [z1]) Try.underlying205 ty209 zr209 rfl rfl (.cons (by simp) (look_t rfl) (.nil))) rfl rfl rfl ?_
        obtain ⟨y8, hy8, h⟩ := bind_some h
        refine Sq.app (i := 12) Try.underlying205 ty209 zr209 (bytes := 40) (by kernel_rfl) (look_t rfl) rfl (look_t rfl) hy8 rfl fun key3 cap1 => ?_
        refine Sq.v (r_fa fd207_2 (look_t rfl)) rfl rfl rfl ?_
        refine Sq.storeH (i := 11) (γ := T_api_Grant) (b' := (({ s1.2.2.2.2.2.2.1 with f_Grants := [] } : T_api_Role) : T_api_Role)) (os' := [(2, slv key3 y8.length cap1)]) ((Lens.id T_api_Role).comp le_T_api_Role_Grants) ty205 (look_t rfl) (look_t rfl) slv_one rfl rfl rfl rfl ?_
        refine Sq.nil ?_
        refine To.next ?_
        refine Wp.seq ?_
        refine Wp.seq ?_
        refine Wp.reg ?_
        refine Sq.v (r_move (look_t rfl)) rfl rfl rfl ?_
        refine Sq.bring 6 rfl ?_
        obtain ⟨y9, hy9, h⟩ := bind_some h
        refine Sq.callO (Lin := [⟨some pp0, .var (e2.2.2.2.2 : T_mcase_Codes)⟩]) (Lr := [⟨g2.1.1, .row 4 (e2.2.2.1 : List Bool) g2.1.2⟩, ⟨none, .dead⟩, ⟨some p4, .var (lget x1 k1 : T_api_Table)⟩, ⟨none, .row 209 (([] : List T_api_Grant) : List T_api_Grant) 0⟩, ⟨some p3, .varX (s1.2.1 : T_api_Role) [(2, slv g1.1.1 s1.2.2.1.length g1.1.2)]⟩, ⟨g1.1.1, .row 209 (s1.2.2.1 : List T_api_Grant) g1.1.2⟩, ⟨none, .row 209 (([] : List T_api_Grant) : List T_api_Grant) 0⟩, ⟨some p2, .varX (s1.2.2.2.2.1 : T_api_Role) [(2, slv g1.2.1.1 s1.2.2.2.2.2.1.length g1.2.1.2)]⟩, ⟨g1.2.1.1, .row 209 (s1.2.2.2.2.2.1 : List T_api_Grant) g1.2.1.2⟩, ⟨none, .row 209 (([] : List T_api_Grant) : List T_api_Grant) 0⟩, ⟨some p1, .varX (({ s1.2.2.2.2.2.2.1 with f_Grants := [] } : T_api_Role) : T_api_Role) [(2, slv key3 y8.length cap1)]⟩, ⟨key3, .row 209 (y8 : List T_api_Grant) cap1⟩]) en49 (C_mcase_Codes_Next hy9) ⟨look_t rfl, look_int 4, trivial⟩ rfl fun q8 => ?_
        refine Sq.v (r_gtr (look_t rfl) (look_int 0)) rfl rfl rfl ?_
        refine Sq.nil ?_
        refine To.next ?_
        refine Wp.freeze (α := Bool) 1 11 rfl rfl ?_
        obtain ⟨m1, hm1, h⟩ := bind_some h
        refine Wp.condM (γ := (Option Nat × Nat)) (fun g3 => [(0, VP.eq (.pointer (some ⟨pp0, 0, none⟩))), (1, VP.of (x1)), (4, VP.of ([] : List T_api_Role)), (5, VP.eq (.pointer (some ⟨p1, 0, none⟩))), (6, VP.eq (.pointer (some ⟨p2, 0, none⟩))), (7, VP.eq (.pointer (some ⟨p3, 0, none⟩))), (9, VP.eq (.pointer (some ⟨p4, 0, none⟩))), (10, VP.of (e2.2.2.2.1)), (11, VP.of (e2.2.2.1)), (30, VP.of (x1)), (31, VP.of (x1.length : Int)), (32, VP.of (s1.1)), (33, VP.of (decide (s1.1 < (x1.length : Int)))), (45, VP.of (y5.length : Int)), (46, VP.of (e2.1)), (47, VP.of (e2.2.1)), (70, VP.of (decide (y9.1 > 0)))]) (fun g3 => [⟨some pp0, .var (m1.1 : T_mcase_Codes)⟩, ⟨none, .dead⟩, ⟨none, .dead⟩, ⟨some p4, .var (lget x1 k1 : T_api_Table)⟩, ⟨none, .row 209 (([] : List T_api_Grant) : List T_api_Grant) 0⟩, ⟨some p3, .varX (s1.2.1 : T_api_Role) [(2, slv g1.1.1 s1.2.2.1.length g1.1.2)]⟩, ⟨g1.1.1, .row 209 (s1.2.2.1 : List T_api_Grant) g1.1.2⟩, ⟨none, .row 209 (([] : List T_api_Grant) : List T_api_Grant) 0⟩, ⟨some p2, .varX (m1.2.1 : T_api_Role) [(2, slv g3.1 m1.2.2.length g3.2)]⟩, ⟨g3.1, .row 209 (m1.2.2 : List T_api_Grant) g3.2⟩, ⟨none, .row 209 (([] : List T_api_Grant) : List T_api_Grant) 0⟩, ⟨some p1, .varX (({ s1.2.2.2.2.2.2.1 with f_Grants := [] } : T_api_Role) : T_api_Role) [(2, slv key3 y8.length cap1)]⟩, ⟨key3, .row 209 (y8 : List T_api_Grant) cap1⟩]) (look_t rfl) (fun g3 => ?_) (fun hm hc => ?_) (fun hm hc => ?_)
        · clear hm1
          refine To.next ?_
          refine Wp.seq ?_
          refine Wp.reg ?_
          refine Sq.v (r_move (look_t rfl)) rfl rfl rfl ?_
          refine Sq.bring 0 rfl ?_
          obtain ⟨y10, hy10, h⟩ := bind_some h
          refine Sq.callO (Lin := [⟨some pp0, .var (m1.1 : T_mcase_Codes)⟩]) (Lr := [⟨none, .dead⟩, ⟨none, .dead⟩, ⟨some p4, .var (lget x1 k1 : T_api_Table)⟩, ⟨none, .row 209 (([] : List T_api_Grant) : List T_api_Grant) 0⟩, ⟨some p3, .varX (s1.2.1 : T_api_Role) [(2, slv g1.1.1 s1.2.2.1.length g1.1.2)]⟩, ⟨g1.1.1, .row 209 (s1.2.2.1 : List T_api_Grant) g1.1.2⟩, ⟨none, .row 209 (([] : List T_api_Grant) : List T_api_Grant) 0⟩, ⟨some p2, .varX (m1.2.1 : T_api_Role) [(2, slv g3.1 m1.2.2.length g3.2)]⟩, ⟨g3.1, .row 209 (m1.2.2 : List T_api_Grant) g3.2⟩, ⟨none, .row 209 (([] : List T_api_Grant) : List T_api_Grant) 0⟩, ⟨some p1, .varX (({ s1.2.2.2.2.2.2.1 with f_Grants := [] } : T_api_Role) : T_api_Role) [(2, slv key3 y8.length cap1)]⟩, ⟨key3, .row 209 (y8 : List T_api_Grant) cap1⟩]) en54 (C_mcase_Codes_Bool hy10) ⟨look_t rfl, trivial⟩ rfl fun q9 => ?_
          refine Sq.nil ?_
          refine To.next ?_
          obtain ⟨m2, hm2, h⟩ := bind_some h
          refine Wp.condM (γ := (Option Nat × Nat)) (fun g4 => [(0, VP.eq (.pointer (some ⟨pp0, 0, none⟩))), (1, VP.of (x1)), (4, VP.of ([] : List T_api_Role)), (5, VP.eq (.pointer (some ⟨p1, 0, none⟩))), (6, VP.eq (.pointer (some ⟨p2, 0, none⟩))), (7, VP.eq (.pointer (some ⟨p3, 0, none⟩))), (9, VP.eq (.pointer (some ⟨p4, 0, none⟩))), (10, VP.of (e2.2.2.2.1)), (11, VP.of (e2.2.2.1)), (30, VP.of (x1)), (31, VP.of (x1.length : Int)), (32, VP.of (s1.1)), (33, VP.of (decide (s1.1 < (x1.length : Int)))), (45, VP.of (y5.length : Int)), (46, VP.of (e2.1)), (47, VP.of (e2.2.1)), (70, VP.of (decide (y9.1 > 0))), (86, VP.of (y10.1))]) (fun g4 => [⟨some pp0, .var (m2.1 : T_mcase_Codes)⟩, ⟨none, .dead⟩, ⟨none, .dead⟩, ⟨some p4, .var (lget x1 k1 : T_api_Table)⟩, ⟨none, .row 209 (([] : List T_api_Grant) : List T_api_Grant) 0⟩, ⟨some p3, .varX (m2.2.1 : T_api_Role) [(2, slv g4.1 m2.2.2.length g4.2)]⟩, ⟨g4.1, .row 209 (m2.2.2 : List T_api_Grant) g4.2⟩, ⟨none, .row 209 (([] : List T_api_Grant) : List T_api_Grant) 0⟩, ⟨some p2, .varX (m1.2.1 : T_api_Role) [(2, slv g3.1 m1.2.2.length g3.2)]⟩, ⟨g3.1, .row 209 (m1.2.2 : List T_api_Grant) g3.2⟩, ⟨none, .row 209 (([] : List T_api_Grant) : List T_api_Grant) 0⟩, ⟨some p1, .varX (({ s1.2.2.2.2.2.2.1 with f_Grants := [] } : T_api_Role) : T_api_Role) [(2, slv key3 y8.length cap1)]⟩, ⟨key3, .row 209 (y8 : List T_api_Grant) cap1⟩]) (look_t rfl) (fun g4 => ?_) (fun hm hc => ?_) (fun hm hc => ?_)
          · clear hm2
            refine To.bnorm ?_
            refine To.next ?_
            refine Wp.reg ?_
            refine Sq.v (r_add (look_t rfl) (look_int 1)) rfl rfl rfl ?_
            refine Sq.v (r_move (look_t rfl)) rfl rfl rfl ?_
            refine Sq.nil ?_
            refine To.bring 6 rfl ?_
            refine To.bring 6 rfl ?_
            refine To.bring 6 rfl ?_
            refine To.bring 6 rfl ?_
            refine To.bring 6 rfl ?_
            refine To.bring 6 rfl ?_
            replace h := some_in h
            subst h
            exact To.roundG ((g4.1, g4.2), (g3.1, g3.2), (key3, cap1)) 3 rfl (.same rfl (.same rfl (.same rfl (.same rfl (.same rfl (.same rfl (.same rfl (.same rfl (.same rfl .nil)))))))))
          · have h := cond_t hc hm2
            obtain ⟨y11, hy11, h⟩ := bind_some h
            obtain ⟨y12, hy12, h⟩ := bind_some h
            obtain ⟨z2, hz2, h⟩ := bind_some h
            obtain ⟨y13, hy13, h⟩ := bind_some h
            refine Wp.le (E' := [(0, VP.eq (.pointer (some ⟨pp0, 0, none⟩))), (1, VP.of (x1)), (4, VP.of ([] : List T_api_Role)), (5, VP.eq (.pointer (some ⟨p1, 0, none⟩))), (6, VP.eq (.pointer (some ⟨p2, 0, none⟩))), (7, VP.eq (.pointer (some ⟨p3, 0, none⟩))), (9, VP.eq (.pointer (some ⟨p4, 0, none⟩))), (10, VP.of (e2.2.2.2.1)), (11, VP.of (e2.2.2.1)), (30, VP.of (x1)), (31, VP.of (x1.length : Int)), (32, VP.of (s1.1)), (33, VP.of (decide (s1.1 < (x1.length : Int)))), (45, VP.of (y5.length : Int)), (46, VP.of (e2.1)), (47, VP.of (e2.2.1)), (70, VP.of (decide (y9.1 > 0))), (85, VP.eq (.pointer (some ⟨pp0, 0, none⟩))), (86, VP.of (y10.1))]) (.same rfl (.same rfl (.same rfl (.same rfl (.same rfl (.same rfl (.same rfl (.same rfl (.same rfl (.same rfl (.same rfl (.same rfl (.same rfl (.same rfl (.same rfl (.same rfl (.same rfl (.same rfl (.same rfl .nil))))))))))))))))))) ?_
            refine Wp.drawD mixed (⟨some 87, [], [], [], fun _ => VP.eq (.pointer (some ⟨p3, 0 + 2, none⟩)), fun _ _ => ⟨none, .dead⟩⟩ :: ⟨some 88, (0 :: []), (5 :: []), [], fun _ => VP.eq (slv g1.1.1 s1.2.2.1.length g1.1.2), fun _ _ => ⟨none, .dead⟩⟩ :: ⟨some 89, [], [], [], fun _ => VP.eq (.pointer (some ⟨p4, 0 + 0, none⟩)), fun _ _ => ⟨none, .dead⟩⟩ :: ⟨some 90, (2 :: []), (3 :: []), [], fun _ => VP.of ((lget x1 k1).f_ID), fun _ _ => ⟨none, .dead⟩⟩ :: ⟨some 91, [], [], [], fun _ => VP.eq (.pointer (some ⟨pp0, 0, none⟩)), fun _ _ => ⟨none, .dead⟩⟩ :: ⟨some 92, (4 :: []), (0 :: []), (0 :: []), fun _ => VP.of (y11.1), fun hd _ => ⟨some pp0, .var (y11.2 : T_mcase_Codes)⟩⟩ :: ⟨some 93, [], [], [], fun _ => VP.eq (.pointer (some ⟨pp0, 0, none⟩)), fun _ _ => ⟨none, .dead⟩⟩ :: ⟨some 94, (5 :: 6 :: []), (0 :: []), (0 :: []), fun _ => VP.of (y12.1), fun hd _ => ⟨some pp0, .var (y12.2 : T_mcase_Codes)⟩⟩ :: ⟨some 95, [], [], [], fun _ => VP.of (e2.2.2.2.1), fun _ _ => ⟨none, .dead⟩⟩ :: ⟨some 96, (3 :: 5 :: 7 :: 8 :: []), [], [], fun _ => VP.of (z2), fun _ _ => ⟨none, .dead⟩⟩ :: ⟨some 97, (9 :: []), [], [], fun _ => VP.of ([z2]), fun _ _ => ⟨none, .dead⟩⟩ :: ⟨some 98, (1 :: 10 :: []), (6 :: []), (6 :: []), fun hd => VP.eq (slv (hd 11 0) y13.length ((hd 11 1).getD 0)), fun hd _ => ⟨(hd 11 0), .row 209 (y13 : List T_api_Grant) ((hd 11 1).getD 0)⟩⟩ :: ⟨some 99, [], [], [], fun _ => VP.eq (.pointer (some ⟨p3, 0 + 2, none⟩)), fun _ _ => ⟨none, .dead⟩⟩ :: ⟨none, (1 :: 11 :: 12 :: []), (5 :: []), (5 :: []), fun _ => VP.any, fun hd _ => ⟨some p3, .varX (({ s1.2.1 with f_Grants := [] } : T_api_Role) : T_api_Role) [(2, slv (hd 11 0) y13.length ((hd 11 1).getD 0))]⟩⟩ :: []) ((some 87, [], [], []) :: (some 88, (0 :: []), (5 :: []), []) :: (some 89, [], [], []) :: (some 90, (2 :: []), (3 :: []), []) :: (some 91, [], [], []) :: (some 92, (4 :: []), (0 :: []), (0 :: [])) :: (some 93, [], [], []) :: (some 94, (5 :: 6 :: []), (0 :: []), (0 :: [])) :: (some 95, [], [], []) :: (some 96, (3 :: 5 :: 7 :: 8 :: []), [], []) :: (some 97, (9 :: []), [], []) :: (some 98, (1 :: 10 :: []), (6 :: []), (6 :: [])) :: (some 99, [], [], []) :: (none, (1 :: 11 :: 12 :: []), (5 :: []), (5 :: [])) :: []) (0 :: 1 :: 4 :: 5 :: 6 :: 7 :: 9 :: 10 :: 11 :: 30 :: 31 :: 32 :: 33 :: 45 :: 46 :: 47 :: 70 :: 85 :: 86 :: []) rfl rfl (by kernel_rfl) ⟨?_, ?_, ?_, ?_, ?_, ?_, ?_, ?_, ?_, ?_, ?_, ?_, ?_, ?_, trivial⟩ fun hd => ?_
            · exact hd_v rfl rfl rfl fun hd E' L' hE hL => r_fa fd207_2 (look_t (hE _ _ rfl))
            · exact hd_v rfl rfl rfl fun hd E' L' hE hL => r_loadH (i := 5) (q := 0) (β := T_api_Role) (γ := T_api_Grant) ty205 (look_t (hE _ _ rfl)) (hL 5 _ rfl rfl) rfl
            · exact hd_v rfl rfl rfl fun hd E' L' hE hL => r_fa fd136_0 (look_t (hE _ _ rfl))
            · exact hd_v rfl rfl rfl fun hd E' L' hE hL => r_load (i := 3) ((Lens.id T_api_Table).comp le_T_api_Table_ID) (r := (lget x1 k1).f_ID) ty3 (look_t (hE _ _ rfl)) (hL 3 _ rfl rfl) rfl rfl
            · exact hd_v rfl rfl rfl fun hd E' L' hE hL => r_move (look_t (hE _ _ rfl))
            · intro hd E' L' hE hL
              refine Sq.bring 0 (hL 0 _ rfl rfl) ?_
              refine Sq.callO (Lin := [⟨some pp0, .var (y10.2 : T_mcase_Codes)⟩]) (Lr := L'.eraseIdx 0) en54 (C_mcase_Codes_Bool hy11) ⟨look_t (hE _ _ rfl), trivial⟩ rfl fun q10 => ?_
              refine Sq.nil ?_
              refine To.back 0 (hL 0 _ rfl rfl) ?_
              exact To.fin (gm []) rfl rfl
            · exact hd_v rfl rfl rfl fun hd E' L' hE hL => r_move (look_t (hE _ _ rfl))
            · intro hd E' L' hE hL
              refine Sq.bring 0 (hL 0 _ rfl rfl) ?_
              refine Sq.callO (Lin := [⟨some pp0, .var (y11.2 : T_mcase_Codes)⟩]) (Lr := L'.eraseIdx 0) en54 (C_mcase_Codes_Bool hy12) ⟨look_t (hE _ _ rfl), trivial⟩ rfl fun q11 => ?_
              refine Sq.nil ?_
              refine To.back 0 (hL 0 _ rfl rfl) ?_
              exact To.fin (gm []) rfl rfl
            · exact hd_v rfl rfl rfl fun hd E' L' hE hL => r_move (look_t (hE _ _ rfl))
            · exact hd_v rfl rfl rfl fun hd E' L' hE hL => (r_build (b := { f_Table := (lget x1 k1).f_ID, f_Read := y11.1, f_Write := y12.1, f_Keys := e2.2.2.2.1 : T_api_Grant }) rfl bu209 zr209 (.cons le_T_api_Grant_Table rfl (look_t (hE _ _ rfl)) rfl (.cons le_T_api_Grant_Read rfl (look_t (hE _ _ rfl)) rfl (.cons le_T_api_Grant_Write rfl (look_t (hE _ _ rfl)) rfl (.cons le_T_api_Grant_Keys rfl (look_t (hE _ _ rfl)) rfl (.nil)))))).as (some_in hz2)
            · exact hd_v rfl rfl rfl fun hd E' L' hE hL => r_bsl (r := [z2]) Try.underlying205 ty209 zr209 rfl rfl (.cons (by simp) (look_t (hE _ _ rfl)) (.nil))
            · intro hd E' L' hE hL
              refine Sq.app (i := 6) Try.underlying205 ty209 zr209 (bytes := 40) (by kernel_rfl) (look_t (hE _ _ rfl)) (hL 6 _ rfl rfl) (look_t (hE _ _ rfl)) hy13 rfl fun key4 cap2 => ?_
              refine Sq.nil ?_
              exact To.fin (gm [key4, some cap2]) rfl rfl
            · exact hd_v rfl rfl rfl fun hd E' L' hE hL => r_fa fd207_2 (look_t (hE _ _ rfl))
            · intro hd E' L' hE hL
              refine Sq.storeH (i := 5) (γ := T_api_Grant) (b' := (({ s1.2.1 with f_Grants := [] } : T_api_Role) : T_api_Role)) (os' := [(2, slv (hd 11 0) y13.length ((hd 11 1).getD 0))]) ((Lens.id T_api_Role).comp le_T_api_Role_Grants) ty205 (look_t (hE _ _ rfl)) (look_t (hE _ _ rfl)) slv_one (hL 5 _ rfl rfl) rfl rfl rfl ?_
              refine Sq.nil ?_
              exact To.fin (gm []) rfl rfl
            refine To.eqL (L2 := [⟨some pp0, .var (y12.2 : T_mcase_Codes)⟩, ⟨none, .dead⟩, ⟨none, .dead⟩, ⟨some p4, .var (lget x1 k1 : T_api_Table)⟩, ⟨none, .row 209 (([] : List T_api_Grant) : List T_api_Grant) 0⟩, ⟨some p3, .varX (({ s1.2.1 with f_Grants := [] } : T_api_Role) : T_api_Role) [(2, slv (hd 11 0) y13.length ((hd 11 1).getD 0))]⟩, ⟨(hd 11 0), .row 209 (y13 : List T_api_Grant) ((hd 11 1).getD 0)⟩, ⟨none, .row 209 (([] : List T_api_Grant) : List T_api_Grant) 0⟩, ⟨some p2, .varX (m1.2.1 : T_api_Role) [(2, slv g3.1 m1.2.2.length g3.2)]⟩, ⟨g3.1, .row 209 (m1.2.2 : List T_api_Grant) g3.2⟩, ⟨none, .row 209 (([] : List T_api_Grant) : List T_api_Grant) 0⟩, ⟨some p1, .varX (({ s1.2.2.2.2.2.2.1 with f_Grants := [] } : T_api_Role) : T_api_Role) [(2, slv key3 y8.length cap1)]⟩, ⟨key3, .row 209 (y8 : List T_api_Grant) cap1⟩]) rfl ?_
            refine To.le (E' := [(0, VP.eq (.pointer (some ⟨pp0, 0, none⟩))), (1, VP.of (x1)), (4, VP.of ([] : List T_api_Role)), (5, VP.eq (.pointer (some ⟨p1, 0, none⟩))), (6, VP.eq (.pointer (some ⟨p2, 0, none⟩))), (7, VP.eq (.pointer (some ⟨p3, 0, none⟩))), (9, VP.eq (.pointer (some ⟨p4, 0, none⟩))), (10, VP.of (e2.2.2.2.1)), (11, VP.of (e2.2.2.1)), (30, VP.of (x1)), (31, VP.of (x1.length : Int)), (32, VP.of (s1.1)), (33, VP.of (decide (s1.1 < (x1.length : Int)))), (45, VP.of (y5.length : Int)), (46, VP.of (e2.1)), (47, VP.of (e2.2.1)), (70, VP.of (decide (y9.1 > 0))), (85, VP.eq (.pointer (some ⟨pp0, 0, none⟩))), (86, VP.of (y10.1)), (87, VP.eq (.pointer (some ⟨p3, 0 + 2, none⟩))), (89, VP.eq (.pointer (some ⟨p4, 0 + 0, none⟩))), (90, VP.of ((lget x1 k1).f_ID)), (91, VP.eq (.pointer (some ⟨pp0, 0, none⟩))), (92, VP.of (y11.1)), (93, VP.eq (.pointer (some ⟨pp0, 0, none⟩))), (94, VP.of (y12.1)), (95, VP.of (e2.2.2.2.1)), (96, VP.of (z2)), (97, VP.of ([z2])), (98, VP.eq (slv (hd 11 0) y13.length ((hd 11 1).getD 0))), (99, VP.eq (.pointer (some ⟨p3, 0 + 2, none⟩)))]) (.same rfl (.same rfl (.same rfl (.same rfl (.same rfl (.same rfl (.same rfl (.same rfl (.same rfl (.same rfl (.same rfl (.same rfl (.same rfl (.same rfl (.same rfl (.same rfl (.same rfl (.same rfl (.same rfl (.same rfl (.same rfl (.same rfl (.same rfl (.same rfl (.same rfl (.same rfl (.same rfl (.same rfl (.same rfl (.same rfl (.same rfl .nil))))))))))))))))))))))))))))))) ?_
            replace h := some_in h
            subst h
            exact To.meet 0 rfl (.same rfl (.same rfl (.same rfl (.same rfl (.same rfl (.same rfl (.same rfl (.same rfl (.same rfl (.same rfl (.same rfl (.same rfl (.same rfl (.same rfl (.same rfl (.same rfl (.same rfl (.same rfl .nil)))))))))))))))))) (hm ((hd 11 0), ((hd 11 1).getD 0)))
          · have h := cond_f hc hm2
            refine Wp.skip ?_
            replace h := some_in h
            subst h
            exact To.meet 0 rfl (.same rfl (.same rfl (.same rfl (.same rfl (.same rfl (.same rfl (.same rfl (.same rfl (.same rfl (.same rfl (.same rfl (.same rfl (.same rfl (.same rfl (.same rfl (.same rfl (.same rfl (.same rfl .nil)))))))))))))))))) (hm (g1.1.1, g1.1.2))
        · have h := cond_t hc hm1
          obtain ⟨y14, hy14, h⟩ := bind_some h
          obtain ⟨y15, hy15, h⟩ := bind_some h
          obtain ⟨z3, hz3, h⟩ := bind_some h
          obtain ⟨y16, hy16, h⟩ := bind_some h
          refine Wp.le (E' := [(0, VP.eq (.pointer (some ⟨pp0, 0, none⟩))), (1, VP.of (x1)), (4, VP.of ([] : List T_api_Role)), (5, VP.eq (.pointer (some ⟨p1, 0, none⟩))), (6, VP.eq (.pointer (some ⟨p2, 0, none⟩))), (7, VP.eq (.pointer (some ⟨p3, 0, none⟩))), (9, VP.eq (.pointer (some ⟨p4, 0, none⟩))), (10, VP.of (e2.2.2.2.1)), (11, VP.of (e2.2.2.1)), (30, VP.of (x1)), (31, VP.of (x1.length : Int)), (32, VP.of (s1.1)), (33, VP.of (decide (s1.1 < (x1.length : Int)))), (45, VP.of (y5.length : Int)), (46, VP.of (e2.1)), (47, VP.of (e2.2.1)), (59, VP.eq (.pointer (some ⟨p1, 0 + 2, none⟩))), (61, VP.eq (.pointer (some ⟨p4, 0 + 0, none⟩))), (62, VP.of ((lget x1 k1).f_ID)), (63, VP.of (e2.2.2.2.1)), (64, VP.of (z1)), (65, VP.of ([z1])), (66, VP.eq (slv key3 y8.length cap1)), (67, VP.eq (.pointer (some ⟨p1, 0 + 2, none⟩))), (68, VP.eq (.pointer (some ⟨pp0, 0, none⟩))), (69, VP.of (y9.1)), (70, VP.of (decide (y9.1 > 0)))]) (.same rfl (.same rfl (.same rfl (.same rfl (.same rfl (.same rfl (.same rfl (.same rfl (.same rfl (.same rfl (.same rfl (.same rfl (.same rfl (.same rfl (.same rfl (.same rfl (.same rfl (.same rfl (.same rfl (.same rfl (.same rfl (.same rfl (.same rfl (.same rfl (.same rfl (.same rfl (.same rfl .nil))))))))))))))))))))))))))) ?_
          refine Wp.drawD mixed (⟨some 71, [], [], [], fun _ => VP.eq (.pointer (some ⟨p2, 0 + 2, none⟩)), fun _ _ => ⟨none, .dead⟩⟩ :: ⟨some 72, (0 :: []), (8 :: []), [], fun _ => VP.eq (slv g1.2.1.1 s1.2.2.2.2.2.1.length g1.2.1.2), fun _ _ => ⟨none, .dead⟩⟩ :: ⟨some 73, [], [], [], fun _ => VP.eq (.pointer (some ⟨p4, 0 + 0, none⟩)), fun _ _ => ⟨none, .dead⟩⟩ :: ⟨some 74, (2 :: []), (3 :: []), [], fun _ => VP.of ((lget x1 k1).f_ID), fun _ _ => ⟨none, .dead⟩⟩ :: ⟨some 75, [], [], [], fun _ => VP.eq (.pointer (some ⟨pp0, 0, none⟩)), fun _ _ => ⟨none, .dead⟩⟩ :: ⟨some 76, (4 :: []), (0 :: []), (0 :: []), fun _ => VP.of (y14.1), fun hd _ => ⟨some pp0, .var (y14.2 : T_mcase_Codes)⟩⟩ :: ⟨some 77, (5 :: []), [], [], fun _ => VP.of (decide (y14.1 > 0)), fun _ _ => ⟨none, .dead⟩⟩ :: ⟨some 78, [], [], [], fun _ => VP.eq (.pointer (some ⟨pp0, 0, none⟩)), fun _ _ => ⟨none, .dead⟩⟩ :: ⟨some 79, (5 :: 7 :: []), (0 :: []), (0 :: []), fun _ => VP.of (y15.1), fun hd _ => ⟨some pp0, .var (y15.2 : T_mcase_Codes)⟩⟩ :: ⟨some 80, [], [], [], fun _ => VP.of (e2.2.2.1), fun _ _ => ⟨none, .dead⟩⟩ :: ⟨some 81, (3 :: 6 :: 8 :: 9 :: []), [], [], fun _ => VP.of (z3), fun _ _ => ⟨none, .dead⟩⟩ :: ⟨some 82, (10 :: []), [], [], fun _ => VP.of ([z3]), fun _ _ => ⟨none, .dead⟩⟩ :: ⟨some 83, (1 :: 11 :: []), (9 :: []), (9 :: []), fun hd => VP.eq (slv (hd 12 0) y16.length ((hd 12 1).getD 0)), fun hd _ => ⟨(hd 12 0), .row 209 (y16 : List T_api_Grant) ((hd 12 1).getD 0)⟩⟩ :: ⟨some 84, [], [], [], fun _ => VP.eq (.pointer (some ⟨p2, 0 + 2, none⟩)), fun _ _ => ⟨none, .dead⟩⟩ :: ⟨none, (1 :: 12 :: 13 :: []), (8 :: []), (8 :: []), fun _ => VP.any, fun hd _ => ⟨some p2, .varX (({ s1.2.2.2.2.1 with f_Grants := [] } : T_api_Role) : T_api_Role) [(2, slv (hd 12 0) y16.length ((hd 12 1).getD 0))]⟩⟩ :: []) ((some 71, [], [], []) :: (some 72, (0 :: []), (8 :: []), []) :: (some 73, [], [], []) :: (some 74, (2 :: []), (3 :: []), []) :: (some 75, [], [], []) :: (some 76, (4 :: []), (0 :: []), (0 :: [])) :: (some 77, (5 :: []), [], []) :: (some 78, [], [], []) :: (some 79, (5 :: 7 :: []), (0 :: []), (0 :: [])) :: (some 80, [], [], []) :: (some 81, (3 :: 6 :: 8 :: 9 :: []), [], []) :: (some 82, (10 :: []), [], []) :: (some 83, (1 :: 11 :: []), (9 :: []), (9 :: [])) :: (some 84, [], [], []) :: (none, (1 :: 12 :: 13 :: []), (8 :: []), (8 :: [])) :: []) (0 :: 1 :: 4 :: 5 :: 6 :: 7 :: 9 :: 10 :: 11 :: 30 :: 31 :: 32 :: 33 :: 45 :: 46 :: 47 :: 59 :: 61 :: 62 :: 63 :: 64 :: 65 :: 66 :: 67 :: 68 :: 69 :: 70 :: []) rfl rfl (by kernel_rfl) ⟨?_, ?_, ?_, ?_, ?_, ?_, ?_, ?_, ?_, ?_, ?_, ?_, ?_, ?_, ?_, trivial⟩ fun hd => ?_
          · exact hd_v rfl rfl rfl fun hd E' L' hE hL => r_fa fd207_2 (look_t (hE _ _ rfl))
          · exact hd_v rfl rfl rfl fun hd E' L' hE hL => r_loadH (i := 8) (q := 0) (β := T_api_Role) (γ := T_api_Grant) ty205 (look_t (hE _ _ rfl)) (hL 8 _ rfl rfl) rfl
          · exact hd_v rfl rfl rfl fun hd E' L' hE hL => r_fa fd136_0 (look_t (hE _ _ rfl))
          · exact hd_v rfl rfl rfl fun hd E' L' hE hL => r_load (i := 3) ((Lens.id T_api_Table).comp le_T_api_Table_ID) (r := (lget x1 k1).f_ID) ty3 (look_t (hE _ _ rfl)) (hL 3 _ rfl rfl) rfl rfl
          · exact hd_v rfl rfl rfl fun hd E' L' hE hL => r_move (look_t (hE _ _ rfl))
          · intro hd E' L' hE hL
            refine Sq.bring 0 (hL 0 _ rfl rfl) ?_
            refine Sq.callO (Lin := [⟨some pp0, .var (y9.2 : T_mcase_Codes)⟩]) (Lr := L'.eraseIdx 0) en49 (C_mcase_Codes_Next hy14) ⟨look_t (hE _ _ rfl), look_int 4, trivial⟩ rfl fun q12 => ?_
            refine Sq.nil ?_
            refine To.back 0 (hL 0 _ rfl rfl) ?_
            exact To.fin (gm []) rfl rfl
          · exact hd_v rfl rfl rfl fun hd E' L' hE hL => r_gtr (look_t (hE _ _ rfl)) (look_int 0)
          · exact hd_v rfl rfl rfl fun hd E' L' hE hL => r_move (look_t (hE _ _ rfl))
          · intro hd E' L' hE hL
            refine Sq.bring 0 (hL 0 _ rfl rfl) ?_
            refine Sq.callO (Lin := [⟨some pp0, .var (y14.2 : T_mcase_Codes)⟩]) (Lr := L'.eraseIdx 0) en54 (C_mcase_Codes_Bool hy15) ⟨look_t (hE _ _ rfl), trivial⟩ rfl fun q13 => ?_
            refine Sq.nil ?_
            refine To.back 0 (hL 0 _ rfl rfl) ?_
            exact To.fin (gm []) rfl rfl
          · exact hd_v rfl rfl rfl fun hd E' L' hE hL => r_move (look_t (hE _ _ rfl))
          · exact hd_v rfl rfl rfl fun hd E' L' hE hL => (r_build (b := { f_Table := (lget x1 k1).f_ID, f_Read := decide (y14.1 > 0), f_Write := y15.1, f_Keys := e2.2.2.1 : T_api_Grant }) rfl bu209 zr209 (.cons le_T_api_Grant_Table rfl (look_t (hE _ _ rfl)) rfl (.cons le_T_api_Grant_Read rfl (look_t (hE _ _ rfl)) rfl (.cons le_T_api_Grant_Write rfl (look_t (hE _ _ rfl)) rfl (.cons le_T_api_Grant_Keys rfl (look_t (hE _ _ rfl)) rfl (.nil)))))).as (some_in hz3)
          · exact hd_v rfl rfl rfl fun hd E' L' hE hL => r_bsl (r := [z3]) Try.underlying205 ty209 zr209 rfl rfl (.cons (by simp) (look_t (hE _ _ rfl)) (.nil))
          · intro hd E' L' hE hL
            refine Sq.app (i := 9) Try.underlying205 ty209 zr209 (bytes := 40) (by kernel_rfl) (look_t (hE _ _ rfl)) (hL 9 _ rfl rfl) (look_t (hE _ _ rfl)) hy16 rfl fun key5 cap3 => ?_
            refine Sq.nil ?_
            exact To.fin (gm [key5, some cap3]) rfl rfl
          · exact hd_v rfl rfl rfl fun hd E' L' hE hL => r_fa fd207_2 (look_t (hE _ _ rfl))
          · intro hd E' L' hE hL
            refine Sq.storeH (i := 8) (γ := T_api_Grant) (b' := (({ s1.2.2.2.2.1 with f_Grants := [] } : T_api_Role) : T_api_Role)) (os' := [(2, slv (hd 12 0) y16.length ((hd 12 1).getD 0))]) ((Lens.id T_api_Role).comp le_T_api_Role_Grants) ty205 (look_t (hE _ _ rfl)) (look_t (hE _ _ rfl)) slv_one (hL 8 _ rfl rfl) rfl rfl rfl ?_
            refine Sq.nil ?_
            exact To.fin (gm []) rfl rfl
          refine To.eqL (L2 := [⟨some pp0, .var (y15.2 : T_mcase_Codes)⟩, ⟨none, .dead⟩, ⟨none, .dead⟩, ⟨some p4, .var (lget x1 k1 : T_api_Table)⟩, ⟨none, .row 209 (([] : List T_api_Grant) : List T_api_Grant) 0⟩, ⟨some p3, .varX (s1.2.1 : T_api_Role) [(2, slv g1.1.1 s1.2.2.1.length g1.1.2)]⟩, ⟨g1.1.1, .row 209 (s1.2.2.1 : List T_api_Grant) g1.1.2⟩, ⟨none, .row 209 (([] : List T_api_Grant) : List T_api_Grant) 0⟩, ⟨some p2, .varX (({ s1.2.2.2.2.1 with f_Grants := [] } : T_api_Role) : T_api_Role) [(2, slv (hd 12 0) y16.length ((hd 12 1).getD 0))]⟩, ⟨(hd 12 0), .row 209 (y16 : List T_api_Grant) ((hd 12 1).getD 0)⟩, ⟨none, .row 209 (([] : List T_api_Grant) : List T_api_Grant) 0⟩, ⟨some p1, .varX (({ s1.2.2.2.2.2.2.1 with f_Grants := [] } : T_api_Role) : T_api_Role) [(2, slv key3 y8.length cap1)]⟩, ⟨key3, .row 209 (y8 : List T_api_Grant) cap1⟩]) rfl ?_
          refine To.le (E' := [(0, VP.eq (.pointer (some ⟨pp0, 0, none⟩))), (1, VP.of (x1)), (4, VP.of ([] : List T_api_Role)), (5, VP.eq (.pointer (some ⟨p1, 0, none⟩))), (6, VP.eq (.pointer (some ⟨p2, 0, none⟩))), (7, VP.eq (.pointer (some ⟨p3, 0, none⟩))), (9, VP.eq (.pointer (some ⟨p4, 0, none⟩))), (10, VP.of (e2.2.2.2.1)), (11, VP.of (e2.2.2.1)), (30, VP.of (x1)), (31, VP.of (x1.length : Int)), (32, VP.of (s1.1)), (33, VP.of (decide (s1.1 < (x1.length : Int)))), (45, VP.of (y5.length : Int)), (46, VP.of (e2.1)), (47, VP.of (e2.2.1)), (59, VP.eq (.pointer (some ⟨p1, 0 + 2, none⟩))), (61, VP.eq (.pointer (some ⟨p4, 0 + 0, none⟩))), (62, VP.of ((lget x1 k1).f_ID)), (63, VP.of (e2.2.2.2.1)), (64, VP.of (z1)), (65, VP.of ([z1])), (66, VP.eq (slv key3 y8.length cap1)), (67, VP.eq (.pointer (some ⟨p1, 0 + 2, none⟩))), (68, VP.eq (.pointer (some ⟨pp0, 0, none⟩))), (69, VP.of (y9.1)), (70, VP.of (decide (y9.1 > 0))), (71, VP.eq (.pointer (some ⟨p2, 0 + 2, none⟩))), (73, VP.eq (.pointer (some ⟨p4, 0 + 0, none⟩))), (74, VP.of ((lget x1 k1).f_ID)), (75, VP.eq (.pointer (some ⟨pp0, 0, none⟩))), (76, VP.of (y14.1)), (77, VP.of (decide (y14.1 > 0))), (78, VP.eq (.pointer (some ⟨pp0, 0, none⟩))), (79, VP.of (y15.1)), (80, VP.of (e2.2.2.1)), (81, VP.of (z3)), (82, VP.of ([z3])), (83, VP.eq (slv (hd 12 0) y16.length ((hd 12 1).getD 0))), (84, VP.eq (.pointer (some ⟨p2, 0 + 2, none⟩)))]) (.same rfl (.same rfl (.same rfl (.same rfl (.same rfl (.same rfl (.same rfl (.same rfl (.same rfl (.same rfl (.same rfl (.same rfl (.same rfl (.same rfl (.same rfl (.same rfl (.same rfl (.same rfl (.same rfl (.same rfl (.same rfl (.same rfl (.same rfl (.same rfl (.same rfl (.same rfl (.same rfl (.same rfl (.same rfl (.same rfl (.same rfl (.same rfl (.same rfl (.same rfl (.same rfl (.same rfl (.same rfl (.same rfl (.same rfl (.same rfl .nil)))))))))))))))))))))))))))))))))))))))) ?_
          replace h := some_in h
          subst h
          exact To.meet 0 rfl (.same rfl (.same rfl (.same rfl (.same rfl (.same rfl (.same rfl (.same rfl (.same rfl (.same rfl (.same rfl (.same rfl (.same rfl (.same rfl (.same rfl (.same rfl (.same rfl (.same rfl .nil))))))))))))))))) (hm ((hd 12 0), ((hd 12 1).getD 0)))
        · have h := cond_f hc hm1
          refine Wp.skip ?_
          replace h := some_in h
          subst h
          exact To.meet 0 rfl (.same rfl (.same rfl (.same rfl (.same rfl (.same rfl (.same rfl (.same rfl (.same rfl (.same rfl (.same rfl (.same rfl (.same rfl (.same rfl (.same rfl (.same rfl (.same rfl (.same rfl .nil))))))))))))))))) (hm (g1.2.1.1, g1.2.1.2))
    · replace h := cond_f hc h
      refine Wp.exit ?_
      refine To.exit ?_
      replace h := some_in h
      subst h
      exact To.leaveG ((g1.1.1, g1.1.2), (g1.2.1.1, g1.2.1.2), (g1.2.2.1, g1.2.2.2)) 0 rfl (by simp) rfl (.same rfl (.same rfl (.same rfl (.same rfl (.same rfl (.same rfl (.same rfl (.same rfl (.same rfl (.same rfl .nil))))))))))
  · clear hl
    refine To.bexit ?_
    refine To.next ?_
    refine Wp.seq ?_
    refine Wp.reg ?_
    refine Sq.thaw (β := T_api_Role) (γ := T_api_Grant) (b' := (({ e1.2.2.2.2.2.2.2.1 with f_Grants := e1.2.2.2.2.2.2.2.2 } : T_api_Role) : T_api_Role)) ((Lens.id T_api_Role).comp le_T_api_Role_Grants) 8 9 0 rfl rfl rfl rfl rfl rfl ?_
    refine Sq.fromX 8 rfl ?_
    obtain ⟨z4, hz4, h⟩ := bind_some h
    refine Sq.v ((r_load (i := 8) (Lens.id T_api_Role) (r := ({ e1.2.2.2.2.2.2.2.1 with f_Grants := e1.2.2.2.2.2.2.2.2 } : T_api_Role)) ty207 (look_t rfl) rfl rfl rfl).as (some_in hz4)) rfl rfl rfl ?_
    refine Sq.thaw (β := T_api_Role) (γ := T_api_Grant) (b' := (({ e1.2.2.2.2.2.1 with f_Grants := e1.2.2.2.2.2.2.1 } : T_api_Role) : T_api_Role)) ((Lens.id T_api_Role).comp le_T_api_Role_Grants) 5 6 0 rfl rfl rfl rfl rfl rfl ?_
    refine Sq.fromX 5 rfl ?_
    refine Sq.v (r_load (i := 5) (Lens.id T_api_Role) (r := ({ e1.2.2.2.2.2.1 with f_Grants := e1.2.2.2.2.2.2.1 } : T_api_Role)) ty207 (look_t rfl) rfl rfl rfl) rfl rfl rfl ?_
    refine Sq.thaw (β := T_api_Role) (γ := T_api_Grant) (b' := (({ e1.2.2.1 with f_Grants := e1.2.2.2.1 } : T_api_Role) : T_api_Role)) ((Lens.id T_api_Role).comp le_T_api_Role_Grants) 1 2 0 rfl rfl rfl rfl rfl rfl ?_
    refine Sq.fromX 1 rfl ?_
    refine Sq.v (r_load (i := 1) (Lens.id T_api_Role) (r := ({ e1.2.2.1 with f_Grants := e1.2.2.2.1 } : T_api_Role)) ty207 (look_t rfl) rfl rfl rfl) rfl rfl rfl ?_
    obtain ⟨z5, hz5, h⟩ := bind_some h
    refine Sq.v ((r_bsl (r := [z4, ({ e1.2.2.2.2.2.1 with f_Grants := e1.2.2.2.2.2.2.1 } : T_api_Role), ({ e1.2.2.1 with f_Grants := e1.2.2.2.1 } : T_api_Role)]) Try.underlying30 ty207 zr207 rfl rfl (.cons (by simp) (look_t rfl) (.cons (by simp) (look_t rfl) (.cons (by simp) (look_t rfl) (.nil))))).as (some_in hz5)) rfl rfl rfl ?_
    refine Sq.v (r_asg (look_t rfl)) rfl rfl rfl ?_
    refine Sq.nil ?_
    refine To.next ?_
    refine Wp.ret ?_
    refine To.bring 3 rfl ?_
    replace h := some_in h
    subst h
    exact To.endO1 () (.cons_cons _ (List.nil_sublist _)) rfl rfl (rvo_t rfl)
end Go.Proofs.Ytodajdohokmjnaa
