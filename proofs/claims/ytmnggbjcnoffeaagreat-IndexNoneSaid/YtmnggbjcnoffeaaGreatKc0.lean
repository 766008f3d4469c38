/-
  Each function meets its functional program. Conditions: none.
-/
import Derived.Test.YtmnggbjcnoffeaaGreatKd
namespace Go.Proofs.YtmnggbjcnoffeaaGreat
open Go Gv
set_option linter.unusedVariables false
set_option linter.unusedSimpArgs false
set_option maxRecDepth 100000
set_option maxHeartbeats 2000000
theorem C_mcase_New {x0 : List (BitVec 8)} {x1 : Int}  {r : T_mcase_Codes} (h : L_mcase_New x0 x1 = some r) : MeetsO Tryz.prog 15 [VP.of (x0), VP.of (x1)] [] (δ := Nat) (fun d => VP.eq (.pointer (some ⟨d, 0, none⟩))) (fun d => [⟨some d, .var (r : T_mcase_Codes)⟩]) := by
 unfold L_mcase_New at h
 refine MeetsO.of Tryz.func15 rfl Tryz.ntmps15 rfl fun W A => ?_
 refine Qsr ?_
 refine Qv (r_asg (look_e (.pointer none))) ?_
 refine Qnr ?_
 refine Qm ?_
 refine Qm ?_
 refine Q1 (r_len Tryz.underlying22) ?_
 refine Qm ?_
 refine Q2 r_min ?_
 obtain ⟨y1,hy1,h⟩:=Qbs h
 refine Qv (r_slice Tryz.underlying22 ty5 (look_t rfl) .none (.some (look_t rfl)) hy1) ?_
 refine Qbd bu117 zr117 ({ (default : T_mcase_Codes) with f_l := y1 } : T_mcase_Codes) (Qfl le_T_mcase_Codes_l .nil) ?_
 refine Qbx fun p1 => ?_
 refine Qa ?_
 refine Qnx ?_
 refine Wp.ret ?_
 refine To.bring 0 rfl ?_
 obtain rfl:=some_in h
 exact Qo1 p1
theorem C_mcase_Codes_Left {x0 : T_mcase_Codes} {pp0 : Nat} {r : Bool} (h : L_mcase_Codes_Left x0 = some r) : MeetsO Tryz.prog 26 [VP.eq (.pointer (some ⟨pp0, 0, none⟩))] [⟨some pp0, .var (x0 : T_mcase_Codes)⟩] (δ := Unit) (fun d => VP.of (r)) (fun d => [⟨some pp0, .var (x0 : T_mcase_Codes)⟩]) := by
 unfold L_mcase_Codes_Left at h
 refine MeetsO.of Tryz.func26 rfl Tryz.ntmps26 rfl fun W A => ?_
 refine Qsr ?_
 refine Qa ?_
 refine Qns ?_
 refine Wp.draw mixed 10 [some 3, some 4, some 5, some 6, some 7, some 8, some 9, some 10, some 11, some 12] [[], [0], [1], [2], [], [4], [5], [6], [7], [3, 8]] [.val _, .val _, .val _, .val _, .val _, .val _, .val _, .val _, .val _, .val _] [false, false, false, false, false, false, false, false, false, false] (by kernel_rfl) rfl rfl rfl (fun ps1 => ⟨Hm, H1 r_nck, H1 (r_fa fd117_1), Hld 0 le_T_mcase_Codes_at ty3, Hm, H1 r_nck, H1 (r_fa fd117_0), Hld 0 le_T_mcase_Codes_l ty22, H1 (r_len Tryz.underlying22), H2 r_lss, trivial⟩) fun ps1 => ?_
 refine Qa ?_
 refine Qnx ?_
 refine Wp.ret ?_
 refine To.bring 0 rfl ?_
 obtain rfl:=some_in h
 exact Qo1 ()
theorem C_check_TableOf_fn1 {x0 : T_api_Table} {x1 : Int}  {r : Bool} (h : L_check_TableOf_fn1 x0 x1 = some r) : Meets Tryz.prog 119 [VP.of (x0), VP.ptr x1] (VP.of (r)) := by
 unfold L_check_TableOf_fn1 at h
 refine Meets.of Tryz.func119 rfl Tryz.ntmps119 rfl fun W A => ?_
 refine Qsr ?_
 refine Qbx fun p1 => ?_
 refine Qa ?_
 refine Qnr ?_
 refine Q1 (r_fa fd65_0) ?_
 refine Qld 0 le_T_api_Table_ID ty3 ?_
 refine Q1 (r_loadp ty3) ?_
 refine Q2 r_eql ?_
 refine Qa ?_
 refine Qnx ?_
 refine Wp.ret ?_
 obtain rfl:=some_in h
 exact Qe1
theorem C_slices_IndexFunc_api_Table {x0 : List T_api_Table} {x1 : T_api_Table → Option Bool}  {r : Int} (h : L_slices_IndexFunc_api_Table x0 x1 = some r) : Meets Tryz.prog 118 [VP.of (x0), VP.fn1 Tryz.prog x1] (VP.of (r)) := by
 unfold L_slices_IndexFunc_api_Table at h
 refine Meets.of Tryz.func118 rfl Tryz.ntmps118 rfl fun W A => ?_
 refine Qsr ?_
 refine Qa ?_
 refine Qns ?_
 refine Qsr ?_
 refine Qm ?_
 refine Q1 (r_len Tryz.underlying28) ?_
 refine Qm ?_
 refine Qnx ?_
 refine Wp.block ?_
 obtain ⟨e1,hl,h⟩:=Qbs h
 refine Qlp (γ:=Unit) (δ:=Unit) hl [0, 1, 7] (fun s1 g1 => [(4, VP.of (0 : Int)), (8, VP.of (s1))]) (fun s1 g1 => []) (fun q1 => Sum.elim (fun q1 => Exit.exit 0) (fun q1 => Exit.ret) q1) (fun q1 g1 => Sum.elim (fun q1 => [(4, VP.of (0 : Int)), (8, VP.of (q1.1)), (9, VP.of (q1.2))]) (fun q1 => [(4, VP.of (q1.1)), (5, VP.of (q1.2.1)), (8, VP.of (q1.2.2.1)), (9, VP.of (q1.2.2.2.1)), (16, VP.of (q1.2.2.2.2))]) q1) (fun q1 g1 => Sum.elim (fun q1 => []) (fun q1 => []) q1) () (fun s1 r h g1 => ?_) fun g1 => ?_
 ·clear hl
  refine Qsr ?_
  refine Q2 r_lss ?_
  refine Qns ?_
  refine Qcd h (fun h=>?_) fun h=>?_
  ·refine Qkn ?_
   refine Wp.seq ?_
   refine Wp.block ?_
   refine Qsr ?_
   refine Qm ?_
   refine Qa ?_
   refine Qnr ?_
   refine Qm ?_
   refine Qm ?_
   refine Qm ?_
   obtain ⟨k1,hk1,h⟩:=Qbs h
   refine Qix hk1 Tryz.underlying28 ty65 ?_
   refine Q1 (r_loadp ty65) ?_
   obtain ⟨y1,hy1,h⟩:=Qbs h
   refine Qv (r_callF1 (look_t rfl) (look_t rfl) hy1) ?_
   refine Qnx ?_
   refine Qcd h (fun h=>?_) fun h=>?_
   ·refine Qsr ?_
    refine Qm ?_
    refine Qa ?_
    refine Qnx ?_
    refine Wp.ret ?_
    refine To.bret ?_
    refine To.ret ?_
    obtain rfl:=some_in h
    exact Qlv () 0
   ·refine Wp.skip ?_
    refine To.bnorm ?_
    refine To.next ?_
    refine Wp.reg ?_
    refine Q2 r_add ?_
    refine Qm ?_
    refine Sq.nil ?_
    obtain rfl:=some_in h
    exact Qrd () 0
  ·refine Wp.exit ?_
   refine To.exit ?_
   obtain rfl:=some_in h
   exact Qlv () 0
 ·clear hl
  rcases e1 with e1 | e1
  ·simp only [Sum.elim_inl] at h
   refine To.bexit ?_
   refine To.next ?_
   refine Qsr ?_
   refine Qa ?_
   refine Qnx ?_
   refine Wp.ret ?_
   obtain rfl:=some_in h
   exact Qe1
  ·simp only [Sum.elim_inr] at h
   refine To.bret ?_
   refine To.ret ?_
   obtain rfl:=some_in h
   exact Qe1
theorem C_index_kindOf {x0 : T_api_Table}  {r : Int × Int} (h : L_index_kindOf x0 = some r) : Meets Tryz.prog 83 [VP.of (x0)] (VP.tup [VP.of (r.1), VP.of (r.2)]) := by
 unfold L_index_kindOf at h
 refine Meets.of Tryz.func83 rfl Tryz.ntmps83 rfl fun W A => ?_
 refine Qsr ?_
 refine Qbx fun p1 => ?_
 refine Qa ?_
 refine Qa ?_
 refine Qnr ?_
 refine Qa ?_
 refine Qa ?_
 refine Qns ?_
 refine Qsr ?_
 refine Q1 (r_fa fd65_2) ?_
 refine Qld 0 le_T_api_Table_Keys ty62 ?_
 refine Q1 (r_len Tryz.underlying62) ?_
 refine Qm ?_
 refine Qnx ?_
 refine Wp.block ?_
 obtain ⟨e1,hl,h⟩:=Qbs h
 refine Qlp (γ:=Unit) (δ:=Unit) hl [0, 1, 2, 3, 9, 10] (fun s1 g1 => [(4, VP.of (s1.1)), (5, VP.of (s1.2.1)), (11, VP.of (s1.2.2))]) (fun s1 g1 => []) (fun q1 => Exit.exit 0) (fun q1 g1 => [(4, VP.of (q1.1)), (5, VP.of (q1.2.1)), (11, VP.of (q1.2.2.1)), (12, VP.of (q1.2.2.2))]) (fun q1 g1 => []) () (fun s1 r h g1 => ?_) fun g1 => ?_
 ·clear hl
  refine Qsr ?_
  refine Q2 r_lss ?_
  refine Qns ?_
  refine Qcd h (fun h=>?_) fun h=>?_
  ·refine Qkn ?_
   refine Wp.seq ?_
   refine Wp.block ?_
   refine Qsr ?_
   refine Qm ?_
   obtain ⟨k1,hk1,h⟩:=Qbs h
   refine Qix hk1 Tryz.underlying62 ty86 ?_
   refine Q1 (r_loadp ty86) ?_
   refine Qal zr86 fun p2 => ?_
   refine Qa ?_
   refine Qs0 0 ty86 ?_
   refine Qnr ?_
   refine Q1 (r_fa fd86_2) ?_
   refine Qld 0 le_T_api_Key_Kind ty3 ?_
   refine Qnx ?_
   refine Wp.block ?_
   refine Qsr ?_
   refine Q2 r_eql ?_
   refine Qa ?_
   refine Qnx ?_
   obtain ⟨m1,hm1,h⟩:=Qbs h
   refine Qcm (γ:=Unit) [0, 1, 2, 3, 6, 7, 9, 10, 11, 12, 17, 18] (fun g2 => [(4, VP.of (m1.1)), (5, VP.of (m1.2))]) (fun g2 => []) (fun g2 => ?_) (fun hm hc => ?_) fun hm hc => ?_
   ·clear hm1
    refine To.bnorm ?_
    refine To.bnorm ?_
    refine To.next ?_
    refine Wp.reg ?_
    refine Q2 r_add ?_
    refine Qm ?_
    refine Sq.nil ?_
    obtain rfl:=some_in h
    exact Qrd () 1
   ·have h := cond_t hc hm1
    refine Wp.skip ?_
    obtain rfl:=some_in h
    exact Qmt 0 (hm ())
   ·have h := cond_f hc hm1
    refine Qsr ?_
    refine Q2 r_eql ?_
    refine Qa ?_
    refine Qnx ?_
    obtain ⟨m2,hm2,h⟩:=Qbs h
    refine Qcm (γ:=Unit) [0, 1, 2, 3, 6, 7, 9, 10, 11, 12, 17, 18, 20] (fun g3 => [(4, VP.of (m2.1)), (5, VP.of (m2.2))]) (fun g3 => []) (fun g3 => ?_) (fun hm hc => ?_) fun hm hc => ?_
    ·clear hm2
     obtain rfl:=some_in h
     exact Qmt 0 (hm ())
    ·have h := cond_t hc hm2
     refine Wp.reg ?_
     refine Qm ?_
     refine Q2 r_max ?_
     refine Qm ?_
     refine Qa ?_
     refine Qa ?_
     refine Sq.nil ?_
     obtain rfl:=some_in h
     exact Qmt 0 (hm ())
    ·have h := cond_f hc hm2
     refine Wp.reg ?_
     refine Qa ?_
     refine Sq.nil ?_
     obtain rfl:=some_in h
     exact Qmt 0 (hm ())
  ·refine Wp.exit ?_
   refine To.exit ?_
   obtain rfl:=some_in h
   exact Qlv () 0
 ·clear hl
  refine To.bexit ?_
  refine To.next ?_
  refine Qsr ?_
  refine Qm ?_
  refine Qm ?_
  refine Qa ?_
  refine Qa ?_
  refine Qnx ?_
  refine Wp.ret ?_
  obtain rfl:=some_in h
  exact Qe2
theorem C_exact_New {hp : Pool Cell}  {Q : Ref × (Pool Cell) → Prop} (h : L_exact_New hp Q) : MeetsO Tryz.prog 84 [] ([] ++ Ents hp) (δ := {r : Ref × (Pool Cell) // Q r} × Unit) (fun d => VP.of (d.1.1.1)) (fun d => [] ++ Ents d.1.1.2) := by
 unfold L_exact_New at h
 refine MeetsO.of Tryz.func84 rfl Tryz.ntmps84 rfl fun W A => ?_
 refine Qsr ?_
 refine Qv (r_asg (look_nilref)) ?_
 refine Qnr ?_
 refine Sq.mkMapQ (α := Vector T_api_Value 4) (β := Int) 0 rfl (Cell.c222 ([] : List ((Vector T_api_Value 4) × Int))) (fun _ => rfl) rfl fun a1 ha1 => ?_
 replace h := Wm.mk_bind h a1 ha1
 refine Qbd bu224 zr224 { f_ids := (⟨some a1.1⟩ : MRef) : T_exact_Index } (Qfl le_T_exact_Index_ids .nil) ?_
 refine Sq.boxQ 0 rfl (Cell.c224 ({ f_ids := (⟨some a1.1⟩ : MRef) : T_exact_Index })) (fun _ => rfl) (look_t rfl) rfl fun a2 ha2 => ?_
 replace h := Wm.mk_bind h a2 ha2
 refine Qa ?_
 refine Qnx ?_
 refine Wp.ret ?_
 exact To.endO1 (⟨⟨((some a2.1 : Ref), a2.2), h⟩, ()⟩ : {r // _} × _) (.refl _) rfl rfl (rvo_t rfl)
theorem C_check_FieldOf_fn1 {x0 : T_api_Field} {x1 : Int}  {r : Bool} (h : L_check_FieldOf_fn1 x0 x1 = some r) : Meets Tryz.prog 121 [VP.of (x0), VP.ptr x1] (VP.of (r)) := by
 unfold L_check_FieldOf_fn1 at h
 refine Meets.of Tryz.func121 rfl Tryz.ntmps121 rfl fun W A => ?_
 refine Qsr ?_
 refine Qbx fun p1 => ?_
 refine Qa ?_
 refine Qnr ?_
 refine Q1 (r_fa fd119_0) ?_
 refine Qld 0 le_T_api_Field_ID ty3 ?_
 refine Q1 (r_loadp ty3) ?_
 refine Q2 r_eql ?_
 refine Qa ?_
 refine Qnx ?_
 refine Wp.ret ?_
 obtain rfl:=some_in h
 exact Qe1
theorem C_slices_IndexFunc_api_Field {x0 : List T_api_Field} {x1 : T_api_Field → Option Bool}  {r : Int} (h : L_slices_IndexFunc_api_Field x0 x1 = some r) : Meets Tryz.prog 120 [VP.of (x0), VP.fn1 Tryz.prog x1] (VP.of (r)) := by
 unfold L_slices_IndexFunc_api_Field at h
 refine Meets.of Tryz.func120 rfl Tryz.ntmps120 rfl fun W A => ?_
 refine Qsr ?_
 refine Qa ?_
 refine Qns ?_
 refine Qsr ?_
 refine Qm ?_
 refine Q1 (r_len Tryz.underlying24) ?_
 refine Qm ?_
 refine Qnx ?_
 refine Wp.block ?_
 obtain ⟨e1,hl,h⟩:=Qbs h
 refine Qlp (γ:=Unit) (δ:=Unit) hl [0, 1, 7] (fun s1 g1 => [(4, VP.of (0 : Int)), (8, VP.of (s1))]) (fun s1 g1 => []) (fun q1 => Sum.elim (fun q1 => Exit.exit 0) (fun q1 => Exit.ret) q1) (fun q1 g1 => Sum.elim (fun q1 => [(4, VP.of (0 : Int)), (8, VP.of (q1.1)), (9, VP.of (q1.2))]) (fun q1 => [(4, VP.of (q1.1)), (5, VP.of (q1.2.1)), (8, VP.of (q1.2.2.1)), (9, VP.of (q1.2.2.2.1)), (16, VP.of (q1.2.2.2.2))]) q1) (fun q1 g1 => Sum.elim (fun q1 => []) (fun q1 => []) q1) () (fun s1 r h g1 => ?_) fun g1 => ?_
 ·clear hl
  refine Qsr ?_
  refine Q2 r_lss ?_
  refine Qns ?_
  refine Qcd h (fun h=>?_) fun h=>?_
  ·refine Qkn ?_
   refine Wp.seq ?_
   refine Wp.block ?_
   refine Qsr ?_
   refine Qm ?_
   refine Qa ?_
   refine Qnr ?_
   refine Qm ?_
   refine Qm ?_
   refine Qm ?_
   obtain ⟨k1,hk1,h⟩:=Qbs h
   refine Qix hk1 Tryz.underlying24 ty119 ?_
   refine Q1 (r_loadp ty119) ?_
   obtain ⟨y1,hy1,h⟩:=Qbs h
   refine Qv (r_callF1 (look_t rfl) (look_t rfl) hy1) ?_
   refine Qnx ?_
   refine Qcd h (fun h=>?_) fun h=>?_
   ·refine Qsr ?_
    refine Qm ?_
    refine Qa ?_
    refine Qnx ?_
    refine Wp.ret ?_
    refine To.bret ?_
    refine To.ret ?_
    obtain rfl:=some_in h
    exact Qlv () 0
   ·refine Wp.skip ?_
    refine To.bnorm ?_
    refine To.next ?_
    refine Wp.reg ?_
    refine Q2 r_add ?_
    refine Qm ?_
    refine Sq.nil ?_
    obtain rfl:=some_in h
    exact Qrd () 0
  ·refine Wp.exit ?_
   refine To.exit ?_
   obtain rfl:=some_in h
   exact Qlv () 0
 ·clear hl
  rcases e1 with e1 | e1
  ·simp only [Sum.elim_inl] at h
   refine To.bexit ?_
   refine To.next ?_
   refine Qsr ?_
   refine Qa ?_
   refine Qnx ?_
   refine Wp.ret ?_
   obtain rfl:=some_in h
   exact Qe1
  ·simp only [Sum.elim_inr] at h
   refine To.bret ?_
   refine To.ret ?_
   obtain rfl:=some_in h
   exact Qe1
theorem Cq0_1_ordered_New {x0 : T_api_Schema}  {r : T_ordered_List} (h : Lq0_1_ordered_New x0 = some r) : MeetsO Tryz.prog 86 [VP.of (x0)] [] (δ := Nat × (Option Nat × Nat)) (fun d => VP.eq (.pointer (some ⟨d.1, 0, none⟩))) (fun d => [⟨some d.1, .varX (({ r with f_l := [] } : T_ordered_List) : T_ordered_List) [(10, slv d.2.1 (r.f_l).length d.2.2)]⟩, ⟨d.2.1, .row 52 (r.f_l : List T_api_Installed) d.2.2⟩]) := by
 unfold Lq0_1_ordered_New at h
 refine MeetsO.of Tryz.func86 rfl Tryz.ntmps86 rfl fun W A => ?_
 refine Qsr ?_
 refine Qbx fun p1 => ?_
 refine Qv (r_asg (look_nilref)) ?_
 refine Qnr ?_
 refine Ql0 0 ty33 ?_
 refine Qv (r_buildX (b := ({ (default : T_ordered_List) with f_schema := x0 } : T_ordered_List)) [10] zh228_10 rfl bu228 zr228 (.cons le_T_ordered_List_schema rfl (look_t rfl) rfl (by rfl) (.nil))) ?_
 refine Sq.own (α := T_api_Installed) 52 ?_
 refine Sq.boxX (look_t rfl) rfl fun p2 => ?_
 refine Qa ?_
 refine Qnx ?_
 refine Wp.ret ?_
 refine To.clr (γ := T_api_Installed) (b' := (({ ({ (default : T_ordered_List) with f_schema := x0 } : T_ordered_List) with f_l := [] } : T_ordered_List) : T_ordered_List)) ((Lens.id T_ordered_List).comp le_T_ordered_List_l) 0 0 rfl rfl rfl ?_
 refine To.bring 1 rfl ?_
 refine To.bring 1 rfl ?_
 obtain rfl:=some_in h
 exact Qo1 (p2, (none, 0))
end Go.Proofs.YtmnggbjcnoffeaaGreat

namespace Go.Proofs.YtmnggbjcnoffeaaGreat
open Go Gv
set_option linter.unusedVariables false
set_option linter.unusedSimpArgs false
set_option maxRecDepth 100000
set_option maxHeartbeats 2000000
theorem C_trie_Trie_Longest_fn1 {hp : Pool Cell} {x0 : Ref} {x1 : Int} {x2 : Int} {x3 : Int} {x4 : Bool} {pp0 : Nat} {pp1 : Nat} {pp2 : Nat} {pp3 : Nat} {pp4 : Nat} {r : Int × Int × Bool} (h : L_trie_Trie_Longest_fn1 hp x0 x1 x2 x3 x4 = some r) : MeetsO Tryz.prog 249 [VP.eq (.pointer (some ⟨pp0, 0, none⟩)), VP.eq (.pointer (some ⟨pp1, 0, none⟩)), VP.eq (.pointer (some ⟨pp2, 0, none⟩)), VP.eq (.pointer (some ⟨pp3, 0, none⟩)), VP.eq (.pointer (some ⟨pp4, 0, none⟩))] ([⟨some pp0, .var (x0 : Ref)⟩, ⟨some pp1, .var (x1 : Int)⟩, ⟨some pp2, .var (x2 : Int)⟩, ⟨some pp3, .var (x3 : Int)⟩, ⟨some pp4, .var (x4 : Bool)⟩] ++ Ents hp) (δ := Unit) (fun _ => VP.tup []) (fun _ => [⟨some pp0, .var (x0 : Ref)⟩, ⟨some pp1, .var (x1 : Int)⟩, ⟨some pp2, .var (r.1 : Int)⟩, ⟨some pp3, .var (r.2.1 : Int)⟩, ⟨some pp4, .var (r.2.2 : Bool)⟩] ++ Ents hp) := by
 unfold L_trie_Trie_Longest_fn1 at h
 refine MeetsO.of Tryz.func249 rfl Tryz.ntmps249 rfl fun W A => ?_
 refine Qsr ?_
 refine Ql0 0 ty331 ?_
 refine Qv (r_refnnil Tryz.underlying331 (look_t rfl)) ?_
 refine Qm ?_
 refine Qg (fun hb => r_load (i := 0) (Lens.id Ref) (r := x0) ty331 (look_t rfl) rfl rfl rfl) ?_
 obtain ⟨o1,ho1,h⟩:=Qbs h
 refine Qg (fun hb => r_nck (look_ref (look_tc rfl hb) (condM_some ho1 hb))) ?_
 refine Qg1 (r_fa fd335_1) ?_
 obtain ⟨c1,hc1,h⟩:=Qbs h
 refine Qg (fun hb => r_loadM ((Lens.id T_trie_node).comp le_T_trie_node_used) (r := c1.f_used) ty4 (look_tc rfl hb) (pmem (n := 5) rfl (rds335 (condM_some hc1 hb)) rfl) rfl rfl) ?_
 refine Qan ?_
 refine Qnx ?_
 obtain ⟨m1,hm1,h⟩:=Qbs h
 refine Wp.condM (γ := Unit) (fun g1 => [(0, VP.eq (.pointer (some ⟨pp0, 0, none⟩))), (1, VP.eq (.pointer (some ⟨pp1, 0, none⟩))), (2, VP.eq (.pointer (some ⟨pp2, 0, none⟩))), (3, VP.eq (.pointer (some ⟨pp3, 0, none⟩))), (4, VP.eq (.pointer (some ⟨pp4, 0, none⟩))), (12, VP.of (x0.isSome && c1.f_used))]) (fun g1 => (⟨some pp0, .var (x0 : Ref)⟩ :: ⟨some pp1, .var (x1 : Int)⟩ :: ⟨some pp2, .var (m1.1 : Int)⟩ :: ⟨some pp3, .var (m1.2.1 : Int)⟩ :: ⟨some pp4, .var (m1.2.2 : Bool)⟩ :: Ents hp)) (look_t rfl) (fun g1 => ?_) (fun hm hc => ?_) (fun hm hc => ?_)
 ·clear hm1
  refine To.endn ?_
  refine To.bring 4 rfl ?_
  refine To.bring 4 rfl ?_
  refine To.bring 4 rfl ?_
  refine To.bring 4 rfl ?_
  refine To.bring 4 rfl ?_
  obtain rfl:=some_in h
  exact To.endO0 () (.cons_cons _ (.cons_cons _ (.cons_cons _ (.cons_cons _ (.cons_cons _ (.refl _)))))) rfl rfl
 ·have h := cond_t hc hm1
  obtain ⟨o2,ho2,h⟩:=Qbs h
  obtain ⟨c2,hc2,h⟩:=Qbs h
  refine Qwl [0, 1, 2, 3, 4, 5, 6, 7, 8, 9, 10, 11, 12] ?_
  refine Wp.drawQ 5 mixed (Hp 13 [] (1 :: []) _ :: Hp 14 [] (0 :: []) _ :: Hp 15 (1 :: []) [] _ :: Hp 16 (2 :: []) [] _ :: ⟨some 17, (3 :: []), [], [], fun _ => VP.of (c2.f_id), fun _ _ => ⟨none, .dead⟩⟩ :: ⟨none, (0 :: []), (2 :: []), (2 :: []), fun _ => VP.any, fun hd _ => ⟨some pp2, .var (x1 : Int)⟩⟩ :: ⟨none, (4 :: []), (3 :: []), (3 :: []), fun _ => VP.any, fun hd _ => ⟨some pp3, .var (c2.f_id : Int)⟩⟩ :: ⟨none, [], (4 :: []), (4 :: []), fun _ => VP.any, fun hd _ => ⟨some pp4, .var (true : Bool)⟩⟩ :: []) _ (0 :: 1 :: 2 :: 3 :: 4 :: 5 :: 6 :: 7 :: 8 :: 9 :: 10 :: 11 :: 12 :: []) rfl rfl (by kernel_rfl) (by kernel_rfl) ⟨HeadD.q (Dl0 1 ty3), HeadD.q (Dl0 0 ty331), HeadD.q (Dv fun hd E' L' hE hL => r_nck (look_ref (look_t (hE _ _ rfl)) ho2)), HeadD.q (D1 (r_fa fd335_2)), ?_, ?_, ?_, ?_, trivial⟩ fun hd1 => ?_
  ·intro hd E' L' hE hL hP
   refine Qv (r_loadM ((Lens.id T_trie_node).comp le_T_trie_node_id) (r := c2.f_id) ty3 (look_t (hE _ _ rfl)) (pmem (n := 5) (hP.trans rfl) (rds335 hc2) rfl) rfl rfl) ?_
   refine Sq.nil ?_
   exact To.fin (gm []) rfl rfl
  ·intro hd E' L' hE hL hP
   refine Sq.store (i := 2) (Lens.id Int) (v := (x1 : Int)) (b' := (x1 : Int)) ty3 (look_t (hE _ _ rfl)) (look_t (hE _ _ rfl)) (hL 2 _ rfl rfl) rfl rfl ?_
   refine Sq.nil ?_
   exact To.fin (gm []) rfl rfl
  ·intro hd E' L' hE hL hP
   refine Sq.store (i := 3) (Lens.id Int) (v := (c2.f_id : Int)) (b' := (c2.f_id : Int)) ty3 (look_t (hE _ _ rfl)) (look_t (hE _ _ rfl)) (hL 3 _ rfl rfl) rfl rfl ?_
   refine Sq.nil ?_
   exact To.fin (gm []) rfl rfl
  ·intro hd E' L' hE hL hP
   refine Sq.store (i := 4) (Lens.id Bool) (v := (true : Bool)) (b' := (true : Bool)) ty4 (look_t (hE _ _ rfl)) (look_bool true) (hL 4 _ rfl rfl) rfl rfl ?_
   refine Sq.nil ?_
   exact To.fin (gm []) rfl rfl
  refine To.eqL (L2 := (⟨some pp0, .var (x0 : Ref)⟩ :: ⟨some pp1, .var (x1 : Int)⟩ :: ⟨some pp2, .var (x1 : Int)⟩ :: ⟨some pp3, .var (c2.f_id : Int)⟩ :: ⟨some pp4, .var (true : Bool)⟩ :: Ents hp)) rfl ?_
  refine Qtl [0, 1, 2, 3, 4, 5, 6, 7, 8, 9, 10, 11, 12, 13, 14, 15, 16, 17] ?_
  obtain rfl:=some_in h
  exact Qmt 0 (hm ())
 ·have h := cond_f hc hm1
  refine Wp.skip ?_
  obtain rfl:=some_in h
  exact Qmt 0 (hm ())
theorem C_ordered_List_matching {x1 : Vector T_api_Value 4} {u0 : Option Addr} {r : (Vector T_api_Value 4)} (h : L_ordered_List_matching x1 = some r) : Meets Tryz.prog 271 [VP.eq (.pointer u0), VP.of (x1)] (VP.clo 277 [VP.pv (VP.eq (.pointer u0)), VP.ptr r]) := by
 unfold L_ordered_List_matching at h
 refine Meets.of Tryz.func271 rfl Tryz.ntmps271 rfl fun W A => ?_
 refine Qsr ?_
 refine Sq.boxF (look_t rfl) one_eqp rfl ?_
 refine Qbx fun p2 => ?_
 refine Qv (r_asg (look_e .nilFunc)) ?_
 refine Qnr ?_
 refine Sq.share (α := Vector T_api_Value 4) 0 3 rfl rfl ?_
 refine Qv (r_mkI (f := 277) (τs := [VP.pv (VP.eq (.pointer u0)), VP.ptr x1]) ⟨look_t rfl, look_t rfl, trivial⟩) ?_
 refine Qa ?_
 refine Qnx ?_
 refine Wp.ret ?_
 obtain rfl:=some_in h
 exact Qe1
theorem C_value_Compare {x0 : T_api_Value} {x1 : T_api_Value}  {r : Int} (h : L_value_Compare x0 x1 = some r) : Meets Tryz.prog 137 [VP.of (x0), VP.of (x1)] (VP.of (r)) := by
 unfold L_value_Compare at h
 refine Meets.of Tryz.func137 rfl Tryz.ntmps137 rfl fun W A => ?_
 refine Qsr ?_
 refine Qbx fun p1 => ?_
 refine Qbx fun p2 => ?_
 refine Qa ?_
 refine Qns ?_
 refine Wp.block ?_
 refine Qsr ?_
 refine Ql0 1 ty43 ?_
 refine Ql0 0 ty43 ?_
 refine Q2 (r_eqA eqv43 rfl eqg43 rfl) ?_
 refine Qa ?_
 refine Qnx ?_
 refine Qcd h (fun h=>?_) fun h=>?_
 ·refine Qsr ?_
  refine Qa ?_
  refine Qnx ?_
  refine Wp.ret ?_
  refine To.bret ?_
  refine To.ret ?_
  obtain rfl:=some_in h
  exact Qe1
 ·refine Qsr ?_
  refine Q1 (r_fa fd43_0) ?_
  refine Qld 1 le_T_api_Value_Hi ty41 ?_
  refine Q1 (r_fa fd43_0) ?_
  refine Qld 0 le_T_api_Value_Hi ty41 ?_
  refine Q2 r_lss64 ?_
  refine Qm ?_
  refine Qg1 (r_fa fd43_0) ?_
  refine Qg (fun hb => r_load (i := 1) ((Lens.id T_api_Value).comp le_T_api_Value_Hi) (r := x0.f_Hi) ty41 (look_tc rfl hb) rfl rfl rfl) ?_
  refine Qg1 (r_fa fd43_0) ?_
  refine Qg (fun hb => r_load (i := 0) ((Lens.id T_api_Value).comp le_T_api_Value_Hi) (r := x1.f_Hi) ty41 (look_tc rfl hb) rfl rfl rfl) ?_
  refine Qg2 r_eql64 ?_
  refine Qg1 r_move ?_
  refine Sq.gg (fun hb => r_fa fd43_1 (look_t rfl)) rfl rfl rfl rfl rfl ?_
  refine Sq.gg (fun hb => r_load (i := 1) ((Lens.id T_api_Value).comp le_T_api_Value_Lo) (r := x0.f_Lo) ty41 (look_tc rfl hb) rfl rfl rfl) rfl rfl rfl rfl rfl ?_
  refine Sq.gg (fun hb => r_fa fd43_1 (look_t rfl)) rfl rfl rfl rfl rfl ?_
  refine Sq.gg (fun hb => r_load (i := 0) ((Lens.id T_api_Value).comp le_T_api_Value_Lo) (r := x1.f_Lo) ty41 (look_tc rfl hb) rfl rfl rfl) rfl rfl rfl rfl rfl ?_
  refine Sq.gg (fun hb => r_lss64 (look_tc rfl hb) (look_tc rfl hb)) rfl rfl rfl rfl rfl ?_
  refine Qg (fun hb => r_and (look_tc rfl hb) (look_t rfl) (fun h => ⟨hb, h⟩)) ?_
  obtain ⟨z1,hz1,h⟩:=Qbs h
  refine Qn hz1 (r_or (look_t rfl) (look_t rfl) (fun h => h)) ?_
  refine Qa ?_
  refine Qnx ?_
  refine Qcd h (fun h=>?_) fun h=>?_
  ·refine Qsr ?_
   refine Qa ?_
   refine Qnx ?_
   refine Wp.ret ?_
   refine To.bret ?_
   refine To.ret ?_
   obtain rfl:=some_in h
   exact Qe1
  ·refine Wp.skip ?_
   refine To.bnorm ?_
   refine To.next ?_
   refine Qsr ?_
   refine Qa ?_
   refine Qnx ?_
   refine Wp.ret ?_
   obtain rfl:=some_in h
   exact Qe1
theorem C_index_Index_Kind {hp : Pool Cell} {x0 : Ref}  {r : Int} (h : L_index_Index_Kind hp x0 = some r) : MeetsO Tryz.prog 42 [VP.of (x0)] ([] ++ Ents hp) (δ := Unit) (fun _ => VP.of (r)) (fun _ => [] ++ Ents hp) := by
 unfold L_index_Index_Kind at h
 refine MeetsO.of Tryz.func42 rfl Tryz.ntmps42 rfl fun W A => ?_
 refine Qsr ?_
 refine Qa ?_
 refine Qns ?_
 refine Qsr ?_
 refine Qm ?_
 refine Qv (r_refnil Tryz.underlying37 (look_t rfl)) ?_
 refine Qnx ?_
 refine Qcd h (fun h=>?_) fun h=>?_
 ·refine Qsr ?_
  refine Qa ?_
  refine Qnx ?_
  refine Wp.ret ?_
  refine To.ret ?_
  obtain rfl:=some_in h
  exact To.endO1 () (.refl _) rfl rfl (rvo_t rfl)
 ·refine Qkn ?_
  refine Qsr ?_
  refine Qm ?_
  obtain ⟨o1,ho1,h⟩:=Qbs h
  refine Qv (r_nck (look_ref (look_t rfl) ho1)) ?_
  refine Q1 (r_fa fd135_0) ?_
  obtain ⟨c1,hc1,h⟩:=Qbs h
  refine Qv (r_loadM ((Lens.id T_index_Index).comp le_T_index_Index_kind) (r := c1.f_kind) ty3 (look_t rfl) (pmem (n := 0) rfl (rds135 hc1) rfl) rfl rfl) ?_
  refine Qa ?_
  refine Qnx ?_
  refine Wp.ret ?_
  obtain rfl:=some_in h
  exact To.endO1 () (.refl _) rfl rfl (rvo_t rfl)
theorem C_index_Index_Len {hp : Pool Cell} {x0 : Ref}  {r : Int} (h : L_index_Index_Len hp x0 = some r) : MeetsO Tryz.prog 43 [VP.of (x0)] ([] ++ Ents hp) (δ := Unit) (fun _ => VP.of (r)) (fun _ => [] ++ Ents hp) := by
 unfold L_index_Index_Len at h
 refine MeetsO.of Tryz.func43 rfl Tryz.ntmps43 rfl fun W A => ?_
 refine Qsr ?_
 refine Qa ?_
 refine Qns ?_
 refine Qsr ?_
 refine Qm ?_
 refine Qv (r_refnil Tryz.underlying37 (look_t rfl)) ?_
 refine Qnx ?_
 refine Qcd h (fun h=>?_) fun h=>?_
 ·refine Qsr ?_
  refine Qa ?_
  refine Qnx ?_
  refine Wp.ret ?_
  refine To.ret ?_
  obtain rfl:=some_in h
  exact To.endO1 () (.refl _) rfl rfl (rvo_t rfl)
 ·refine Qkn ?_
  refine Qsr ?_
  refine Qm ?_
  obtain ⟨o1,ho1,h⟩:=Qbs h
  refine Qv (r_nck (look_ref (look_t rfl) ho1)) ?_
  refine Q1 (r_fa fd135_3) ?_
  obtain ⟨c1,hc1,h⟩:=Qbs h
  refine Qv (r_loadM ((Lens.id T_index_Index).comp le_T_index_Index_entries) (r := c1.f_entries) ty133 (look_t rfl) (pmem (n := 0) rfl (rds135 hc1) rfl) rfl rfl) ?_
  obtain ⟨o2,ho2,h⟩:=Qbs h
  obtain ⟨c2,hc2,h⟩:=Qbs h
  refine Qv (r_mlenM Tryz.underlying133 (look_mref (look_t rfl) ho2) (pmem (n := 0) rfl (rds133 hc2) rfl)) ?_
  refine Qa ?_
  refine Qnx ?_
  refine Wp.ret ?_
  obtain rfl:=some_in h
  exact To.endO1 () (.refl _) rfl rfl (rvo_t rfl)
theorem C_exact_Index_Put {hp : Pool Cell} {x0 : Ref} {x1 : Vector T_api_Value 4} {x2 : Int}  {r : Bool × (Pool Cell)} (h : L_exact_Index_Put hp x0 x1 x2 = some r) : MeetsO Tryz.prog 233 [VP.of (x0), VP.of (x1), VP.of (x2)] ([] ++ Ents hp) (δ := Unit) (fun d => VP.of (r.1)) (fun d => [] ++ Ents r.2) := by
 unfold L_exact_Index_Put at h
 refine MeetsO.of Tryz.func233 rfl Tryz.ntmps233 rfl fun W A => ?_
 refine Qsr ?_
 refine Qbx fun p1 => ?_
 refine Qa ?_
 refine Qns ?_
 refine Qsr ?_
 refine Qm ?_
 refine Qv (r_refnil Tryz.underlying163 (look_t rfl)) ?_
 refine Qnx ?_
 refine Qcd h (fun h=>?_) fun h=>?_
 ·refine Qsr ?_
  refine Qa ?_
  refine Qnx ?_
  refine Wp.ret ?_
  refine To.ret ?_
  obtain rfl:=some_in h
  exact To.endO1 () (.cons _ (.refl _)) rfl rfl (rvo_t rfl)
 ·refine Qkn ?_
  refine Wp.seq ?_
  refine Wp.seq ?_
  obtain ⟨o1,ho1,h⟩:=Qbs h
  obtain ⟨c1,hc1,h⟩:=Qbs h
  obtain ⟨o2,ho2,h⟩:=Qbs h
  obtain ⟨c2,hc2,h⟩:=Qbs h
  obtain ⟨z1,hz1,h⟩:=Qbs h
  refine Wp.draw mixed 10 [some 12, some 13, some 14, some 15, some 16, some 17, some 11, some 18, some 19, some 7] [[], [0], [1], [2], [], [3, 4], [5], [6], [6], [7]] [.val _, .val _, .val _, .val _, .val _, .val _, .val _, .val _, .val _, .val _] [false, false, false, false, false, false, false, false, false, false] (by kernel_rfl) rfl rfl rfl (fun ps1 => ⟨Hm, Hv fun L' hL => r_nck (look_ref (look_t rfl) ho1), H1 (r_fa fd224_0), Hv fun L' hL => r_loadM ((Lens.id T_exact_Index).comp le_T_exact_Index_ids) (r := c1.f_ids) ty222 (look_t rfl) (dmem (fun i e q => hL i e q rfl) (pmem (n := 1) rfl (rds224 hc1) rfl)) rfl rfl, Hl0 0 ty45, Hv fun L' hL => r_lookM2 (r := z1) Tryz.underlying222 kt319 zr3 (look_mref (look_t rfl) ho2) (look_t rfl) (dmem (fun i e q => hL i e q rfl) (pmem (n := 1) rfl (rds222 hc2) rfl)) (some_in hz1), Hm, Hxt, Hxt, Ha, trivial⟩) fun ps1 => ?_
  refine Qa ?_
  refine Qnr ?_
  refine Qm ?_
  refine Qnx ?_
  refine Qcd h (fun h=>?_) fun h=>?_
  ·refine Qsr ?_
   refine Qa ?_
   refine Qnx ?_
   refine Wp.ret ?_
   refine To.ret ?_
   obtain rfl:=some_in h
   exact To.endO1 () (.cons _ (.refl _)) rfl rfl (rvo_t rfl)
  ·refine Qkn ?_
   refine Wp.seq ?_
   refine Wp.draw mixed 6 [some 21, some 22, some 23, some 24, some 25, some 26] [[], [0], [1], [2], [], []] [.val _, .val _, .val _, .val _, .val _, .val _] [false, false, false, false, false, false] (by kernel_rfl) rfl rfl rfl (fun ps2 => ⟨Hm, Hv fun L' hL => r_nck (look_ref (look_t rfl) ho1), H1 (r_fa fd224_0), Hv fun L' hL => r_loadM ((Lens.id T_exact_Index).comp le_T_exact_Index_ids) (r := c1.f_ids) ty222 (look_t rfl) (dmem (fun i e q => hL i e q rfl) (pmem (n := 1) rfl (rds224 hc1) rfl)) rfl rfl, Hl0 0 ty45, Hm, trivial⟩) fun ps2 => ?_
   obtain ⟨hp1,hhp1,h⟩:=Qbs h
   refine Sq.mputQ (k' := Cell.c222 (mput c2 x1 x2)) 1 rfl (by first | exact .inl rfl | exact .inr rfl) Tryz.underlying222 kt319 (look_mref (look_t rfl) ho2) (look_t rfl) (look_t rfl) (rds222 hc2) rfl rfl rfl (some_in hhp1) ?_
   refine Qnr ?_
   refine Qa ?_
   refine Qnx ?_
   refine Wp.ret ?_
   obtain rfl:=some_in h
   exact To.endO1 () (.cons _ (.refl _)) rfl rfl (rvo_t rfl)
end Go.Proofs.YtmnggbjcnoffeaaGreat

namespace Go.Proofs.YtmnggbjcnoffeaaGreat
open Go Gv
set_option linter.unusedVariables false
set_option linter.unusedSimpArgs false
set_option maxRecDepth 100000
set_option maxHeartbeats 2000000
end Go.Proofs.YtmnggbjcnoffeaaGreat

namespace Go.Proofs.YtmnggbjcnoffeaaGreat
open Go Gv
set_option linter.unusedVariables false
set_option linter.unusedSimpArgs false
set_option maxRecDepth 100000
set_option maxHeartbeats 2000000
theorem C_index_point {x0 : T_api_Entry}  {r : (Vector T_api_Value 4)} (h : L_index_point x0 = some r) : Meets Tryz.prog 232 [VP.of (x0)] (VP.of (r)) := by
 unfold L_index_point at h
 refine Meets.of Tryz.func232 rfl Tryz.ntmps232 rfl fun W A => ?_
 refine Qsr ?_
 refine Qbx fun p1 => ?_
 refine Qal zr45 fun p2 => ?_
 refine Qnr ?_
 refine Qal zr45 fun p3 => ?_
 refine Qns ?_
 refine Qsr ?_
 refine Q1 (r_fa fd50_1) ?_
 refine Qld 2 le_T_api_Entry_Matches ty47 ?_
 refine Q1 (r_fa fd50_1) ?_
 refine Qld 2 le_T_api_Entry_Matches ty47 ?_
 refine Q1 (r_len Tryz.underlying47) ?_
 refine Q2 r_min ?_
 obtain ⟨y1,hy1,h⟩:=Qbs h
 refine Qv (r_slice Tryz.underlying47 ty88 (look_t rfl) .none (.some (look_t rfl)) hy1) ?_
 refine Q1 (r_len Tryz.underlying47) ?_
 refine Qm ?_
 refine Qnx ?_
 refine Wp.block ?_
 obtain ⟨e1,hl,h⟩:=Qbs h
 refine Qlp (γ:=Unit) (δ:=Unit) hl [0, 1, 2, 3, 12, 13] (fun s1 g1 => [(14, VP.of (s1.1))]) (fun s1 g1 => [(0, ⟨some p3, .var (s1.2 : Vector T_api_Value 4)⟩)]) (fun q1 => Exit.exit 0) (fun q1 g1 => [(14, VP.of (q1.1)), (15, VP.of (q1.2.1))]) (fun q1 g1 => [(0, ⟨some p3, .var (q1.2.2 : Vector T_api_Value 4)⟩)]) () (fun s1 r h g1 => ?_) fun g1 => ?_
 ·clear hl
  refine Qsr ?_
  refine Q2 r_lss ?_
  refine Qns ?_
  refine Qcd h (fun h=>?_) fun h=>?_
  ·refine Qkn ?_
   refine Wp.seq ?_
   refine Wp.block ?_
   refine Qsr ?_
   refine Qm ?_
   obtain ⟨k1,hk1,h⟩:=Qbs h
   refine Qix hk1 Tryz.underlying47 ty88 ?_
   refine Q1 (r_loadp ty88) ?_
   refine Qal zr88 fun p4 => ?_
   refine Qa ?_
   refine Qs0 0 ty88 ?_
   refine Qnx ?_
   refine Wp.reg ?_
   refine Qm ?_
   refine Q1 (r_fa fd88_1) ?_
   refine Qld 0 le_T_api_Match_Value ty43 ?_
   obtain ⟨k2,hk2,h⟩:=Qbs h
   refine Qv (r_ia (k := k2) ar45 (look_t rfl) (look_t rfl) (idx_some hk2)) ?_
   refine Qst 1 ((Lens.id (Vector T_api_Value 4)).comp (Lens.idx (α := T_api_Value) 4 k2 (idx_some hk2).1)) ty43 ?_
   refine Sq.nil ?_
   refine To.bnorm ?_
   refine To.next ?_
   refine Wp.reg ?_
   refine Q2 r_add ?_
   refine Qm ?_
   refine Sq.nil ?_
   obtain rfl:=some_in h
   exact Qrd () 1
  ·refine Wp.exit ?_
   refine To.exit ?_
   obtain rfl:=some_in h
   exact Qlv () 0
 ·clear hl
  refine To.bexit ?_
  refine To.next ?_
  refine Qsr ?_
  refine Ql0 0 ty45 ?_
  refine Qs0 1 ty45 ?_
  refine Qnx ?_
  refine Wp.ret ?_
  obtain rfl:=some_in h
  exact To.end1 rfl (Qrc 1 ty45)
theorem C_exact_Index_Get {hp : Pool Cell} {x0 : Ref} {x1 : Vector T_api_Value 4}  {r : Int × Bool} (h : L_exact_Index_Get hp x0 x1 = some r) : MeetsO Tryz.prog 231 [VP.of (x0), VP.of (x1)] ([] ++ Ents hp) (δ := Unit) (fun _ => VP.tup [VP.of (r.1), VP.of (r.2)]) (fun _ => [] ++ Ents hp) := by
 unfold L_exact_Index_Get at h
 refine MeetsO.of Tryz.func231 rfl Tryz.ntmps231 rfl fun W A => ?_
 refine Qsr ?_
 refine Qbx fun p1 => ?_
 refine Qa ?_
 refine Qa ?_
 refine Qns ?_
 refine Qsr ?_
 refine Qm ?_
 refine Qv (r_refnil Tryz.underlying163 (look_t rfl)) ?_
 refine Qnx ?_
 refine Qcd h (fun h=>?_) fun h=>?_
 ·refine Qsr ?_
  refine Qa ?_
  refine Qa ?_
  refine Qnx ?_
  refine Wp.ret ?_
  refine To.ret ?_
  obtain rfl:=some_in h
  exact To.endO2 () (.cons _ (.refl _)) rfl rfl (rvo_t rfl) (rvo_t rfl)
 ·refine Qkn ?_
  refine Wp.seq ?_
  obtain ⟨o1,ho1,h⟩:=Qbs h
  obtain ⟨c1,hc1,h⟩:=Qbs h
  obtain ⟨o2,ho2,h⟩:=Qbs h
  obtain ⟨c2,hc2,h⟩:=Qbs h
  obtain ⟨z1,hz1,h⟩:=Qbs h
  refine Wp.draw mixed 10 [some 11, some 12, some 13, some 14, some 15, some 16, some 10, some 17, some 18, some 6] [[], [0], [1], [2], [], [3, 4], [5], [6], [6], [7]] [.val _, .val _, .val _, .val _, .val _, .val _, .val _, .val _, .val _, .val _] [false, false, false, false, false, false, false, false, false, false] (by kernel_rfl) rfl rfl rfl (fun ps1 => ⟨Hm, Hv fun L' hL => r_nck (look_ref (look_t rfl) ho1), H1 (r_fa fd224_0), Hv fun L' hL => r_loadM ((Lens.id T_exact_Index).comp le_T_exact_Index_ids) (r := c1.f_ids) ty222 (look_t rfl) (dmem (fun i e q => hL i e q rfl) (pmem (n := 1) rfl (rds224 hc1) rfl)) rfl rfl, Hl0 0 ty45, Hv fun L' hL => r_lookM2 (r := z1) Tryz.underlying222 kt319 zr3 (look_mref (look_t rfl) ho2) (look_t rfl) (dmem (fun i e q => hL i e q rfl) (pmem (n := 1) rfl (rds222 hc2) rfl)) (some_in hz1), Hm, Hxt, Hxt, Ha, trivial⟩) fun ps1 => ?_
  refine Qa ?_
  refine Qnr ?_
  refine Qm ?_
  refine Qm ?_
  refine Qa ?_
  refine Qa ?_
  refine Qnx ?_
  refine Wp.ret ?_
  obtain rfl:=some_in h
  exact To.endO2 () (.cons _ (.refl _)) rfl rfl (rvo_t rfl) (rvo_t rfl)
theorem C_index_prefixed_split {x0 : T_index_prefixed} {x1 : Vector T_api_Value 4}  {r : (Vector T_api_Value 4) × T_api_Value} (h : L_index_prefixed_split x0 x1 = some r) : Meets Tryz.prog 241 [VP.of (x0), VP.of (x1)] (VP.tup [VP.of (r.1), VP.of (r.2)]) := by
 unfold L_index_prefixed_split at h
 refine Meets.of Tryz.func241 rfl Tryz.ntmps241 rfl fun W A => ?_
 refine Qsr ?_
 refine Qbx fun p1 => ?_
 refine Qbx fun p2 => ?_
 refine Qal zr320 fun p3 => ?_
 refine Qal zr43 fun p4 => ?_
 refine Qnr ?_
 refine Q1 (r_fa fd169_0) ?_
 refine Qld 3 le_T_index_prefixed_key ty3 ?_
 obtain ⟨k1,hk1,h⟩:=Qbs h
 refine Qv (r_ia (k := k1) ar45 (look_t rfl) (look_t rfl) (idx_some hk1)) ?_
 refine Qld 2 ((Lens.id (Vector T_api_Value 4)).comp (Lens.idx (α := T_api_Value) 4 k1 (idx_some hk1).1)) ty43 ?_
 refine Qal zr43 fun p5 => ?_
 refine Qs0 0 ty43 ?_
 refine Qnr ?_
 refine Q1 (r_fa fd169_0) ?_
 refine Qld 4 le_T_index_prefixed_key ty3 ?_
 refine Qbd bu43 zr43 (default : T_api_Value) .nil ?_
 obtain ⟨k2,hk2,h⟩:=Qbs h
 refine Qv (r_ia (k := k2) ar45 (look_t rfl) (look_t rfl) (idx_some hk2)) ?_
 refine Qst 3 ((Lens.id (Vector T_api_Value 4)).comp (Lens.idx (α := T_api_Value) 4 k2 (idx_some hk2).1)) ty43 ?_
 refine Qns ?_
 refine Wp.draw mixed 3 [some 15, some 16, none] [[], [], [0]] [.val _, .val _, .sto 2 (.var ((vset x1 k2 (default : T_api_Value)) : Vector T_api_Value 4))] [false, false, true] (by kernel_rfl) rfl rfl rfl (fun ps1 => ⟨Hl0 3 ty45, Hl0 0 ty43, ⟨_, _, rfl, fun L' hL => so_var (i := 2) (Lens.id (Vector T_api_Value 4)) (v := ((vset x1 k2 (default : T_api_Value)) : Vector T_api_Value 4)) (b' := ((vset x1 k2 (default : T_api_Value)) : Vector T_api_Value 4)) ty320 (look_t rfl) (look_t rfl) (hL _ _ rfl) rfl rfl⟩, trivial⟩) fun ps1 => ?_
 refine Qs0 1 ty43 ?_
 refine Qnx ?_
 refine Wp.ret ?_
 obtain rfl:=some_in h
 exact To.end2 rfl (Qrc 2 ty320) (Qrc 1 ty43)
theorem C_value_within {x0 : Int}  {r : Int} (h : L_value_within x0 = some r) : Meets Tryz.prog 205 [VP.of (x0)] (VP.of (r)) := by
 unfold L_value_within at h
 refine Meets.of Tryz.func205 rfl Tryz.ntmps205 rfl fun W A => ?_
 refine Qsr ?_
 refine Qa ?_
 refine Qnr ?_
 refine Qm ?_
 refine Q2 r_max ?_
 refine Q2 r_min ?_
 refine Qa ?_
 refine Qnx ?_
 refine Wp.ret ?_
 obtain rfl:=some_in h
 exact Qe1
theorem C_value_Right {x0 : T_api_Value} {x1 : Int}  {r : T_api_Value} (h : L_value_Right x0 x1 = some r) : Meets Tryz.prog 204 [VP.of (x0), VP.of (x1)] (VP.of (r)) := by
 unfold L_value_Right at h
 refine Meets.of Tryz.func204 rfl Tryz.ntmps204 rfl fun W A => ?_
 refine Qsr ?_
 refine Qbx fun p1 => ?_
 refine Qal zr43 fun p2 => ?_
 refine Qns ?_
 refine Wp.block ?_
 refine Qsr ?_
 refine Qm ?_
 refine Q2 r_leq ?_
 refine Qa ?_
 refine Qnx ?_
 refine Qcd h (fun h=>?_) fun h=>?_
 ·refine Qsr ?_
  refine Ql0 1 ty43 ?_
  refine Qs0 0 ty43 ?_
  refine Qnx ?_
  refine Wp.ret ?_
  refine To.bret ?_
  refine To.ret ?_
  obtain rfl:=some_in h
  exact To.end1 rfl (Qrc 0 ty43)
 ·refine Qsr ?_
  refine Qm ?_
  refine Q2 r_geq ?_
  refine Qa ?_
  refine Qnx ?_
  refine Qcd h (fun h=>?_) fun h=>?_
  ·refine Qsr ?_
   refine Q1 (r_fa fd43_0) ?_
   refine Qld 1 le_T_api_Value_Hi ty41 ?_
   refine Qm ?_
   refine Q2 r_sub ?_
   refine Q1 (r_ci64 Tryz.underlying3 Tryz.underlying130) ?_
   refine Q2 r_shr64 ?_
   obtain ⟨z1,hz1,h⟩:=Qbs h
   refine Qn hz1 (r_build (b := ({ (default : T_api_Value) with f_Lo := x0.f_Hi >>> (BitVec.ofInt 64 (w64 (x1 - 64))).toNat } : T_api_Value)) rfl bu43 zr43 (.cons le_T_api_Value_Lo rfl (look_t rfl) rfl (.nil))) ?_
   refine Qs0 0 ty43 ?_
   refine Qnx ?_
   refine Wp.ret ?_
   refine To.bret ?_
   refine To.ret ?_
   obtain rfl:=some_in h
   exact To.end1 rfl (Qrc 0 ty43)
  ·refine Wp.skip ?_
   refine To.bnorm ?_
   refine To.next ?_
   refine Qsr ?_
   refine Q1 (r_fa fd43_0) ?_
   refine Qld 1 le_T_api_Value_Hi ty41 ?_
   refine Qm ?_
   refine Q1 (r_ci64 Tryz.underlying3 Tryz.underlying130) ?_
   refine Q2 r_shr64 ?_
   refine Q1 (r_fa fd43_1) ?_
   refine Qld 1 le_T_api_Value_Lo ty41 ?_
   refine Qm ?_
   refine Q1 (r_ci64 Tryz.underlying3 Tryz.underlying130) ?_
   refine Q2 r_shr64 ?_
   refine Q1 (r_fa fd43_0) ?_
   refine Qld 1 le_T_api_Value_Hi ty41 ?_
   refine Qm ?_
   refine Q2 r_sub ?_
   refine Q1 (r_ci64 Tryz.underlying3 Tryz.underlying130) ?_
   refine Q2 r_shl64 ?_
   obtain ⟨z2,hz2,h⟩:=Qbs h
   refine Qn hz2 (r_or64 (look_t rfl) (look_t rfl)) ?_
   obtain ⟨z3,hz3,h⟩:=Qbs h
   refine Qn hz3 (r_build (b := { f_Hi := x0.f_Hi >>> (BitVec.ofInt 64 x1).toNat, f_Lo := z2 : T_api_Value }) rfl bu43 zr43 (.cons le_T_api_Value_Hi rfl (look_t rfl) rfl (.cons le_T_api_Value_Lo rfl (look_t rfl) rfl (.nil)))) ?_
   refine Qs0 0 ty43 ?_
   refine Qnx ?_
   refine Wp.ret ?_
   obtain rfl:=some_in h
   exact To.end1 rfl (Qrc 0 ty43)
theorem C_value_Xor {x0 : T_api_Value} {x1 : T_api_Value}  {r : T_api_Value} (h : L_value_Xor x0 x1 = some r) : Meets Tryz.prog 193 [VP.of (x0), VP.of (x1)] (VP.of (r)) := by
 unfold L_value_Xor at h
 refine Meets.of Tryz.func193 rfl Tryz.ntmps193 rfl fun W A => ?_
 refine Qsr ?_
 refine Qbx fun p1 => ?_
 refine Qbx fun p2 => ?_
 refine Qal zr43 fun p3 => ?_
 refine Qnr ?_
 refine Q1 (r_fa fd43_0) ?_
 refine Qld 2 le_T_api_Value_Hi ty41 ?_
 refine Q1 (r_fa fd43_0) ?_
 refine Qld 1 le_T_api_Value_Hi ty41 ?_
 refine Q2 r_xor64 ?_
 refine Q1 (r_fa fd43_1) ?_
 refine Qld 2 le_T_api_Value_Lo ty41 ?_
 refine Q1 (r_fa fd43_1) ?_
 refine Qld 1 le_T_api_Value_Lo ty41 ?_
 refine Q2 r_xor64 ?_
 obtain ⟨z1,hz1,h⟩:=Qbs h
 refine Qn hz1 (r_build (b := { f_Hi := x0.f_Hi ^^^ x1.f_Hi, f_Lo := x0.f_Lo ^^^ x1.f_Lo : T_api_Value }) rfl bu43 zr43 (.cons le_T_api_Value_Hi rfl (look_t rfl) rfl (.cons le_T_api_Value_Lo rfl (look_t rfl) rfl (.nil)))) ?_
 refine Qs0 0 ty43 ?_
 refine Qnx ?_
 refine Wp.ret ?_
 obtain rfl:=some_in h
 exact To.end1 rfl (Qrc 0 ty43)
theorem C_value_And {x0 : T_api_Value} {x1 : T_api_Value}  {r : T_api_Value} (h : L_value_And x0 x1 = some r) : Meets Tryz.prog 148 [VP.of (x0), VP.of (x1)] (VP.of (r)) := by
 unfold L_value_And at h
 refine Meets.of Tryz.func148 rfl Tryz.ntmps148 rfl fun W A => ?_
 refine Qsr ?_
 refine Qbx fun p1 => ?_
 refine Qbx fun p2 => ?_
 refine Qal zr43 fun p3 => ?_
 refine Qnr ?_
 refine Q1 (r_fa fd43_0) ?_
 refine Qld 2 le_T_api_Value_Hi ty41 ?_
 refine Q1 (r_fa fd43_0) ?_
 refine Qld 1 le_T_api_Value_Hi ty41 ?_
 refine Q2 r_and64 ?_
 refine Q1 (r_fa fd43_1) ?_
 refine Qld 2 le_T_api_Value_Lo ty41 ?_
 refine Q1 (r_fa fd43_1) ?_
 refine Qld 1 le_T_api_Value_Lo ty41 ?_
 refine Q2 r_and64 ?_
 obtain ⟨z1,hz1,h⟩:=Qbs h
 refine Qn hz1 (r_build (b := { f_Hi := x0.f_Hi &&& x1.f_Hi, f_Lo := x0.f_Lo &&& x1.f_Lo : T_api_Value }) rfl bu43 zr43 (.cons le_T_api_Value_Hi rfl (look_t rfl) rfl (.cons le_T_api_Value_Lo rfl (look_t rfl) rfl (.nil)))) ?_
 refine Qs0 0 ty43 ?_
 refine Qnx ?_
 refine Wp.ret ?_
 obtain rfl:=some_in h
 exact To.end1 rfl (Qrc 0 ty43)
theorem C_trie_Trie_path {x0 : Ref} {x1 : T_api_Value} {x2 : Int}  {r : Int × T_api_Value × Ref} (h : L_trie_Trie_path x0 x1 x2 = some r) : Meets Tryz.prog 250 [VP.of (x0), VP.of (x1), VP.of (x2)] (VP.clo 255 [VP.ptr r.1, VP.ptr r.2.1, VP.ptr r.2.2]) := by
 unfold L_trie_Trie_path at h
 refine Meets.of Tryz.func250 rfl Tryz.ntmps250 rfl fun W A => ?_
 refine Qsr ?_
 refine Qbx fun p1 => ?_
 refine Qbx fun p2 => ?_
 refine Qbx fun p3 => ?_
 refine Qv (r_asg (look_e .nilFunc)) ?_
 refine Qnr ?_
 refine Sq.share (α := Int) 0 5 rfl rfl ?_
 refine Sq.share (α := T_api_Value) 1 4 rfl rfl ?_
 refine Sq.share (α := Ref) 2 3 rfl rfl ?_
 refine Qv (r_mkI (f := 255) (τs := [VP.ptr x2, VP.ptr x1, VP.ptr x0]) ⟨look_t rfl, look_t rfl, look_t rfl, trivial⟩) ?_
 refine Qa ?_
 refine Qnx ?_
 refine Wp.ret ?_
 obtain rfl:=some_in h
 exact Qe1
theorem C_slices_Clone_api_Match {x0 : List T_api_Match}  {r : (List T_api_Match)} (h : L_slices_Clone_api_Match x0 = some r) : Meets Tryz.prog 161 [VP.of (x0)] (VP.of (r)) := by
 unfold L_slices_Clone_api_Match at h
 refine Meets.of Tryz.func161 rfl Tryz.ntmps161 rfl fun W A => ?_
 refine Qsr ?_
 refine Qv (r_asg (look_nil (α := T_api_Match))) ?_
 refine Qns ?_
 refine Qsr ?_
 refine Qm ?_
 refine Qv (r_nil Tryz.underlying47 (look_t rfl)) ?_
 refine Qnx ?_
 refine Wp.condN (look_t rfl) (fun hx => ?_) ?_
 ·subst hx; replace h := clone_nil h; subst h
  have h : some ([] : List T_api_Match) = some [] := rfl
  refine Qsr ?_
  refine Qv (r_asg (look_nil (α := T_api_Match))) ?_
  refine Qnx ?_
  refine Wp.ret ?_
  refine To.ret ?_
  replace h := some_in h
  clear h
  exact Qe1
 ·refine Qkn ?_
  refine Qsr ?_
  refine Sq.bslO (α := T_api_Match) (r := ([] : List T_api_Match)) Tryz.underlying47 ty88 zr88 rfl rfl (.nil) rfl fun key1 => ?_
  refine Qm ?_
  obtain ⟨y1,hy1,h⟩:=Qbs h
  refine Qap 0 Tryz.underlying47 ty88 zr88 hy1 fun key2 cap1 => ?_
  refine Qa ?_
  refine Qnx ?_
  refine Wp.ret ?_
  refine To.freezeL (α := T_api_Match) 0 [2, 7] ⟨rfl, rfl, trivial⟩ rfl ?_
  obtain rfl:=some_in h
  exact Qe1
end Go.Proofs.YtmnggbjcnoffeaaGreat

namespace Go.Proofs.YtmnggbjcnoffeaaGreat
open Go Gv
set_option linter.unusedVariables false
set_option linter.unusedSimpArgs false
set_option maxRecDepth 100000
set_option maxHeartbeats 2000000
theorem C_mcase_Codes_Next {x0 : T_mcase_Codes} {x1 : Int} {pp0 : Nat} {r : Int × T_mcase_Codes} (h : L_mcase_Codes_Next x0 x1 = some r) : MeetsO Tryz.prog 32 [VP.eq (.pointer (some ⟨pp0, 0, none⟩)), VP.of (x1)] [⟨some pp0, .var (x0 : T_mcase_Codes)⟩] (δ := Unit) (fun d => VP.of (r.1)) (fun d => [⟨some pp0, .var (r.2 : T_mcase_Codes)⟩]) := by
 unfold L_mcase_Codes_Next at h
 refine MeetsO.of Tryz.func32 rfl Tryz.ntmps32 rfl fun W A => ?_
 refine Qsr ?_
 refine Qa ?_
 refine Qns ?_
 refine Qsr ?_
 refine Qm ?_
 obtain ⟨y1,hy1,h⟩:=Qbs h
 refine Sq.vS (HS.call [0] en26 (C_mcase_Codes_Left hy1) ⟨look_t rfl, trivial⟩ rfl ⟨rfl, trivial⟩ rfl) rfl rfl rfl ?_
 refine Q1 r_not ?_
 refine Qm ?_
 refine Qg1 r_move ?_
 refine Qg2 r_lss ?_
 refine Qor ?_
 refine Qnx ?_
 refine Qcd h (fun h=>?_) fun h=>?_
 ·refine Qsr ?_
  refine Qa ?_
  refine Qnx ?_
  refine Wp.ret ?_
  refine To.ret ?_
  refine To.bring 0 rfl ?_
  obtain rfl:=some_in h
  exact Qo1 ()
 ·refine Qkn ?_
  refine Qsr ?_
  refine Qm ?_
  refine Q1 r_nck ?_
  refine Q1 (r_fa fd117_1) ?_
  refine Qld 0 le_T_mcase_Codes_at ty3 ?_
  refine Q2 r_add ?_
  refine Q1 r_nck ?_
  refine Q1 (r_fa fd117_1) ?_
  refine Qst 0 le_T_mcase_Codes_at ty3 ?_
  refine Qns ?_
  obtain ⟨k1,hk1,h⟩:=Qbs h
  obtain ⟨y2,hy2,h⟩:=Qbs h
  refine Wp.draw mixed 14 [some 19, some 20, some 21, some 22, some 23, some 24, some 25, some 26, some 27, some 28, some 29, some 30, some 31, some 32] [[], [0], [1], [2], [], [4], [5], [6], [7], [3, 8], [9], [10], [], [11, 12]] [.val _, .val _, .val _, .val _, .val _, .val _, .val _, .val _, .val _, .val _, .val _, .val _, .val _, .val _] [false, false, false, false, false, false, false, false, false, false, false, false, false, false] (by kernel_rfl) rfl rfl rfl (fun ps1 => ⟨Hm, H1 r_nck, H1 (r_fa fd117_0), Hld 0 le_T_mcase_Codes_l ty22, Hm, H1 r_nck, H1 (r_fa fd117_1), Hld 0 le_T_mcase_Codes_at ty3, H2 r_sub, Hix hk1 Tryz.underlying22 ty5, H1 (r_loadp ty5), H1 (r_c8i Tryz.underlying5 Tryz.underlying3), Hm, Hv fun L' hL => r_rem (look_t rfl) (look_t rfl) (modM_some hy2), trivial⟩) fun ps1 => ?_
  refine Qa ?_
  refine Qnx ?_
  refine Wp.ret ?_
  refine To.bring 0 rfl ?_
  obtain rfl:=some_in h
  exact Qo1 ()
theorem C_check_TableOf {x0 : T_api_Schema} {x1 : Int}  {r : Int} (h : L_check_TableOf x0 x1 = some r) : Meets Tryz.prog 82 [VP.of (x0), VP.of (x1)] (VP.of (r)) := by
 unfold L_check_TableOf at h
 refine Meets.of Tryz.func82 rfl Tryz.ntmps82 rfl fun W A => ?_
 refine Qsr ?_
 refine Qbx fun p1 => ?_
 refine Qbx fun p2 => ?_
 refine Qa ?_
 refine Qnr ?_
 refine Q1 (r_fa fd33_4) ?_
 refine Qld 1 le_T_api_Schema_Tables ty28 ?_
 refine Sq.share (α := Int) 0 3 rfl rfl ?_
 refine Qv (r_clo1 (F := (fun a0 => L_check_TableOf_fn1 a0 x1)) (τs := [VP.ptr x1]) en119 ⟨look_t rfl, trivial⟩ (fun _ _ h => C_check_TableOf_fn1 h)) ?_
 obtain ⟨y1,hy1,h⟩:=Qbs h
 refine Qcl en118 (C_slices_IndexFunc_api_Table hy1) ?_
 refine Qa ?_
 refine Qnx ?_
 refine Wp.ret ?_
 obtain rfl:=some_in h
 exact Qe1
end Go.Proofs.YtmnggbjcnoffeaaGreat

namespace Go.Proofs.YtmnggbjcnoffeaaGreat
open Go Gv
set_option linter.unusedVariables false
set_option linter.unusedSimpArgs false
set_option maxRecDepth 100000
set_option maxHeartbeats 2000000
theorem C_slices_Clone_api_Value {x0 : List T_api_Value}  {r : (List T_api_Value)} (h : L_slices_Clone_api_Value x0 = some r) : Meets Tryz.prog 162 [VP.of (x0)] (VP.of (r)) := by
 unfold L_slices_Clone_api_Value at h
 refine Meets.of Tryz.func162 rfl Tryz.ntmps162 rfl fun W A => ?_
 refine Qsr ?_
 refine Qv (r_asg (look_nil (α := T_api_Value))) ?_
 refine Qns ?_
 refine Qsr ?_
 refine Qm ?_
 refine Qv (r_nil Tryz.underlying48 (look_t rfl)) ?_
 refine Qnx ?_
 refine Wp.condN (look_t rfl) (fun hx => ?_) ?_
 ·subst hx; replace h := clone_nil h; subst h
  have h : some ([] : List T_api_Value) = some [] := rfl
  refine Qsr ?_
  refine Qv (r_asg (look_nil (α := T_api_Value))) ?_
  refine Qnx ?_
  refine Wp.ret ?_
  refine To.ret ?_
  replace h := some_in h
  clear h
  exact Qe1
 ·refine Qkn ?_
  refine Qsr ?_
  refine Sq.bslO (α := T_api_Value) (r := ([] : List T_api_Value)) Tryz.underlying48 ty43 zr43 rfl rfl (.nil) rfl fun key1 => ?_
  refine Qm ?_
  obtain ⟨y1,hy1,h⟩:=Qbs h
  refine Qap 0 Tryz.underlying48 ty43 zr43 hy1 fun key2 cap1 => ?_
  refine Qa ?_
  refine Qnx ?_
  refine Wp.ret ?_
  refine To.freezeL (α := T_api_Value) 0 [2, 7] ⟨rfl, rfl, trivial⟩ rfl ?_
  obtain rfl:=some_in h
  exact Qe1
theorem C_slices_Equal_api_Match {x0 : List T_api_Match} {x1 : List T_api_Match}  {r : Bool} (h : L_slices_Equal_api_Match x0 x1 = some r) : Meets Tryz.prog 270 [VP.of (x0), VP.of (x1)] (VP.of (r)) := by
 unfold L_slices_Equal_api_Match at h
 refine Meets.of Tryz.func270 rfl Tryz.ntmps270 rfl fun W A => ?_
 refine Qsr ?_
 refine Qa ?_
 refine Qns ?_
 refine Qsr ?_
 refine Qm ?_
 refine Q1 (r_len Tryz.underlying47) ?_
 refine Qm ?_
 refine Q1 (r_len Tryz.underlying47) ?_
 refine Q2 r_neq ?_
 refine Qnx ?_
 refine Qcd h (fun h=>?_) fun h=>?_
 ·refine Qsr ?_
  refine Qa ?_
  refine Qnx ?_
  refine Wp.ret ?_
  refine To.ret ?_
  obtain rfl:=some_in h
  exact Qe1
 ·refine Qkn ?_
  refine Wp.seq ?_
  refine Qsr ?_
  refine Qm ?_
  refine Q1 (r_len Tryz.underlying47) ?_
  refine Qm ?_
  refine Qnx ?_
  refine Wp.block ?_
  obtain ⟨e1,hl,h⟩:=Qbs h
  refine Qlp (γ:=Unit) (δ:=Unit) hl [0, 1, 4, 10, 12] (fun s1 g1 => [(13, VP.of (s1))]) (fun s1 g1 => []) (fun q1 => Sum.elim (fun q1 => Exit.exit 0) (fun q1 => Exit.ret) q1) (fun q1 g1 => Sum.elim (fun q1 => [(13, VP.of (q1.1)), (14, VP.of (q1.2))]) (fun q1 => [(5, VP.of (q1.1)), (13, VP.of (q1.2.1)), (14, VP.of (q1.2.2.1)), (24, VP.of (q1.2.2.2))]) q1) (fun q1 g1 => Sum.elim (fun q1 => []) (fun q1 => []) q1) () (fun s1 r h g1 => ?_) fun g1 => ?_
  ·clear hl
   refine Qsr ?_
   refine Q2 r_lss ?_
   refine Qns ?_
   refine Qcd h (fun h=>?_) fun h=>?_
   ·refine Qkn ?_
    refine Wp.seq ?_
    refine Wp.block ?_
    refine Qsr ?_
    refine Qm ?_
    refine Qa ?_
    refine Qns ?_
    obtain ⟨k1,hk1,h⟩:=Qbs h
    obtain ⟨k2,hk2,h⟩:=Qbs h
    refine Wp.draw mixed 9 [some 16, some 17, some 18, some 19, some 20, some 21, some 22, some 23, some 24] [[], [], [0, 1], [2], [], [], [4, 5], [6], [3, 7]] [.val _, .val _, .val _, .val _, .val _, .val _, .val _, .val _, .val _] [false, false, false, false, false, false, false, false, false] (by kernel_rfl) rfl rfl rfl (fun ps1 => ⟨Hm, Hm, Hix hk1 Tryz.underlying47 ty88, H1 (r_loadp ty88), Hm, Hm, Hix hk2 Tryz.underlying47 ty88, H1 (r_loadp ty88), H2 (r_neA eqv88 rfl eqg88 rfl), trivial⟩) fun ps1 => ?_
    refine Qnx ?_
    refine Qcd h (fun h=>?_) fun h=>?_
    ·refine Qsr ?_
     refine Qa ?_
     refine Qnx ?_
     refine Wp.ret ?_
     refine To.bret ?_
     refine To.ret ?_
     obtain rfl:=some_in h
     exact Qlv () 0
    ·refine Wp.skip ?_
     refine To.bnorm ?_
     refine To.next ?_
     refine Wp.reg ?_
     refine Q2 r_add ?_
     refine Qm ?_
     refine Sq.nil ?_
     obtain rfl:=some_in h
     exact Qrd () 0
   ·refine Wp.exit ?_
    refine To.exit ?_
    obtain rfl:=some_in h
    exact Qlv () 0
  ·clear hl
   rcases e1 with e1 | e1
   ·simp only [Sum.elim_inl] at h
    refine To.bexit ?_
    refine To.next ?_
    refine Qsr ?_
    refine Qa ?_
    refine Qnx ?_
    refine Wp.ret ?_
    obtain rfl:=some_in h
    exact Qe1
   ·simp only [Sum.elim_inr] at h
    refine To.bret ?_
    refine To.ret ?_
    obtain rfl:=some_in h
    exact Qe1
theorem C_trie_node_empty {hp : Pool Cell} {x0 : Ref}  {r : Bool} (h : L_trie_node_empty hp x0 = some r) : MeetsO Tryz.prog 252 [VP.of (x0)] ([] ++ Ents hp) (δ := Unit) (fun _ => VP.of (r)) (fun _ => [] ++ Ents hp) := by
 unfold L_trie_node_empty at h
 refine MeetsO.of Tryz.func252 rfl Tryz.ntmps252 rfl fun W A => ?_
 refine Qsr ?_
 refine Qa ?_
 refine Qnr ?_
 refine Qm ?_
 obtain ⟨o1,ho1,h⟩:=Qbs h
 refine Qv (r_nck (look_ref (look_t rfl) ho1)) ?_
 refine Q1 (r_fa fd335_1) ?_
 obtain ⟨c1,hc1,h⟩:=Qbs h
 refine Qv (r_loadM ((Lens.id T_trie_node).comp le_T_trie_node_used) (r := c1.f_used) ty4 (look_t rfl) (pmem (n := 0) rfl (rds335 hc1) rfl) rfl rfl) ?_
 refine Q1 r_not ?_
 refine Qm ?_
 refine Qg1 r_move ?_
 obtain ⟨o2,ho2,h⟩:=Qbs h
 refine Qg (fun hb => r_nck (look_ref (look_tc rfl hb) (condM_some ho2 hb))) ?_
 refine Qg1 (r_fa fd335_0) ?_
 obtain ⟨c2,hc2,h⟩:=Qbs h
 refine Qg (fun hb => r_loadM ((Lens.id T_trie_node).comp le_T_trie_node_children) (r := c2.f_children) ty333 (look_tc rfl hb) (pmem (n := 0) rfl (rds335 (condM_some hc2 hb)) rfl) rfl rfl) ?_
 refine Qg (fun hb => r_buildA (b := (default : Vector Ref 2)) (sz := 1) rfl Tryz.underlying333 (by kernel_rfl) zr333 (.nil)) ?_
 refine Qg (fun hb => r_eqNils Tryz.underlying333 ty331 Tryz.underlying331 eqg333 (look_tc rfl hb) (look_tc rfl hb) vnone) ?_
 refine Qan ?_
 refine Qa ?_
 refine Qnx ?_
 refine Wp.ret ?_
 obtain rfl:=some_in h
 exact To.endO1 () (.refl _) rfl rfl (rvo_t rfl)
theorem Ch3__trie_Trie_All_fn1 {hp : Pool Cell} {x0 : Ref} {x1 : T_api_Value} {x2 : Int} {x3 : List T_trie_Prefix} {pp3 : Nat} {key03_0 : Option Nat} {cap03_0 : Nat} {r : (List T_trie_Prefix)} (h : Lh3__trie_Trie_All_fn1 hp x0 x1 x2 x3 = some r) : MeetsO Tryz.prog 257 [VP.of (x0), VP.of (x1), VP.of (x2), VP.eq (.pointer (some ⟨pp3, 0, none⟩))] ([⟨some pp3, .varX ([] : List T_trie_Prefix) [(0, slv key03_0 x3.length cap03_0)]⟩, ⟨key03_0, .row 347 (x3 : List T_trie_Prefix) cap03_0⟩] ++ Ents hp) (δ := (Option Nat × Nat)) (fun d => VP.tup []) (fun d => [⟨some pp3, .varX ([] : List T_trie_Prefix) [(0, slv d.1 (r).length d.2)]⟩, ⟨d.1, .row 347 (r : List T_trie_Prefix) d.2⟩] ++ Ents hp) := by
 unfold Lh3__trie_Trie_All_fn1 at h
 refine MeetsO.of Tryz.func257 rfl Tryz.ntmps257 rfl fun W A => ?_
 refine Qsr ?_
 refine Qbx fun p1 => ?_
 refine Qnr ?_
 refine Qm ?_
 obtain ⟨o1,ho1,h⟩:=Qbs h
 refine Qv (r_nck (look_ref (look_t rfl) ho1)) ?_
 refine Q1 (r_fa fd335_1) ?_
 obtain ⟨c1,hc1,h⟩:=Qbs h
 refine Qv (r_loadM ((Lens.id T_trie_node).comp le_T_trie_node_used) (r := c1.f_used) ty4 (look_t rfl) (pmem (n := 3) rfl (rds335 hc1) rfl) rfl rfl) ?_
 refine Qnx ?_
 obtain ⟨m1,hm1,h⟩:=Qbs h
 refine Wp.condM (γ := (Option Nat × Nat)) (fun g1 => [(0, VP.of (x0)), (1, VP.of (x1)), (2, VP.of (x2)), (3, VP.eq (.pointer (some ⟨pp3, 0, none⟩))), (5, VP.eq (.pointer (some ⟨p1, 0, none⟩))), (10, VP.of (c1.f_used))]) (fun g1 => (⟨some p1, .var (x1 : T_api_Value)⟩ :: ⟨some pp3, .varX ([] : List T_trie_Prefix) [(0, slv g1.1 m1.length g1.2)]⟩ :: ⟨g1.1, .row 347 (m1 : List T_trie_Prefix) g1.2⟩ :: Ents hp)) (look_t rfl) (fun g1 => ?_) (fun hm hc => ?_) (fun hm hc => ?_)
 ·clear hm1
  refine To.endn ?_
  refine To.bring 2 rfl ?_
  refine To.bring 2 rfl ?_
  obtain rfl:=some_in h
  exact To.endO0 (g1.1, g1.2) (.cons_cons _ (.cons_cons _ (.cons _ (.refl _)))) rfl rfl
 ·have h := cond_t hc hm1
  refine Wp.draw mixed 9 [some 11, some 12, some 13, some 14, some 15, some 16, some 17, some 18, some 19] [[], [], [], [], [3], [4], [5], [1, 2, 6], [7]] [.val _, .val _, .val _, .val _, .val _, .val _, .val _, .val _, .val _] [false, false, false, false, false, false, false, false, false] (by kernel_rfl) rfl rfl rfl (fun ps1 => ⟨Hv fun L' hL => r_loadH (i := 1) (q := 0) (β := List T_trie_Prefix) (γ := T_trie_Prefix) ty342 (look_t rfl) (hL _ _ rfl rfl) rfl, Hl0 0 ty43, Hm, Hm, Hv fun L' hL => r_nck (look_ref (look_t rfl) ho1), H1 (r_fa fd335_2), Hv fun L' hL => r_loadM ((Lens.id T_trie_node).comp le_T_trie_node_id) (r := c1.f_id) ty3 (look_t rfl) (dmem (fun i e q => hL i e q rfl) (pmem (n := 3) rfl (rds335 hc1) rfl)) rfl rfl, Hv fun L' hL => r_build (b := { f_Value := x1, f_Length := x2, f_ID := c1.f_id : T_trie_Prefix }) rfl bu347 zr347 (.cons le_T_trie_Prefix_Value rfl (look_t rfl) rfl (.cons le_T_trie_Prefix_Length rfl (look_t rfl) rfl (.cons le_T_trie_Prefix_ID rfl (look_t rfl) rfl (.nil)))), Hv fun L' hL => r_bsl (r := [{ f_Value := x1, f_Length := x2, f_ID := c1.f_id : T_trie_Prefix }]) Tryz.underlying342 ty347 zr347 rfl rfl (.cons (by simp) (look_t rfl) (.nil)), trivial⟩) fun ps1 => ?_
  obtain ⟨y1,hy1,h⟩:=Qbs h
  refine Qap 2 Tryz.underlying342 ty347 zr347 hy1 fun key1 cap1 => ?_
  refine Sq.storeH (i := 1) (γ := T_trie_Prefix) (b' := ([] : List T_trie_Prefix)) (os' := [(0, slv key1 y1.length cap1)]) (Lens.id (List T_trie_Prefix)) ty342 (look_t rfl) (look_t rfl) slv_one rfl rfl rfl rfl ?_
  refine Sq.nil ?_
  obtain rfl:=some_in h
  exact Qmt 0 (hm (key1, cap1))
 ·have h := cond_f hc hm1
  refine Wp.skip ?_
  obtain rfl:=some_in h
  exact Qmt 0 (hm (key03_0, cap03_0))
theorem C_value_Of {x0 : BitVec 64}  {r : T_api_Value} (h : L_value_Of x0 = some r) : Meets Tryz.prog 166 [VP.of (x0)] (VP.of (r)) := by
 unfold L_value_Of at h
 refine Meets.of Tryz.func166 rfl Tryz.ntmps166 rfl fun W A => ?_
 refine Qsr ?_
 refine Qal zr43 fun p1 => ?_
 refine Qnr ?_
 refine Qm ?_
 refine Qbd bu43 zr43 ({ (default : T_api_Value) with f_Lo := x0 } : T_api_Value) (Qfl le_T_api_Value_Lo .nil) ?_
 refine Qs0 0 ty43 ?_
 refine Qnx ?_
 refine Wp.ret ?_
 obtain rfl:=some_in h
 exact To.end1 rfl (Qrc 0 ty43)
theorem C_value_Left {x0 : T_api_Value} {x1 : Int}  {r : T_api_Value} (h : L_value_Left x0 x1 = some r) : Meets Tryz.prog 165 [VP.of (x0), VP.of (x1)] (VP.of (r)) := by
 unfold L_value_Left at h
 refine Meets.of Tryz.func165 rfl Tryz.ntmps165 rfl fun W A => ?_
 refine Qsr ?_
 refine Qbx fun p1 => ?_
 refine Qal zr43 fun p2 => ?_
 refine Qns ?_
 refine Wp.block ?_
 refine Qsr ?_
 refine Qm ?_
 refine Q2 r_leq ?_
 refine Qa ?_
 refine Qnx ?_
 refine Qcd h (fun h=>?_) fun h=>?_
 ·refine Qsr ?_
  refine Ql0 1 ty43 ?_
  refine Qs0 0 ty43 ?_
  refine Qnx ?_
  refine Wp.ret ?_
  refine To.bret ?_
  refine To.ret ?_
  obtain rfl:=some_in h
  exact To.end1 rfl (Qrc 0 ty43)
 ·refine Qsr ?_
  refine Qm ?_
  refine Q2 r_geq ?_
  refine Qa ?_
  refine Qnx ?_
  refine Qcd h (fun h=>?_) fun h=>?_
  ·refine Qsr ?_
   refine Q1 (r_fa fd43_1) ?_
   refine Qld 1 le_T_api_Value_Lo ty41 ?_
   refine Qm ?_
   refine Q2 r_sub ?_
   refine Q1 (r_ci64 Tryz.underlying3 Tryz.underlying130) ?_
   refine Q2 r_shl64 ?_
   obtain ⟨z1,hz1,h⟩:=Qbs h
   refine Qn hz1 (r_build (b := ({ (default : T_api_Value) with f_Hi := x0.f_Lo <<< (BitVec.ofInt 64 (w64 (x1 - 64))).toNat } : T_api_Value)) rfl bu43 zr43 (.cons le_T_api_Value_Hi rfl (look_t rfl) rfl (.nil))) ?_
   refine Qs0 0 ty43 ?_
   refine Qnx ?_
   refine Wp.ret ?_
   refine To.bret ?_
   refine To.ret ?_
   obtain rfl:=some_in h
   exact To.end1 rfl (Qrc 0 ty43)
  ·refine Wp.skip ?_
   refine To.bnorm ?_
   refine To.next ?_
   refine Qsr ?_
   refine Q1 (r_fa fd43_0) ?_
   refine Qld 1 le_T_api_Value_Hi ty41 ?_
   refine Qm ?_
   refine Q1 (r_ci64 Tryz.underlying3 Tryz.underlying130) ?_
   refine Q2 r_shl64 ?_
   refine Q1 (r_fa fd43_1) ?_
   refine Qld 1 le_T_api_Value_Lo ty41 ?_
   refine Qm ?_
   refine Q2 r_sub ?_
   refine Q1 (r_ci64 Tryz.underlying3 Tryz.underlying130) ?_
   refine Q2 r_shr64 ?_
   obtain ⟨z2,hz2,h⟩:=Qbs h
   refine Qn hz2 (r_or64 (look_t rfl) (look_t rfl)) ?_
   refine Q1 (r_fa fd43_1) ?_
   refine Qld 1 le_T_api_Value_Lo ty41 ?_
   refine Qm ?_
   refine Q1 (r_ci64 Tryz.underlying3 Tryz.underlying130) ?_
   refine Q2 r_shl64 ?_
   obtain ⟨z3,hz3,h⟩:=Qbs h
   refine Qn hz3 (r_build (b := { f_Hi := z2, f_Lo := x0.f_Lo <<< (BitVec.ofInt 64 x1).toNat : T_api_Value }) rfl bu43 zr43 (.cons le_T_api_Value_Hi rfl (look_t rfl) rfl (.cons le_T_api_Value_Lo rfl (look_t rfl) rfl (.nil)))) ?_
   refine Qs0 0 ty43 ?_
   refine Qnx ?_
   refine Wp.ret ?_
   obtain rfl:=some_in h
   exact To.end1 rfl (Qrc 0 ty43)
theorem C_value_Or {x0 : T_api_Value} {x1 : T_api_Value}  {r : T_api_Value} (h : L_value_Or x0 x1 = some r) : Meets Tryz.prog 167 [VP.of (x0), VP.of (x1)] (VP.of (r)) := by
 unfold L_value_Or at h
 refine Meets.of Tryz.func167 rfl Tryz.ntmps167 rfl fun W A => ?_
 refine Qsr ?_
 refine Qbx fun p1 => ?_
 refine Qbx fun p2 => ?_
 refine Qal zr43 fun p3 => ?_
 refine Qnr ?_
 refine Q1 (r_fa fd43_0) ?_
 refine Qld 2 le_T_api_Value_Hi ty41 ?_
 refine Q1 (r_fa fd43_0) ?_
 refine Qld 1 le_T_api_Value_Hi ty41 ?_
 refine Q2 r_or64 ?_
 refine Q1 (r_fa fd43_1) ?_
 refine Qld 2 le_T_api_Value_Lo ty41 ?_
 refine Q1 (r_fa fd43_1) ?_
 refine Qld 1 le_T_api_Value_Lo ty41 ?_
 refine Q2 r_or64 ?_
 obtain ⟨z1,hz1,h⟩:=Qbs h
 refine Qn hz1 (r_build (b := { f_Hi := x0.f_Hi ||| x1.f_Hi, f_Lo := x0.f_Lo ||| x1.f_Lo : T_api_Value }) rfl bu43 zr43 (.cons le_T_api_Value_Hi rfl (look_t rfl) rfl (.cons le_T_api_Value_Lo rfl (look_t rfl) rfl (.nil)))) ?_
 refine Qs0 0 ty43 ?_
 refine Qnx ?_
 refine Wp.ret ?_
 obtain rfl:=some_in h
 exact To.end1 rfl (Qrc 0 ty43)
theorem C_ordered_List_find_fn1 {x0 : T_api_Installed} {x1 : Int}  {r : Bool} (h : L_ordered_List_find_fn1 x0 x1 = some r) : Meets Tryz.prog 279 [VP.of (x0), VP.ptr x1] (VP.of (r)) := by
 unfold L_ordered_List_find_fn1 at h
 refine Meets.of Tryz.func279 rfl Tryz.ntmps279 rfl fun W A => ?_
 refine Qsr ?_
 refine Qbx fun p1 => ?_
 refine Qa ?_
 refine Qnr ?_
 refine Q1 (r_fa fd52_1) ?_
 refine Qld 0 le_T_api_Installed_Number ty3 ?_
 refine Q1 (r_loadp ty3) ?_
 refine Q2 r_eql ?_
 refine Qa ?_
 refine Qnx ?_
 refine Wp.ret ?_
 obtain rfl:=some_in h
 exact Qe1
end Go.Proofs.YtmnggbjcnoffeaaGreat

namespace Go.Proofs.YtmnggbjcnoffeaaGreat
open Go Gv
set_option linter.unusedVariables false
set_option linter.unusedSimpArgs false
set_option maxRecDepth 100000
set_option maxHeartbeats 2000000
theorem C_check_FieldOf {x0 : T_api_Schema} {x1 : Int}  {r : Int} (h : L_check_FieldOf x0 x1 = some r) : Meets Tryz.prog 85 [VP.of (x0), VP.of (x1)] (VP.of (r)) := by
 unfold L_check_FieldOf at h
 refine Meets.of Tryz.func85 rfl Tryz.ntmps85 rfl fun W A => ?_
 refine Qsr ?_
 refine Qbx fun p1 => ?_
 refine Qbx fun p2 => ?_
 refine Qa ?_
 refine Qnr ?_
 refine Q1 (r_fa fd33_0) ?_
 refine Qld 1 le_T_api_Schema_Fields ty24 ?_
 refine Sq.share (α := Int) 0 3 rfl rfl ?_
 refine Qv (r_clo1 (F := (fun a0 => L_check_FieldOf_fn1 a0 x1)) (τs := [VP.ptr x1]) en121 ⟨look_t rfl, trivial⟩ (fun _ _ h => C_check_FieldOf_fn1 h)) ?_
 obtain ⟨y1,hy1,h⟩:=Qbs h
 refine Qcl en120 (C_slices_IndexFunc_api_Field hy1) ?_
 refine Qa ?_
 refine Qnx ?_
 refine Wp.ret ?_
 obtain rfl:=some_in h
 exact Qe1
theorem C_index_hashed_find {hp : Pool Cell} {x0 : T_index_hashed} {x1 : T_api_Entry}  {r : Int × Bool} (h : L_index_hashed_find hp x0 x1 = some r) : MeetsO Tryz.prog 227 [VP.of (x0), VP.of (x1)] ([] ++ Ents hp) (δ := Unit) (fun _ => VP.tup [VP.of (r.1), VP.of (r.2)]) (fun _ => [] ++ Ents hp) := by
 unfold L_index_hashed_find at h
 refine MeetsO.of Tryz.func227 rfl Tryz.ntmps227 rfl fun W A => ?_
 refine Qsr ?_
 refine Qbx fun p1 => ?_
 refine Qbx fun p2 => ?_
 refine Qa ?_
 refine Qa ?_
 refine Qns ?_
 obtain ⟨y1,hy1,h⟩:=Qbs h
 obtain ⟨y2,hy2,h⟩:=Qbs h
 refine Qwl [0, 1, 2, 3] ?_
 refine Wp.drawQ 2 mixed (Hp 6 [] [] _ :: Hp 7 (0 :: []) (1 :: []) _ :: Hp 8 [] (0 :: []) _ :: Hp 9 (2 :: []) [] _ :: ⟨some 10, (1 :: 3 :: []), [], [], fun _ => VP.tup [VP.of (y2.1), VP.of (y2.2)], fun _ _ => ⟨none, .dead⟩⟩ :: Hp 11 (4 :: []) [] _ :: Hp 12 (4 :: []) [] _ :: Hp 4 (5 :: []) [] _ :: Hp 5 (6 :: []) [] _ :: []) _ (0 :: 1 :: 2 :: 3 :: []) rfl rfl (by kernel_rfl) (by kernel_rfl) ⟨HeadD.q (D1 (r_fa fd166_0)), HeadD.q (Dld 1 le_T_index_hashed_x ty163), HeadD.q (Dl0 0 ty50), HeadD.q (Dv fun hd E' L' hE hL => r_call en232 (C_index_point hy1) ⟨look_t (hE _ _ rfl), trivial⟩), ?_, HeadD.q (Dv fun hd E' L' hE hL => r_ext (look_t (hE _ _ rfl)) rfl), HeadD.q (Dv fun hd E' L' hE hL => r_ext (look_t (hE _ _ rfl)) rfl), HeadD.q (Dv fun hd E' L' hE hL => r_asg (look_t (hE _ _ rfl))), HeadD.q (Dv fun hd E' L' hE hL => r_asg (look_t (hE _ _ rfl))), trivial⟩ fun hd1 => ?_
 ·intro hd E' L' hE hL hP
  refine Sq.vS (HS.callQ 2 (hP.trans rfl) en231 (C_exact_Index_Get hy2) ⟨look_t (hE _ _ rfl), look_t (hE _ _ rfl), trivial⟩) rfl rfl rfl ?_
  refine Sq.nil ?_
  exact To.fin (gm []) rfl rfl
 refine To.eqL (L2 := (⟨some p2, .var (x1 : T_api_Entry)⟩ :: ⟨some p1, .var (x0 : T_index_hashed)⟩ :: Ents hp)) rfl ?_
 refine Qtl [0, 1, 2, 3, 4, 5, 6, 7, 8, 9, 10, 11, 12] ?_
 refine To.next ?_
 refine Wp.ret ?_
 obtain rfl:=some_in h
 exact To.endO2 () (.cons _ (.cons _ (.refl _))) rfl rfl (rvo_t rfl) (rvo_t rfl)
theorem C_index_prefixed_prefix {x0 : T_index_prefixed} {x1 : T_api_Entry}  {r : (Vector T_api_Value 4) × T_api_Value × Int} (h : L_index_prefixed_prefix x0 x1 = some r) : Meets Tryz.prog 239 [VP.of (x0), VP.of (x1)] (VP.tup [VP.of (r.1), VP.of (r.2.1), VP.of (r.2.2)]) := by
 unfold L_index_prefixed_prefix at h
 refine Meets.of Tryz.func239 rfl Tryz.ntmps239 rfl fun W A => ?_
 refine Qsr ?_
 refine Qbx fun p1 => ?_
 refine Qbx fun p2 => ?_
 refine Qal zr320 fun p3 => ?_
 refine Qal zr43 fun p4 => ?_
 refine Qa ?_
 refine Qns ?_
 obtain ⟨y1,hy1,h⟩:=Qbs h
 obtain ⟨y2,hy2,h⟩:=Qbs h
 refine Wp.draw mixed 10 [some 10, some 11, some 12, some 13, some 9, some 14, some 15, some 7, some 8, none] [[], [], [1], [0, 2], [3], [4], [4], [], [], [5, 7]] [.val _, .val _, .val _, .val _, .val _, .val _, .val _, .new (.var (default : Vector T_api_Value 4)), .new (.var (default : T_api_Value)), .stn 7 (.var (y2.1 : Vector T_api_Value 4))] [false, false, false, false, false, false, false, false, false, true] (by kernel_rfl) rfl rfl rfl (fun ps1 => ⟨Hl0 3 ty169, Hl0 2 ty50, Hcl en232 (C_index_point hy1), Hcl en241 (C_index_prefixed_split hy2), Hm, Hxt, Hxt, ao_alloc zr320, ao_alloc zr43, ⟨rfl, _, rfl, fun L' q hq => so_var (i := q) (Lens.id (Vector T_api_Value 4)) (v := (y2.1 : Vector T_api_Value 4)) (b' := (y2.1 : Vector T_api_Value 4)) ty320 (look_t rfl) (look_t rfl) hq rfl rfl⟩, trivial⟩) fun ps1 => ?_
 refine Qs0 1 ty43 ?_
 refine Qns ?_
 refine Qsr ?_
 refine Q1 (r_fa fd169_0) ?_
 refine Qld 5 le_T_index_prefixed_key ty3 ?_
 refine Q1 (r_fa fd50_1) ?_
 refine Qld 4 le_T_api_Entry_Matches ty47 ?_
 refine Q1 (r_len Tryz.underlying47) ?_
 refine Q2 r_geq ?_
 refine Qnx ?_
 refine Qcd h (fun h=>?_) fun h=>?_
 ·refine Wp.seq ?_
  refine Wp.draw mixed 3 [some 22, some 23, none] [[], [], [0]] [.val _, .val _, .sto 3 (.var (y2.1 : Vector T_api_Value 4))] [false, false, true] (by kernel_rfl) rfl rfl rfl (fun ps2 => ⟨Hl0 0 ty320, Hl0 1 ty43, ⟨_, _, rfl, fun L' hL => so_var (i := 3) (Lens.id (Vector T_api_Value 4)) (v := (y2.1 : Vector T_api_Value 4)) (b' := (y2.1 : Vector T_api_Value 4)) ty320 (look_t rfl) (look_t rfl) (hL _ _ rfl) rfl rfl⟩, trivial⟩) fun ps2 => ?_
  refine Qs0 2 ty43 ?_
  refine Qa ?_
  refine Qnx ?_
  refine Wp.ret ?_
  refine To.ret ?_
  obtain rfl:=some_in h
  exact To.end3 rfl (Qrc 3 ty320) (Qrc 2 ty43) (rv_t rfl)
 ·refine Qkn ?_
  refine Wp.seq ?_
  obtain ⟨k1,hk1,h⟩:=Qbs h
  refine Wp.draw mixed 11 [some 24, some 25, some 26, some 27, some 28, some 29, some 30, some 31, some 32, none, none] [[], [], [], [2], [], [4], [3, 5], [6], [7], [0], [1]] [.val _, .val _, .val _, .val _, .val _, .val _, .val _, .val _, .val _, .sto 3 (.var (y2.1 : Vector T_api_Value 4)), .sto 2 (.var (y2.2 : T_api_Value))] [false, false, false, false, false, false, false, false, false, true, true] (by kernel_rfl) rfl rfl rfl (fun ps3 => ⟨Hl0 0 ty320, Hl0 1 ty43, H1 (r_fa fd50_1), Hld 4 le_T_api_Entry_Matches ty47, H1 (r_fa fd169_0), Hld 5 le_T_index_prefixed_key ty3, Hix hk1 Tryz.underlying47 ty88, Hfp le_T_api_Match_Prefix fd88_3, H1 (r_loadp ty3), ⟨_, _, rfl, fun L' hL => so_var (i := 3) (Lens.id (Vector T_api_Value 4)) (v := (y2.1 : Vector T_api_Value 4)) (b' := (y2.1 : Vector T_api_Value 4)) ty320 (look_t rfl) (look_t rfl) (hL _ _ rfl) rfl rfl⟩, ⟨_, _, rfl, fun L' hL => so_var (i := 2) (Lens.id T_api_Value) (v := (y2.2 : T_api_Value)) (b' := (y2.2 : T_api_Value)) ty43 (look_t rfl) (look_t rfl) (hL _ _ rfl) rfl rfl⟩, trivial⟩) fun ps3 => ?_
  refine Qa ?_
  refine Qnx ?_
  refine Wp.ret ?_
  obtain rfl:=some_in h
  exact To.end3 rfl (Qrc 3 ty320) (Qrc 2 ty43) (rv_t rfl)
theorem C_value_Ones {x0 : Int}  {r : T_api_Value} (h : L_value_Ones x0 = some r) : Meets Tryz.prog 188 [VP.of (x0)] (VP.of (r)) := by
 unfold L_value_Ones at h
 refine Meets.of Tryz.func188 rfl Tryz.ntmps188 rfl fun W A => ?_
 refine Qsr ?_
 refine Qal zr43 fun p1 => ?_
 refine Qnr ?_
 obtain ⟨z1,hz1,h⟩:=Qbs h
 refine Qn hz1 (r_build (b := { f_Hi := 18446744073709551615#64, f_Lo := 18446744073709551615#64 : T_api_Value }) rfl bu43 zr43 (.cons le_T_api_Value_Hi rfl (look_u64 18446744073709551615 rfl) rfl (.cons le_T_api_Value_Lo rfl (look_u64 18446744073709551615 rfl) rfl (.nil)))) ?_
 refine Qm ?_
 obtain ⟨y1,hy1,h⟩:=Qbs h
 refine Qcl en205 (C_value_within hy1) ?_
 refine Q2 r_sub ?_
 obtain ⟨y2,hy2,h⟩:=Qbs h
 refine Qcl en204 (C_value_Right hy2) ?_
 refine Qs0 0 ty43 ?_
 refine Qnx ?_
 refine Wp.ret ?_
 obtain rfl:=some_in h
 exact To.end1 rfl (Qrc 0 ty43)
theorem C_value_Bit {x0 : T_api_Value} {x1 : Int}  {r : Bool} (h : L_value_Bit x0 x1 = some r) : Meets Tryz.prog 196 [VP.of (x0), VP.of (x1)] (VP.of (r)) := by
 unfold L_value_Bit at h
 refine Meets.of Tryz.func196 rfl Tryz.ntmps196 rfl fun W A => ?_
 refine Qsr ?_
 refine Qbx fun p1 => ?_
 refine Qa ?_
 refine Qnr ?_
 refine Qm ?_
 refine Q2 r_geq ?_
 refine Qm ?_
 refine Qg1 r_move ?_
 refine Qg2 r_lss ?_
 refine Qan ?_
 refine Qm ?_
 refine Qg (fun hb => r_load (i := 0) (Lens.id T_api_Value) (r := x0) ty43 (look_t rfl) rfl rfl rfl) ?_
 refine Qg1 r_move ?_
 obtain ⟨y1,hy1,h⟩:=Qbs h
 refine Qg (fun hb => r_call en204 (C_value_Right (condM_some hy1 hb)) ⟨look_tc rfl hb, look_tc rfl hb, trivial⟩) ?_
 refine Qg (fun hb => r_field le_T_api_Value_Lo fv43_1 ty41 rfl (look_tc rfl hb) rfl rfl) ?_
 refine Qg (fun hb => r_and64 (look_tc rfl hb) (look_u64 1 rfl)) ?_
 refine Qg (fun hb => r_eql64 (look_tc rfl hb) (look_u64 1 rfl)) ?_
 obtain ⟨z1,hz1,h⟩:=Qbs h
 refine Qn hz1 (r_and (look_t rfl) (look_t rfl) (fun h => h)) ?_
 refine Qa ?_
 refine Qnx ?_
 refine Wp.ret ?_
 obtain rfl:=some_in h
 exact Qe1
theorem C_own_Entry {x0 : T_api_Entry}  {r : T_api_Entry} (h : L_own_Entry x0 = some r) : Meets Tryz.prog 122 [VP.of (x0)] (VP.of (r)) := by
 unfold L_own_Entry at h
 refine Meets.of Tryz.func122 rfl Tryz.ntmps122 rfl fun W A => ?_
 refine Qsr ?_
 refine Qbx fun p1 => ?_
 refine Qal zr50 fun p2 => ?_
 refine Qns ?_
 obtain ⟨y1,hy1,h⟩:=Qbs h
 obtain ⟨y2,hy2,h⟩:=Qbs h
 refine Wp.draw mixed 7 [some 3, some 4, some 5, some 6, some 7, some 8, some 9] [[], [0], [1], [], [3], [4], []] [.val _, .val _, .val _, .val _, .val _, .val _, .val _] [false, false, false, false, false, false, false] (by kernel_rfl) rfl rfl rfl (fun ps1 => ⟨H1 (r_fa fd50_1), Hld 1 le_T_api_Entry_Matches ty47, Hcl en161 (C_slices_Clone_api_Match hy1), H1 (r_fa fd50_4), Hld 1 le_T_api_Entry_Args ty48, Hcl en162 (C_slices_Clone_api_Value hy2), H1 (r_fa fd50_1), trivial⟩) fun ps1 => ?_
 refine Qst 1 le_T_api_Entry_Matches ty47 ?_
 refine Q1 (r_fa fd50_4) ?_
 obtain ⟨z1,hz1,h⟩:=Qbs h
 refine Qsn 1 le_T_api_Entry_Args ty48 (hb := by exact hz1) ?_
 refine Qnr ?_
 refine Ql0 1 ty50 ?_
 refine Qs0 0 ty50 ?_
 refine Qnx ?_
 refine Wp.ret ?_
 obtain rfl:=some_in h
 exact To.end1 rfl (Qrc 0 ty50)
theorem C_entry_SameKey {x0 : T_api_Entry} {x1 : T_api_Entry}  {r : Bool} (h : L_entry_SameKey x0 x1 = some r) : Meets Tryz.prog 265 [VP.of (x0), VP.of (x1)] (VP.of (r)) := by
 unfold L_entry_SameKey at h
 refine Meets.of Tryz.func265 rfl Tryz.ntmps265 rfl fun W A => ?_
 refine Qsr ?_
 refine Qbx fun p1 => ?_
 refine Qbx fun p2 => ?_
 refine Qa ?_
 refine Qnr ?_
 refine Q1 (r_fa fd50_0) ?_
 refine Qld 1 le_T_api_Entry_Table ty3 ?_
 refine Q1 (r_fa fd50_0) ?_
 refine Qld 0 le_T_api_Entry_Table ty3 ?_
 refine Q2 r_eql ?_
 refine Qm ?_
 refine Qg1 (r_fa fd50_1) ?_
 refine Qg (fun hb => r_load (i := 1) ((Lens.id T_api_Entry).comp le_T_api_Entry_Matches) (r := x0.f_Matches) ty47 (look_tc rfl hb) rfl rfl rfl) ?_
 refine Qg1 (r_fa fd50_1) ?_
 refine Qg (fun hb => r_load (i := 0) ((Lens.id T_api_Entry).comp le_T_api_Entry_Matches) (r := x1.f_Matches) ty47 (look_tc rfl hb) rfl rfl rfl) ?_
 obtain ⟨y1,hy1,h⟩:=Qbs h
 refine Qg (fun hb => r_call en270 (C_slices_Equal_api_Match (condM_some hy1 hb)) ⟨look_tc rfl hb, look_tc rfl hb, trivial⟩) ?_
 refine Qan ?_
 refine Qm ?_
 refine Qg1 (r_fa fd50_2) ?_
 refine Qg (fun hb => r_load (i := 1) ((Lens.id T_api_Entry).comp le_T_api_Entry_Priority) (r := x0.f_Priority) ty3 (look_tc rfl hb) rfl rfl rfl) ?_
 refine Qg1 (r_fa fd50_2) ?_
 refine Qg (fun hb => r_load (i := 0) ((Lens.id T_api_Entry).comp le_T_api_Entry_Priority) (r := x1.f_Priority) ty3 (look_tc rfl hb) rfl rfl rfl) ?_
 refine Qg2 r_eql ?_
 refine Qan ?_
 refine Qa ?_
 refine Qnx ?_
 refine Wp.ret ?_
 obtain rfl:=some_in h
 exact Qe1
theorem C_exact_Index_Remove {hp : Pool Cell} {x0 : Ref} {x1 : Vector T_api_Value 4}  {r : Bool × (Pool Cell)} (h : L_exact_Index_Remove hp x0 x1 = some r) : MeetsO Tryz.prog 234 [VP.of (x0), VP.of (x1)] ([] ++ Ents hp) (δ := Unit) (fun d => VP.of (r.1)) (fun d => [] ++ Ents r.2) := by
 unfold L_exact_Index_Remove at h
 refine MeetsO.of Tryz.func234 rfl Tryz.ntmps234 rfl fun W A => ?_
 refine Qsr ?_
 refine Qbx fun p1 => ?_
 refine Qa ?_
 refine Qns ?_
 refine Qsr ?_
 refine Qm ?_
 refine Ql0 0 ty45 ?_
 obtain ⟨y1,hy1,h⟩:=Qbs h
 refine Sq.vS (HS.callQ 1 rfl en231 (C_exact_Index_Get hy1) ⟨look_t rfl, look_t rfl, trivial⟩) rfl rfl rfl ?_
 refine Qm ?_
 refine Qxt ?_
 refine Qxt ?_
 refine Qa ?_
 refine Qa ?_
 refine Qnr ?_
 refine Qm ?_
 refine Q1 r_not ?_
 refine Qnx ?_
 refine Qcd h (fun h=>?_) fun h=>?_
 ·refine Qsr ?_
  refine Qa ?_
  refine Qnx ?_
  refine Wp.ret ?_
  refine To.ret ?_
  obtain rfl:=some_in h
  exact To.endO1 () (.cons _ (.refl _)) rfl rfl (rvo_t rfl)
 ·refine Qkn ?_
  refine Wp.seq ?_
  obtain ⟨o1,ho1,h⟩:=Qbs h
  obtain ⟨c1,hc1,h⟩:=Qbs h
  refine Wp.draw mixed 5 [some 15, some 16, some 17, some 18, some 19] [[], [0], [1], [2], []] [.val _, .val _, .val _, .val _, .val _] [false, false, false, false, false] (by kernel_rfl) rfl rfl rfl (fun ps1 => ⟨Hm, Hv fun L' hL => r_nck (look_ref (look_t rfl) ho1), H1 (r_fa fd224_0), Hv fun L' hL => r_loadM ((Lens.id T_exact_Index).comp le_T_exact_Index_ids) (r := c1.f_ids) ty222 (look_t rfl) (dmem (fun i e q => hL i e q rfl) (pmem (n := 1) rfl (rds224 hc1) rfl)) rfl rfl, Hl0 0 ty45, trivial⟩) fun ps1 => ?_
  obtain ⟨o2,ho2,h⟩:=Qbs h
  obtain ⟨c2,hc2,h⟩:=Qbs h
  obtain ⟨hp1,hhp1,h⟩:=Qbs h
  refine Sq.mdelQ (k' := Cell.c222 (mdel c2 x1)) 1 rfl Tryz.underlying222 kt319 (look_mref (look_t rfl) ho2) (look_t rfl) (rds222 hc2) rfl rfl rfl (some_in hhp1) ?_
  refine Qnr ?_
  refine Qa ?_
  refine Qnx ?_
  refine Wp.ret ?_
  obtain rfl:=some_in h
  exact To.endO1 () (.cons _ (.refl _)) rfl rfl (rvo_t rfl)
end Go.Proofs.YtmnggbjcnoffeaaGreat

namespace Go.Proofs.YtmnggbjcnoffeaaGreat
open Go Gv
set_option linter.unusedVariables false
set_option linter.unusedSimpArgs false
set_option maxRecDepth 100000
set_option maxHeartbeats 2000000
theorem C_index_New {hp : Pool Cell} {x0 : T_api_Schema} {x1 : Int}  {Q : Ref × (Pool Cell) → Prop} (h : L_index_New hp x0 x1 Q) : MeetsO Tryz.prog 39 [VP.of (x0), VP.of (x1)] ([] ++ Ents hp) (δ := {r : Ref × (Pool Cell) // Q r} × Unit) (fun d => VP.of (d.1.1.1)) (fun d => [] ++ Ents d.1.1.2) := by
 unfold L_index_New at h
 refine MeetsO.of Tryz.func39 rfl Tryz.ntmps39 rfl fun W A => ?_
 refine Qsr ?_
 refine Qbx fun p1 => ?_
 refine Qv (r_asg (look_nilref)) ?_
 refine Qnr ?_
 refine Ql0 0 ty33 ?_
 refine Qm ?_
 obtain ⟨y1, hy1, h⟩ := Wm.of_bind h
 refine Qcl en82 (C_check_TableOf hy1) ?_
 refine Qa ?_
 refine Qns ?_
 refine Qsr ?_
 refine Qm ?_
 refine Q2 r_lss ?_
 refine Qnx ?_
 refine Wp.cond (look_t rfl) (fun hc => ?_) (fun hc => ?_)
 ·replace h := wcond_t hc h
  refine Qsr ?_
  refine Qv (r_asg (look_nilref)) ?_
  refine Qnx ?_
  refine Wp.ret ?_
  refine To.ret ?_
  exact To.endO1 (⟨⟨((none : Ref), hp), h⟩, ()⟩ : {r // _} × _) (.cons _ (.refl _)) rfl rfl (rvo_t rfl)
 ·replace h := wcond_f hc h
  refine Qkn ?_
  refine Qsr ?_
  refine Q1 (r_fa fd33_4) ?_
  refine Qld 0 le_T_api_Schema_Tables ty28 ?_
  refine Qm ?_
  obtain ⟨k1, hk1, h⟩ := Wm.of_bind h
  refine Qix hk1 Tryz.underlying28 ty65 ?_
  refine Q1 (r_loadp ty65) ?_
  refine Qal zr65 fun p2 => ?_
  refine Qs0 0 ty65 ?_
  refine Qnr ?_
  refine Ql0 0 ty65 ?_
  obtain ⟨y2, hy2, h⟩ := Wm.of_bind h
  refine Qcl en83 (C_index_kindOf hy2) ?_
  refine Qm ?_
  refine Qxt ?_
  refine Qxt ?_
  refine Qa ?_
  refine Qa ?_
  refine Qnr ?_
  refine Qm ?_
  refine Q1 (r_fa fd65_2) ?_
  refine Qld 0 le_T_api_Table_Keys ty62 ?_
  refine Q1 (r_len Tryz.underlying62) ?_
  refine Sq.mkMapQ (α := Int) (β := T_api_Installed) 2 rfl (Cell.c133 ([] : List (Int × T_api_Installed))) (fun _ => rfl) rfl fun a1 ha1 => ?_
  replace h := Wm.mk_bind h a1 ha1
  obtain ⟨z1, hz1, h⟩ := Wm.of_bind h
  refine Qn hz1 (r_build (b := ({ (default : T_index_Index) with f_kind := y2.1, f_keys := (((lget x0.f_Tables k1).f_Keys).length : Int), f_entries := (⟨some a1.1⟩ : MRef) } : T_index_Index)) rfl bu135 zr135 (.cons le_T_index_Index_kind rfl (look_t rfl) rfl (.cons le_T_index_Index_keys rfl (look_t rfl) rfl (.cons le_T_index_Index_entries rfl (look_t rfl) rfl (.nil))))) ?_
  refine Sq.boxQ 2 rfl (Cell.c135 z1) (fun _ => rfl) (look_t rfl) rfl fun a2 ha2 => ?_
  replace h := Wm.mk_bind h a2 ha2
  refine Qa ?_
  refine Qns ?_
  refine Qsr ?_
  refine Qm ?_
  refine Qnx ?_
  refine Wp.block ?_
  refine Qsr ?_
  refine Q2 r_eql ?_
  refine Qa ?_
  refine Qnx ?_
  refine Wp.condWh (γ := Unit) h (fun m1 g1 => [(0, VP.of (x0)), (1, VP.of (x1)), (2, VP.eq (.pointer (some ⟨p1, 0, none⟩))), (4, VP.of (none : Ref)), (5, VP.of (y1)), (6, VP.eq (.pointer (some ⟨p2, 0, none⟩))), (7, VP.of (y2.1)), (8, VP.of (y2.2)), (9, VP.of (some a2.1 : Ref)), (16, VP.of (decide (y1 < 0))), (34, VP.of (y2.1)), (42, VP.of (y2.1 == 1))]) (fun m1 g1 => (⟨some p2, .var (lget x0.f_Tables k1 : T_api_Table)⟩ :: ⟨some p1, .var (x0 : T_api_Schema)⟩ :: Ents m1)) (look_t rfl) (fun m1 g1 h => ?_) (fun hm hc h => ?_) (fun hm hc h => ?_)
  ·refine To.bnorm ?_
   refine To.next ?_
   refine Qsr ?_
   refine Qm ?_
   refine Qa ?_
   refine Qnx ?_
   refine Wp.ret ?_
   exact To.endO1 (⟨⟨((some a2.1 : Ref), m1), h⟩, ()⟩ : {r // _} × _) (.cons _ (.cons _ (.refl _))) rfl rfl (rvo_t rfl)
  ·refine Wp.reg ?_
   refine Qm ?_
   refine Sq.callP 2 0 rfl en84 (C_exact_New h) rfl rfl trivial rfl fun ⟨⟨y3, h⟩, q1⟩ => ?_
   refine Sq.eqL (L2 := (⟨some p2, .var (lget x0.f_Tables k1 : T_api_Table)⟩ :: ⟨some p1, .var (x0 : T_api_Schema)⟩ :: Ents y3.2)) rfl ?_
   refine Qbd bu166 zr166 { f_x := y3.1 : T_index_hashed } (Qfl le_T_index_hashed_x .nil) ?_
   refine Qv (r_mkIf Tryz.underlying166 rfl (look_t rfl) (fun _ _ _ h => if132_166 h)) ?_
   refine Qv (r_nck (look_ref (look_t rfl) rfl)) ?_
   refine Q1 (r_fa fd135_2) ?_
   obtain ⟨c1, hc1, h⟩ := Wm.of_bind h
   obtain ⟨hp1, hhp1, h⟩ := Wm.of_bind h
   refine Sq.storeQ (k' := Cell.c135 ({ c1 with f_finder := (T_index_finder.c166 ({ f_x := y3.1 : T_index_hashed })) } : T_index_Index)) 2 rfl ((Lens.id T_index_Index).comp le_T_index_Index_finder) (v := ((T_index_finder.c166 ({ f_x := y3.1 : T_index_hashed })) : T_index_finder)) ty132 (look_t rfl) (look_t rfl) (rds135 hc1) rfl rfl rfl rfl (some_in hhp1) ?_
   refine Sq.nil ?_
   exact Qmt 0 (hm hp1 () h)
  ·refine Qsr ?_
   refine Q2 r_eql ?_
   refine Qa ?_
   refine Qnx ?_
   refine Wp.condWh (γ := Unit) h (fun m2 g2 => [(0, VP.of (x0)), (1, VP.of (x1)), (2, VP.eq (.pointer (some ⟨p1, 0, none⟩))), (4, VP.of (none : Ref)), (5, VP.of (y1)), (6, VP.eq (.pointer (some ⟨p2, 0, none⟩))), (7, VP.of (y2.1)), (8, VP.of (y2.2)), (9, VP.of (some a2.1 : Ref)), (16, VP.of (decide (y1 < 0))), (34, VP.of (y2.1)), (42, VP.of (y2.1 == 1)), (50, VP.of (y2.1 == 2))]) (fun m2 g2 => (⟨some p2, .var (lget x0.f_Tables k1 : T_api_Table)⟩ :: ⟨some p1, .var (x0 : T_api_Schema)⟩ :: Ents m2)) (look_t rfl) (fun m2 g2 h => ?_) (fun hm hc h => ?_) (fun hm hc h => ?_)
   ·exact Qmt 0 (hm m2 () h)
   ·refine Qsr ?_
    refine Qa ?_
    refine Qns ?_
    refine Wp.seq ?_
    obtain ⟨k2, hk2, h⟩ := Wm.of_bind h
    obtain ⟨y4, hy4, h⟩ := Wm.of_bind h
    refine Wp.draw mixed 8 [some 52, some 53, some 54, some 55, some 56, some 57, some 58, some 59] [[], [], [1], [], [2, 3], [4], [5], [0, 6]] [.val _, .val _, .val _, .val _, .val _, .val _, .val _, .val _] [false, false, false, false, false, false, false, false] (by kernel_rfl) rfl rfl rfl (fun ps1 => ⟨Hl0 1 ty33, H1 (r_fa fd65_2), Hld 0 le_T_api_Table_Keys ty62, Hm, Hix hk2 Tryz.underlying62 ty86, Hfp le_T_api_Key_Field fd86_1, H1 (r_loadp ty3), Hcl en85 (C_check_FieldOf hy4), trivial⟩) fun ps1 => ?_
    refine Qa ?_
    refine Qnr ?_
    refine Qm ?_
    refine Q2 r_geq ?_
    refine Qnx ?_
    obtain ⟨m3, hm3, h⟩ := Wm.of_bind h
    refine Wp.condM (γ := Unit) (fun g3 => [(0, VP.of (x0)), (1, VP.of (x1)), (2, VP.eq (.pointer (some ⟨p1, 0, none⟩))), (4, VP.of (none : Ref)), (5, VP.of (y1)), (6, VP.eq (.pointer (some ⟨p2, 0, none⟩))), (7, VP.of (y2.1)), (8, VP.of (y2.2)), (9, VP.of (some a2.1 : Ref)), (10, VP.of (m3)), (11, VP.of (y4)), (16, VP.of (decide (y1 < 0))), (34, VP.of (y2.1)), (42, VP.of (y2.1 == 1)), (50, VP.of (y2.1 == 2)), (61, VP.of (decide (y4 ≥ 0)))]) (fun g3 => (⟨some p2, .var (lget x0.f_Tables k1 : T_api_Table)⟩ :: ⟨some p1, .var (x0 : T_api_Schema)⟩ :: Ents a2.2)) (look_t rfl) (fun g3 => ?_) (fun hm hc => ?_) (fun hm hc => ?_)
    ·clear hm3
     refine To.next ?_
     refine Wp.reg ?_
     refine Qm ?_
     refine Qm ?_
     refine Qm ?_
     refine Sq.mkMapQ (α := Vector T_api_Value 4) (β := Ref) 2 rfl (Cell.c167 ([] : List ((Vector T_api_Value 4) × Ref))) (fun _ => rfl) rfl fun a3 ha3 => ?_
     replace h := Wm.mk_bind h a3 ha3
     obtain ⟨z2, hz2, h⟩ := Wm.of_bind h
     refine Qn hz2 (r_build (b := { f_key := y2.2, f_bits := m3, f_tries := (⟨some a3.1⟩ : MRef) : T_index_prefixed }) rfl bu169 zr169 (.cons le_T_index_prefixed_key rfl (look_t rfl) rfl (.cons le_T_index_prefixed_bits rfl (look_t rfl) rfl (.cons le_T_index_prefixed_tries rfl (look_t rfl) rfl (.nil))))) ?_
     refine Qv (r_mkIf Tryz.underlying169 rfl (look_t rfl) (fun _ _ _ h => if132_169 h)) ?_
     refine Qv (r_nck (look_ref (look_t rfl) rfl)) ?_
     refine Q1 (r_fa fd135_2) ?_
     obtain ⟨c2, hc2, h⟩ := Wm.of_bind h
     obtain ⟨hp2, hhp2, h⟩ := Wm.of_bind h
     refine Sq.storeQ (k' := Cell.c135 ({ c2 with f_finder := (T_index_finder.c169 z2) } : T_index_Index)) 2 rfl ((Lens.id T_index_Index).comp le_T_index_Index_finder) (v := ((T_index_finder.c169 z2) : T_index_finder)) ty132 (look_t rfl) (look_t rfl) (rds135 hc2) rfl rfl rfl rfl (some_in hhp2) ?_
     refine Sq.nil ?_
     exact Qmt 0 (hm hp2 () h)
    ·have h := cond_t hc hm3
     refine Wp.reg ?_
     refine Q1 (r_fa fd33_0) ?_
     refine Qld 1 le_T_api_Schema_Fields ty24 ?_
     refine Qm ?_
     obtain ⟨k3,hk3,h⟩:=Qbs h
     refine Qix hk3 Tryz.underlying24 ty119 ?_
     refine Qfp le_T_api_Field_Bits fd119_2 ?_
     refine Q1 (r_loadp ty3) ?_
     refine Qa ?_
     refine Sq.nil ?_
     obtain rfl:=some_in h
     exact Qmt 0 (hm ())
    ·have h := cond_f hc hm3
     refine Wp.skip ?_
     obtain rfl:=some_in h
     exact Qmt 0 (hm ())
   ·refine Wp.reg ?_
    refine Qm ?_
    refine Ql0 1 ty33 ?_
    obtain ⟨y5, hy5, h⟩ := Wm.of_bind h
    refine QcO 0 en86 (Cq0_1_ordered_New hy5) fun q2 => ?_
    refine Sq.give2 4 2 (Cell.c228 y5 q2.2.1 q2.2.2) rfl rfl rfl rfl List.mem_cons_self fun a4 ha4 ea4 => ?_
    replace h := h (q2.2.1, q2.2.2) a4 ha4
    refine Sq.toref 37 rfl ea4 ?_
    refine Qbd bu173 zr173 { f_l := (some a4.1 : Ref) : T_index_sorted } (Qfl le_T_index_sorted_l .nil) ?_
    refine Qv (r_mkIf Tryz.underlying173 rfl (look_t rfl) (fun _ _ _ h => if132_173 h)) ?_
    refine Qv (r_nck (look_ref (look_t rfl) rfl)) ?_
    refine Q1 (r_fa fd135_2) ?_
    obtain ⟨c3, hc3, h⟩ := Wm.of_bind h
    obtain ⟨hp3, hhp3, h⟩ := Wm.of_bind h
    refine Sq.storeQ (k' := Cell.c135 ({ c3 with f_finder := (T_index_finder.c173 ({ f_l := (some a4.1 : Ref) : T_index_sorted })) } : T_index_Index)) 2 rfl ((Lens.id T_index_Index).comp le_T_index_Index_finder) (v := ((T_index_finder.c173 ({ f_l := (some a4.1 : Ref) : T_index_sorted })) : T_index_finder)) ty132 (look_t rfl) (look_t rfl) (rds135 hc3) rfl rfl rfl rfl (some_in hhp3) ?_
    refine Sq.nil ?_
    exact Qmt 0 (hm hp3 () h)
theorem C_value_Leading {x0 : Int} {x1 : Int}  {r : T_api_Value} (h : L_value_Leading x0 x1 = some r) : Meets Tryz.prog 189 [VP.of (x0), VP.of (x1)] (VP.of (r)) := by
 unfold L_value_Leading at h
 refine Meets.of Tryz.func189 rfl Tryz.ntmps189 rfl fun W A => ?_
 refine Qsr ?_
 refine Qal zr43 fun p1 => ?_
 refine Qnr ?_
 refine Qm ?_
 obtain ⟨y1,hy1,h⟩:=Qbs h
 refine Qcl en205 (C_value_within hy1) ?_
 refine Qa ?_
 refine Qnr ?_
 refine Qm ?_
 refine Q2 r_max ?_
 refine Qm ?_
 refine Q2 r_min ?_
 refine Qa ?_
 refine Qnr ?_
 refine Qm ?_
 obtain ⟨y2,hy2,h⟩:=Qbs h
 refine Qcl en188 (C_value_Ones hy2) ?_
 refine Qm ?_
 refine Qm ?_
 refine Q2 r_sub ?_
 obtain ⟨y3,hy3,h⟩:=Qbs h
 refine Qcl en188 (C_value_Ones hy3) ?_
 obtain ⟨y4,hy4,h⟩:=Qbs h
 refine Qcl en193 (C_value_Xor hy4) ?_
 refine Qs0 0 ty43 ?_
 refine Qnx ?_
 refine Wp.ret ?_
 obtain rfl:=some_in h
 exact To.end1 rfl (Qrc 0 ty43)
end Go.Proofs.YtmnggbjcnoffeaaGreat

namespace Go.Proofs.YtmnggbjcnoffeaaGreat
open Go Gv
set_option linter.unusedVariables false
set_option linter.unusedSimpArgs false
set_option maxRecDepth 100000
set_option maxHeartbeats 2000000
end Go.Proofs.YtmnggbjcnoffeaaGreat

namespace Go.Proofs.YtmnggbjcnoffeaaGreat
open Go Gv
set_option linter.unusedVariables false
set_option linter.unusedSimpArgs false
set_option maxRecDepth 100000
set_option maxHeartbeats 2000000
end Go.Proofs.YtmnggbjcnoffeaaGreat

namespace Go.Proofs.YtmnggbjcnoffeaaGreat
open Go Gv
set_option linter.unusedVariables false
set_option linter.unusedSimpArgs false
set_option maxRecDepth 100000
set_option maxHeartbeats 2000000
end Go.Proofs.YtmnggbjcnoffeaaGreat

namespace Go.Proofs.YtmnggbjcnoffeaaGreat
open Go Gv
set_option linter.unusedVariables false
set_option linter.unusedSimpArgs false
set_option maxRecDepth 100000
set_option maxHeartbeats 2000000
theorem C_mcase_Codes_Bool {x0 : T_mcase_Codes} {pp0 : Nat} {r : Bool × T_mcase_Codes} (h : L_mcase_Codes_Bool x0 = some r) : MeetsO Tryz.prog 55 [VP.eq (.pointer (some ⟨pp0, 0, none⟩))] [⟨some pp0, .var (x0 : T_mcase_Codes)⟩] (δ := Unit) (fun d => VP.of (r.1)) (fun d => [⟨some pp0, .var (r.2 : T_mcase_Codes)⟩]) := by
 unfold L_mcase_Codes_Bool at h
 refine MeetsO.of Tryz.func55 rfl Tryz.ntmps55 rfl fun W A => ?_
 refine Qsr ?_
 refine Qa ?_
 refine Qnr ?_
 refine Qm ?_
 refine Sq.bring 0 rfl ?_
 obtain ⟨y1,hy1,h⟩:=Qbs h
 refine QcO 1 en32 (C_mcase_Codes_Next hy1) fun q1 => ?_
 refine Q2 r_eql ?_
 refine Qa ?_
 refine Qnx ?_
 refine Wp.ret ?_
 refine To.bring 0 rfl ?_
 obtain rfl:=some_in h
 exact Qo1 ()
end Go.Proofs.YtmnggbjcnoffeaaGreat

