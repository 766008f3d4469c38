/-
  Each function meets its functional program. Conditions: none.
-/
import Derived.Test.YtodajdohokmjnaaKc3
import Derived.Test.YtodajdohokmjnaaKc0
import Derived.Test.YtodajdohokmjnaaKc1
namespace Go.Proofs.Ytodajdohokmjnaa
open Go Gv
set_option linter.unusedVariables false
set_option linter.unusedSimpArgs false
set_option maxRecDepth 100000
set_option maxHeartbeats 2000000
theorem Cf0_ordered_List_order {x0 : T_ordered_List} {x1 : T_api_Installed} {x2 : T_api_Installed}  {r : Int} (h : Lf0_ordered_List_order x0 x1 x2 = some r) : Meets Try.prog 83 [VP.ptr x0, VP.of (x1), VP.of (x2)] (VP.of (r)) := by
 unfold Lf0_ordered_List_order at h
 refine Meets.of Try.func83 rfl Try.ntmps83 rfl fun W A => ?_
 refine Qsr ?_
 refine Qbx fun p1 => ?_
 refine Qbx fun p2 => ?_
 refine Qa ?_
 refine Qns ?_
 refine Wp.block ?_
 refine Wp.seq ?_
 obtain ⟨y1,hy1,h⟩:=Qbs h
 refine Wp.draw mixed 7 [some 8, some 9, some 10, some 11, some 12, some 13, some 14] [[], [0], [1], [2], [], [], [3, 4, 5]] [.val _, .val _, .val _, .val _, .val _, .val _, .val _] [false, false, false, false, false, false, false] (by kernel_rfl) rfl rfl rfl (fun ps1 => ⟨Hm, H1 r_nckp, Hfp le_T_ordered_List_schema fd161_0, H1 (r_loadp ty33), Hl0 1 ty92, Hl0 0 ty92, Hcl en119 (C_entry_Beats hy1), trivial⟩) fun ps1 => ?_
 refine Qa ?_
 refine Qnx ?_
 refine Qcd h (fun h=>?_) fun h=>?_
 ·refine Qsr ?_
  refine Qa ?_
  refine Qnx ?_
  refine Wp.ret ?_
  refine To.bret ?_
  refine To.ret ?_
  obtain rfl:=some_in h
  exact Qe1
 ·refine Wp.seq ?_
  obtain ⟨y2,hy2,h⟩:=Qbs h
  refine Wp.draw mixed 7 [some 16, some 17, some 18, some 19, some 20, some 21, some 22] [[], [0], [1], [2], [], [], [3, 4, 5]] [.val _, .val _, .val _, .val _, .val _, .val _, .val _] [false, false, false, false, false, false, false] (by kernel_rfl) rfl rfl rfl (fun ps2 => ⟨Hm, H1 r_nckp, Hfp le_T_ordered_List_schema fd161_0, H1 (r_loadp ty33), Hl0 0 ty92, Hl0 1 ty92, Hcl en119 (C_entry_Beats hy2), trivial⟩) fun ps2 => ?_
  refine Qa ?_
  refine Qnx ?_
  refine Qcd h (fun h=>?_) fun h=>?_
  ·refine Qsr ?_
   refine Qa ?_
   refine Qnx ?_
   refine Wp.ret ?_
   refine To.bret ?_
   refine To.ret ?_
   obtain rfl:=some_in h
   exact Qe1
  ·refine Wp.skip ?_
   refine To.bnorm ?_
   refine To.next ?_
   refine Qsr ?_
   refine Qa ?_
   refine Qnx ?_
   refine Wp.ret ?_
   obtain rfl:=some_in h
   exact Qe1
theorem Ch1_1_ordered_List_matching_fn1 {x1 : T_ordered_List} {x2 : Vector T_api_Value 4} {pp1 : Nat} {key01_0 : Option Nat} {cap01_0 : Nat} : MeetsI Try.prog 114 [VP.pv (VP.eq (.pointer (some ⟨pp1, 0, none⟩))), VP.ptr x2] [⟨some pp1, .varX (({ x1 with f_l := [] } : T_ordered_List) : T_ordered_List) [(10, slv key01_0 x1.f_l.length cap01_0)]⟩, ⟨key01_0, .row 92 (x1.f_l : List T_api_Installed) cap01_0⟩] (fun v : T_api_Installed => VP.of v) (fun {σ ε} => Lh1_1_ordered_List_matching_fn1 (σ := σ) (ε := ε) x1 x2) := by
 refine MeetsI.of Try.func114 rfl Try.ntmps114 rfl ?_
 intro σ ε γ Ls Lx step s0 g0 r h W A u hY
 replace h : Lh1_1_ordered_List_matching_fn1 x1 x2 step s0 = some r := h
 unfold Lh1_1_ordered_List_matching_fn1 at h
 refine Qsr ?_
 refine Qv (r_loadF Try.underlying82 rfl (look_t rfl)) ?_
 refine Q1 r_nck ?_
 refine Q1 (r_fa fd161_1) ?_
 refine Qv (r_loadH (i := 0) (q := 0) (β := T_ordered_List) (γ := T_api_Installed) ty84 (look_t rfl) rfl rfl) ?_
 refine Qv (r_lenO (i := 1) Try.underlying84 (look_t rfl) rfl rfl) ?_
 refine Qm ?_
 refine Qnx ?_
 refine Wp.block ?_
 obtain ⟨e1,hl,h⟩:=Qbs h
 refine Wp.loopG (σ := Int × (σ)) (ε := (Int × Bool × (σ)) ⊕ (Int × Bool × Bool × (ε))) (γ := γ) (δ := γ) hl (fun s1 g1 => [(0, VP.eq u), (1, VP.pv (VP.eq (.pointer (some ⟨pp1, 0, none⟩)))), (2, VP.ptr x2), (9, VP.eq (slv key01_0 x1.f_l.length cap01_0)), (10, VP.of (x1.f_l.length : Int)), (11, VP.of (s1.1))]) (fun s1 g1 => (⟨some pp1, .varX (({ x1 with f_l := [] } : T_ordered_List) : T_ordered_List) [(10, slv key01_0 x1.f_l.length cap01_0)]⟩ :: ⟨key01_0, .row 92 (x1.f_l : List T_api_Installed) cap01_0⟩ :: Ls s1.2 g1)) (fun q1 => Sum.elim (fun q1 => Exit.exit 0) (fun q1 => Exit.ret) q1) (fun q1 g1 => Sum.elim (fun q1 => [(0, VP.eq u), (1, VP.pv (VP.eq (.pointer (some ⟨pp1, 0, none⟩)))), (2, VP.ptr x2), (9, VP.eq (slv key01_0 x1.f_l.length cap01_0)), (10, VP.of (x1.f_l.length : Int)), (11, VP.of (q1.1)), (12, VP.of (q1.2.1))]) (fun q1 => [(0, VP.eq u), (1, VP.pv (VP.eq (.pointer (some ⟨pp1, 0, none⟩)))), (2, VP.ptr x2), (9, VP.eq (slv key01_0 x1.f_l.length cap01_0)), (10, VP.of (x1.f_l.length : Int)), (11, VP.of (q1.1)), (12, VP.of (q1.2.1)), (28, VP.of (q1.2.2.1))]) q1) (fun q1 g1 => Sum.elim (fun q1 => (⟨some pp1, .varX (({ x1 with f_l := [] } : T_ordered_List) : T_ordered_List) [(10, slv key01_0 x1.f_l.length cap01_0)]⟩ :: ⟨key01_0, .row 92 (x1.f_l : List T_api_Installed) cap01_0⟩ :: Ls q1.2.2 g1)) (fun q1 => (⟨some pp1, .varX (({ x1 with f_l := [] } : T_ordered_List) : T_ordered_List) [(10, slv key01_0 x1.f_l.length cap01_0)]⟩ :: ⟨key01_0, .row 92 (x1.f_l : List T_api_Installed) cap01_0⟩ :: Lx q1.2.2.2 g1)) q1) g0 rfl (.same rfl (.same rfl (.same rfl (.same rfl (.same rfl (.same rfl .nil)))))) (fun s1 r h g1 => ?_) (fun g1 => ?_)
 ·clear hl
  refine Qsr ?_
  refine Q2 r_lss ?_
  refine Qns ?_
  refine Qcd h (fun h=>?_) fun h=>?_
  ·refine Qkn ?_
   refine Wp.seq ?_
   refine Wp.block ?_
   refine Qsr ?_
   obtain ⟨k1,hk1,h⟩:=Qbs h
   refine Qv (r_iaO (i := 1) (k := k1) (xs := (x1.f_l : List T_api_Installed)) Try.underlying84 ty92 (look_t rfl) (look_t rfl) rfl (idx_some hk1)) ?_
   refine Qv (r_loadR (i := 1) (k := k1) (Lens.id T_api_Installed) (r := (lget x1.f_l k1)) ty92 (look_t rfl) rfl (idx_some hk1).1 rfl rfl) ?_
   refine Qal zr92 fun p1 => ?_
   refine Qs0 0 ty92 ?_
   refine Qns ?_
   obtain ⟨y1,hy1,h⟩:=Qbs h
   refine Wp.draw mixed 11 [some 15, some 16, some 17, some 18, some 19, some 20, some 21, some 22, some 23, some 24, some 25] [[], [0], [1], [2], [], [4], [], [3, 5, 6], [7], [8], [8]] [.val _, .val _, .val _, .val _, .val _, .val _, .val _, .val _, .val _, .val _, .val _] [false, false, false, false, false, false, false, false, false, false, false] (by kernel_rfl) rfl rfl rfl (fun ps1 => ⟨Hv fun L' hL => r_loadF Try.underlying82 rfl (look_t rfl), H1 r_nck, H1 (r_fa fd161_0), Hv fun L' hL => r_loadX (i := 1) ((Lens.id T_ordered_List).comp le_T_ordered_List_schema) (r := x1.f_schema) ty33 (look_t rfl) (hL _ _ rfl rfl) rfl rfl (by rfl), H1 (r_fa fd92_0), Hld 0 le_T_api_Installed_Entry ty89, H1 (r_loadp ty81), Hcl en115 (C_entry_Matches hy1), Hm, Hg fun L' hL => fun hb => r_move (look_t rfl), Hg fun L' hL => fun hb => r_load (i := 0) (Lens.id T_api_Installed) (r := (lget x1.f_l k1)) ty92 (look_t rfl) (hL _ _ rfl rfl) rfl rfl, trivial⟩) fun ps1 => ?_
   refine Sq.cases y1 (fun hb => ?_) (fun hb => ?_)
   ·replace h := cond_t hb h
    obtain ⟨y2,hy2,h⟩:=Qbs h
    refine Sq.yieldT (Lin := [⟨some p1, .var ((lget x1.f_l k1) : T_api_Installed)⟩, ⟨some pp1, .varX (({ x1 with f_l := [] } : T_ordered_List) : T_ordered_List) [(10, slv key01_0 x1.f_l.length cap01_0)]⟩, ⟨key01_0, .row 92 (x1.f_l : List T_api_Installed) cap01_0⟩]) (Ls := Ls) (Lx := Lx) (step := step) (s := s1.2) (gg := g1) rfl hY hb rfl rfl rfl (look_tc rfl hb) hy2 rfl (fun s2 hr g2 => ?_) (fun q2 hr g2 => ?_)
    ·subst hr; simp only [Sum.elim_inl] at h
     refine Sq.eqL (L2 := (⟨some p1, .var ((lget x1.f_l k1) : T_api_Installed)⟩ :: ⟨some pp1, .varX (({ x1 with f_l := [] } : T_ordered_List) : T_ordered_List) [(10, slv key01_0 x1.f_l.length cap01_0)]⟩ :: ⟨key01_0, .row 92 (x1.f_l : List T_api_Installed) cap01_0⟩ :: Ls s2 g2)) rfl ?_
     refine Qg1 r_not ?_
     refine Qan ?_
     refine Qnx ?_
     refine Wp.condF (look_t rfl) (by first | rfl | (rw [hb]; rfl)) ?_
     refine Wp.skip ?_
     refine To.bnorm ?_
     refine To.next ?_
     refine Wp.reg ?_
     refine Q2 r_add ?_
     refine Qm ?_
     refine Sq.nil ?_
     obtain rfl:=some_in h
     exact Qrd g2 1
    ·subst hr; simp only [Sum.elim_inr] at h
     refine Sq.eqL (L2 := (⟨some p1, .var ((lget x1.f_l k1) : T_api_Installed)⟩ :: ⟨some pp1, .varX (({ x1 with f_l := [] } : T_ordered_List) : T_ordered_List) [(10, slv key01_0 x1.f_l.length cap01_0)]⟩ :: ⟨key01_0, .row 92 (x1.f_l : List T_api_Installed) cap01_0⟩ :: Lx q2 g2)) rfl ?_
     refine Qg1 r_not ?_
     refine Qan ?_
     refine Qnx ?_
     refine Wp.condT (look_t rfl) (by first | rfl | (rw [hb]; rfl)) ?_
     refine Wp.ret ?_
     refine To.bret ?_
     refine To.ret ?_
     obtain rfl:=some_in h
     exact Qlv g2 1
   ·replace h := cond_f hb h
    refine Sq.skipG (.of false) hb rfl rfl rfl rfl rfl ?_
    refine Qg1 r_not ?_
    refine Qan ?_
    refine Qnx ?_
    refine Wp.condF (look_t rfl) (by first | rfl | (rw [hb]; rfl)) ?_
    refine Wp.skip ?_
    refine To.bnorm ?_
    refine To.next ?_
    refine Wp.reg ?_
    refine Q2 r_add ?_
    refine Qm ?_
    refine Sq.nil ?_
    obtain rfl:=some_in h
    exact Qrd g1 1
  ·refine Wp.exit ?_
   refine To.exit ?_
   obtain rfl:=some_in h
   exact Qlv g1 0
 ·clear hl
  rcases e1 with e1 | e1
  ·simp only [Sum.elim_inl] at h
   refine To.bexit ?_
   refine To.endn ?_
   refine To.bring 1 rfl ?_
   refine To.bring 1 rfl ?_
   obtain rfl:=some_in h
   exact To.endO0 g1 (.cons_cons _ (.cons_cons _ (.refl _))) rfl rfl
  ·simp only [Sum.elim_inr] at h
   refine To.bret ?_
   refine To.bring 1 rfl ?_
   refine To.bring 1 rfl ?_
   obtain rfl:=some_in h
   exact To.endO0 g1 (.cons_cons _ (.cons_cons _ (.refl _))) rfl rfl
theorem C_ref10_Same {x0 : T_api_Entry} {x1 : T_api_Entry}  {r : Bool} (h : L_ref10_Same x0 x1 = some r) : Meets Try.prog 89 [VP.of (x0), VP.of (x1)] (VP.of (r)) := by
 unfold L_ref10_Same at h
 refine Meets.of Try.func89 rfl Try.ntmps89 rfl fun W A => ?_
 refine Qsr ?_
 refine Qbx fun p1 => ?_
 refine Qbx fun p2 => ?_
 refine Qa ?_
 refine Qnr ?_
 refine Ql0 1 ty89 ?_
 refine Ql0 0 ty89 ?_
 obtain ⟨y1,hy1,h⟩:=Qbs h
 refine Qcl en124 (C_ref10_Compare hy1) ?_
 refine Q2 r_eql ?_
 refine Qa ?_
 refine Qnx ?_
 refine Wp.ret ?_
 obtain rfl:=some_in h
 exact Qe1
theorem C_ref13_Best {x0 : T_api_Schema} {x1 : List T_api_Installed} {x2 : Vector T_api_Value 4}  {r : T_api_Installed × Bool} (h : L_ref13_Best x0 x1 x2 = some r) : Meets Try.prog 47 [VP.of (x0), VP.of (x1), VP.of (x2)] (VP.tup [VP.of (r.1), VP.of (r.2)]) := by
 unfold L_ref13_Best at h
 refine Meets.of Try.func47 rfl Try.ntmps47 rfl fun W A => ?_
 refine Qsr ?_
 refine Qbx fun p1 => ?_
 refine Qbx fun p2 => ?_
 refine Qal zr92 fun p3 => ?_
 refine Qa ?_
 refine Qnr ?_
 refine Qal zr92 fun p4 => ?_
 refine Qnr ?_
 refine Qa ?_
 refine Qns ?_
 refine Qsr ?_
 refine Qm ?_
 refine Q1 (r_len Try.underlying84) ?_
 refine Qm ?_
 refine Qnx ?_
 refine Wp.block ?_
 obtain ⟨e1,hl,h⟩:=Qbs h
 refine Qlp (γ:=Unit) (δ:=Unit) hl [0, 1, 2, 3, 5, 6, 7, 8, 12, 13] (fun s1 g1 => [(9, VP.of (s1.1)), (14, VP.of (s1.2.1))]) (fun s1 g1 => [(0, ⟨some p4, .var (s1.2.2 : T_api_Installed)⟩)]) (fun q1 => Exit.exit 0) (fun q1 g1 => [(9, VP.of (q1.1)), (14, VP.of (q1.2.1)), (15, VP.of (q1.2.2.1))]) (fun q1 g1 => [(0, ⟨some p4, .var (q1.2.2.2 : T_api_Installed)⟩)]) () (fun s1 r h g1 => ?_) fun g1 => ?_
 ·clear hl
  refine Qsr ?_
  refine Q2 r_lss ?_
  refine Qns ?_
  refine Qcd h (fun h=>?_) fun h=>?_
  ·refine Qkn ?_
   refine Wp.seq ?_
   refine Wp.block ?_
   refine Qsr ?_
   obtain ⟨k1,hk1,h⟩:=Qbs h
   refine Qix hk1 Try.underlying84 ty92 ?_
   refine Q1 (r_loadp ty92) ?_
   refine Qal zr92 fun p5 => ?_
   refine Qs0 0 ty92 ?_
   refine Qnr ?_
   refine Ql0 4 ty33 ?_
   refine Q1 (r_fa fd92_0) ?_
   refine Qld 0 le_T_api_Installed_Entry ty89 ?_
   refine Ql0 3 ty81 ?_
   obtain ⟨y1,hy1,h⟩:=Qbs h
   refine Qcl en37 (C_ref10_Matches hy1) ?_
   refine Qm ?_
   refine Qg1 r_move ?_
   refine Qg1 r_not ?_
   refine Qg1 r_move ?_
   refine Sq.gg (fun hb => r_load (i := 4) (Lens.id T_api_Schema) (r := x0) ty33 (look_t rfl) rfl rfl rfl) rfl rfl rfl rfl rfl ?_
   refine Sq.gg (fun hb => r_load (i := 0) (Lens.id T_api_Installed) (r := (lget x1 k1)) ty92 (look_t rfl) rfl rfl rfl) rfl rfl rfl rfl rfl ?_
   refine Sq.gg (fun hb => r_load (i := 1) (Lens.id T_api_Installed) (r := s1.2.2) ty92 (look_t rfl) rfl rfl rfl) rfl rfl rfl rfl rfl ?_
   obtain ⟨y2,hy2,h⟩:=Qbs h
   refine Sq.gg (fun hb => r_call en94 (C_ref10_Beats (condM_some hy2 (decide_eq_true hb))) ⟨look_tc rfl hb, look_tc rfl hb, look_tc rfl hb, trivial⟩) rfl rfl rfl rfl rfl ?_
   refine Qg (fun hb => r_or (look_tc rfl hb) (look_t rfl) (fun h => ⟨hb, h⟩)) ?_
   refine Qan ?_
   refine Qnx ?_
   obtain ⟨m1,hm1,h⟩:=Qbs h
   refine Qcm (γ:=Unit) [0, 1, 2, 3, 5, 6, 7, 8, 11, 12, 13, 14, 15, 32] (fun g2 => [(9, VP.of (m1.1))]) (fun g2 => [(1, ⟨some p4, .var (m1.2 : T_api_Installed)⟩)]) (fun g2 => ?_) (fun hm hc => ?_) fun hm hc => ?_
   ·clear hm1
    refine To.bnorm ?_
    refine To.next ?_
    refine Wp.reg ?_
    refine Q2 r_add ?_
    refine Qm ?_
    refine Sq.nil ?_
    obtain rfl:=some_in h
    exact Qrd () 1
   ·have h := cond_t hc hm1
    refine Wp.reg ?_
    refine Ql0 0 ty92 ?_
    refine Qs0 1 ty92 ?_
    refine Qa ?_
    refine Sq.nil ?_
    obtain rfl:=some_in h
    exact Qmt 0 (hm ())
   ·have h := cond_f hc hm1
    refine Wp.skip ?_
    obtain rfl:=some_in h
    exact Qmt 0 (hm ())
  ·refine Wp.exit ?_
   refine To.exit ?_
   obtain rfl:=some_in h
   exact Qlv () 0
 ·clear hl
  refine To.bexit ?_
  refine To.next ?_
  refine Qsr ?_
  refine Ql0 0 ty92 ?_
  refine Qm ?_
  refine Qs0 1 ty92 ?_
  refine Qa ?_
  refine Qnx ?_
  refine Wp.ret ?_
  obtain rfl:=some_in h
  exact To.end2 rfl (Qrc 1 ty92) (rv_t rfl)
end Go.Proofs.Ytodajdohokmjnaa

namespace Go.Proofs.Ytodajdohokmjnaa
open Go Gv
set_option linter.unusedVariables false
set_option linter.unusedSimpArgs false
set_option maxRecDepth 100000
set_option maxHeartbeats 2000000
theorem Ch0_1_ordered_List_Put {x0 : T_ordered_List} {x1 : T_api_Installed} {pp0 : Nat} {key00_0 : Option Nat} {cap00_0 : Nat} {r : Bool × T_ordered_List} (h : Lh0_1_ordered_List_Put x0 x1 = some r) : MeetsO Try.prog 36 [VP.eq (.pointer (some ⟨pp0, 0, none⟩)), VP.of (x1)] [⟨some pp0, .varX (({ x0 with f_l := [] } : T_ordered_List) : T_ordered_List) [(10, slv key00_0 x0.f_l.length cap00_0)]⟩, ⟨key00_0, .row 92 (x0.f_l : List T_api_Installed) cap00_0⟩] (δ := (Option Nat × Nat)) (fun d => VP.of (r.1)) (fun d => [⟨some pp0, .varX (({ r.2 with f_l := [] } : T_ordered_List) : T_ordered_List) [(10, slv d.1 (r.2.f_l).length d.2)]⟩, ⟨d.1, .row 92 (r.2.f_l : List T_api_Installed) d.2⟩]) := by
 unfold Lh0_1_ordered_List_Put at h
 refine MeetsO.of Try.func36 rfl Try.ntmps36 rfl fun W A => ?_
 refine Qsr ?_
 refine Qbx fun p1 => ?_
 refine Qa ?_
 refine Qns ?_
 refine Qsr ?_
 refine Qm ?_
 refine Qv (r_pnil Try.underlying82 (look_t rfl)) ?_
 refine Qm ?_
 refine Qg1 r_move ?_
 refine Qg1 (r_fa fd92_1) ?_
 refine Qg (fun hb => r_load (i := 0) ((Lens.id T_api_Installed).comp le_T_api_Installed_Number) (r := x1.f_Number) ty3 (look_tc rfl hb) rfl rfl rfl) ?_
 obtain ⟨y1,hy1,h⟩:=Qbs h
 refine Qg (fun hb => HR.lendT (β := T_ordered_List) (γ := T_api_Installed) (b' := (x0 : T_ordered_List)) ((Lens.id T_ordered_List).comp le_T_ordered_List_l) 1 2 0 rfl rfl rfl rfl rfl rfl flat_int (HR.lend0 1 rfl flat_int (HR.lendV (z := (x0 : T_ordered_List)) 1 11 rfl (fun _ _ _ h => h.1 hb) rfl flat_int (r_call en82 (Cf0_ordered_List_find (condM_some hy1 hb)) ⟨look_t rfl, look_tc rfl hb, trivial⟩)))) ?_
 refine Qg2 r_geq ?_
 refine Qor ?_
 refine Qnx ?_
 refine Qcd h (fun h=>?_) fun h=>?_
 ·refine Qsr ?_
  refine Qa ?_
  refine Qnx ?_
  refine Wp.ret ?_
  refine To.ret ?_
  refine To.bring 2 rfl ?_
  refine To.bring 2 rfl ?_
  obtain rfl:=some_in h
  exact Qo1 (key00_0, cap00_0)
 ·refine Qkn ?_
  refine Qsr ?_
  refine Qm ?_
  refine Qv (r_mkB (look_t rfl)) ?_
  refine Qa ?_
  refine Qns ?_
  obtain ⟨y2,hy2,h⟩:=Qbs h
  refine Qwl [0, 1, 3, 4, 5, 8, 9, 10, 11, 12, 13, 14, 15, 16, 17, 18] ?_
  refine Wp.drawD mixed (Hp 20 [] [] _ :: Hp 21 (0 :: []) [] _ :: Hp 22 (1 :: []) [] _ :: Hp 23 (2 :: []) (1 :: []) _ :: Hp 24 [] (0 :: []) _ :: Hp 25 [] [] _ :: Hp 26 (3 :: 4 :: 5 :: []) (1 :: 2 :: []) _ :: Hp 19 (6 :: []) [] _ :: Hp 27 (7 :: []) [] _ :: Hp 28 (7 :: []) [] _ :: Hp 6 (8 :: []) [] _ :: Hp 7 (9 :: []) [] _ :: []) _ (0 :: 1 :: 3 :: 4 :: 5 :: 8 :: 9 :: 10 :: 11 :: 12 :: 13 :: 14 :: 15 :: 16 :: 17 :: 18 :: []) rfl rfl (by kernel_rfl) ⟨Dm, D1 r_nck, D1 (r_fa fd161_1), Dv fun hd E' L' hE hL => r_loadH (i := 1) (q := 0) (β := T_ordered_List) (γ := T_api_Installed) ty84 (look_t (hE _ _ rfl)) (hL 1 _ rfl rfl) rfl, Dl0 0 ty92, Dm, Dv fun hd E' L' hE hL => HR.lendTS (β := T_ordered_List) (γ := T_api_Installed) (b' := (x0 : T_ordered_List)) ((Lens.id T_ordered_List).comp le_T_ordered_List_l) 1 2 0 23 rfl (hL 1 _ rfl rfl) (hL 2 _ rfl rfl) rfl rfl rfl (hE _ _ rfl) (flat_tup2 flat_int flat_bool) (HR.lend0 1 (gss (gso rfl (hL 1 _ rfl rfl))) (flat_tup2 flat_int flat_bool) (HR.lendB2 (F := (fun a0 a1 => Lf0_ordered_List_order x0 a0 a1)) 1 25 (hE _ _ rfl) (gss (gss (gso rfl (hL 1 _ rfl rfl)))) en83 (fun _ _ _ h => Cf0_ordered_List_order h) (flat_tup2 flat_int flat_bool) (r_call en84 (C_slices_BinarySearchFunc_api_Installed hy2) ⟨look_t rfl, look_t (hE _ _ rfl), look_t rfl, trivial⟩))), Dm, Dv fun hd E' L' hE hL => r_ext (look_t (hE _ _ rfl)) rfl, Dv fun hd E' L' hE hL => r_ext (look_t (hE _ _ rfl)) rfl, Dv fun hd E' L' hE hL => r_asg (look_t (hE _ _ rfl)), Dv fun hd E' L' hE hL => r_asg (look_t (hE _ _ rfl)), trivial⟩ fun hd => ?_
  refine To.eqL (L2 := [⟨some p1, .var (x1 : T_api_Installed)⟩, ⟨some pp0, .varX (({ x0 with f_l := [] } : T_ordered_List) : T_ordered_List) [(10, slv key00_0 x0.f_l.length cap00_0)]⟩, ⟨key00_0, .row 92 (x0.f_l : List T_api_Installed) cap00_0⟩]) rfl ?_
  refine Qtl [0, 1, 3, 4, 5, 6, 7, 8, 9, 10, 11, 12, 13, 14, 15, 16, 17, 18, 19, 20, 21, 22, 23, 24, 25, 26, 27, 28] ?_
  refine To.next ?_
  refine Wp.seq ?_
  obtain ⟨y3,hy3,h⟩:=Qbs h
  obtain ⟨y4,hy4,h⟩:=Qbs h
  refine Wp.keep 1 ?_
  refine Qwl [0, 1, 3, 4, 5, 6, 7, 8, 9, 10, 11, 12, 13, 14, 15, 16, 17, 18, 19, 20, 21, 22, 23, 24, 25, 26, 27, 28] ?_
  refine Wp.drawD mixed (Hp 29 [] [] _ :: Hp 30 [] [] _ :: Hp 31 (1 :: []) [] _ :: Hp 32 (2 :: []) [] _ :: Hp 33 (3 :: []) (1 :: []) _ :: Hp 34 [] [] _ :: Hp 35 [] (0 :: []) _ :: Hp 36 (6 :: []) [] _ :: ⟨some 37, (7 :: []), (3 :: []), (3 :: []), fun hd => VP.eq (slv (hd 8 0) [y3].length 1), fun hd _ => ⟨(hd 8 0), .row 92 ([y3] : List T_api_Installed) 1⟩⟩ :: ⟨some 38, (4 :: 5 :: 8 :: []), (2 :: 3 :: []), (2 :: 3 :: []), fun hd => VP.eq (slv (hd 9 0) y4.length ((hd 9 1).getD 0)), fun hd j => bif Nat.beq j 2 then ⟨(hd 9 0), .row 92 (y4 : List T_api_Installed) ((hd 9 1).getD 0)⟩ else ⟨none, .dead⟩⟩ :: Hp 39 (0 :: []) [] _ :: Hp 40 (10 :: []) [] _ :: ⟨none, (4 :: 9 :: 11 :: []), (1 :: []), (1 :: []), fun _ => VP.any, fun hd _ => ⟨some pp0, .varX (({ x0 with f_l := [] } : T_ordered_List) : T_ordered_List) [(10, slv (hd 9 0) y4.length ((hd 9 1).getD 0))]⟩⟩ :: []) _ (0 :: 1 :: 3 :: 4 :: 5 :: 6 :: 7 :: 8 :: 9 :: 10 :: 11 :: 12 :: 13 :: 14 :: 15 :: 16 :: 17 :: 18 :: 19 :: 20 :: 21 :: 22 :: 23 :: 24 :: 25 :: 26 :: 27 :: 28 :: []) rfl rfl (by kernel_rfl) ⟨Dm, Dm, D1 r_nck, D1 (r_fa fd161_1), Dv fun hd E' L' hE hL => r_loadH (i := 1) (q := 0) (β := T_ordered_List) (γ := T_api_Installed) ty84 (look_t (hE _ _ rfl)) (hL 1 _ rfl rfl) rfl, Dm, Dl0 0 ty92, Dv fun hd E' L' hE hL => r_call en81 (C_own_Installed hy3) ⟨look_t (hE _ _ rfl), trivial⟩, ?_, ?_, D1 r_nck, D1 (r_fa fd161_1), ?_, trivial⟩ fun hd => ?_
  ·intro hd E' L' hE hL
   refine Sq.bslO (α := T_api_Installed) (r := [y3]) Try.underlying84 ty92 zr92 rfl rfl (.cons (by simp) (look_t (hE _ _ rfl)) (.nil)) rfl fun key1 => ?_
   refine Sq.nil ?_
   refine To.place 3 (hL 3 _ rfl rfl) ?_
   exact To.fin (gm [key1]) rfl rfl
  ·intro hd E' L' hE hL
   refine Sq.callO2 (fun q => ⟨q.1, .row 92 (y4 : List T_api_Installed) q.2⟩) 2 3 en85 (Cop0_2_slices_Insert_api_Installed hy4) ⟨look_t (hE _ _ rfl), look_t (hE _ _ rfl), look_t (hE _ _ rfl), trivial⟩ rfl (hL 2 _ rfl rfl) (hL 3 _ rfl rfl) (fun _ => rfl) rfl fun ⟨key2, cap1⟩ => ?_
   refine Sq.nil ?_
   exact To.fin (gm [key2, some cap1]) rfl rfl
  ·intro hd E' L' hE hL
   refine Sq.storeH (i := 1) (γ := T_api_Installed) (b' := (({ x0 with f_l := [] } : T_ordered_List) : T_ordered_List)) (os' := [(10, slv (hd 9 0) y4.length ((hd 9 1).getD 0))]) ((Lens.id T_ordered_List).comp le_T_ordered_List_l) ty84 (look_t (hE _ _ rfl)) (look_t (hE _ _ rfl)) slv_one (hL 1 _ rfl rfl) rfl rfl rfl ?_
   refine Sq.nil ?_
   exact To.fin (gm []) rfl rfl
  refine To.eqL (L2 := [⟨some p1, .var (x1 : T_api_Installed)⟩, ⟨some pp0, .varX (({ x0 with f_l := [] } : T_ordered_List) : T_ordered_List) [(10, slv (hd 9 0) y4.length ((hd 9 1).getD 0))]⟩, ⟨(hd 9 0), .row 92 (y4 : List T_api_Installed) ((hd 9 1).getD 0)⟩, ⟨none, .dead⟩]) rfl ?_
  refine Qtl [0, 1, 3, 4, 5, 6, 7, 8, 9, 10, 11, 12, 13, 14, 15, 16, 17, 18, 19, 20, 21, 22, 24, 25, 26, 27, 28, 29, 30, 31, 32, 34, 35, 36, 38, 39, 40] ?_
  refine To.bring 3 rfl ?_
  refine To.next ?_
  refine Qsr ?_
  refine Qa ?_
  refine Qnx ?_
  refine Wp.ret ?_
  refine To.bring 3 rfl ?_
  refine To.bring 3 rfl ?_
  obtain rfl:=some_in h
  exact Qo1 ((hd 9 0), ((hd 9 1).getD 0))
theorem Ch0_1_ordered_List_Lookup {x0 : T_ordered_List} {x1 : Vector T_api_Value 4} {pp0 : Nat} {key00_0 : Option Nat} {cap00_0 : Nat} {r : T_api_Installed × Bool} (h : Lh0_1_ordered_List_Lookup x0 x1 = some r) : MeetsO Try.prog 35 [VP.eq (.pointer (some ⟨pp0, 0, none⟩)), VP.of (x1)] [⟨some pp0, .varX (({ x0 with f_l := [] } : T_ordered_List) : T_ordered_List) [(10, slv key00_0 x0.f_l.length cap00_0)]⟩, ⟨key00_0, .row 92 (x0.f_l : List T_api_Installed) cap00_0⟩] (δ := Unit) (fun d => VP.tup [VP.of (r.1), VP.of (r.2)]) (fun d => [⟨some pp0, .varX (({ x0 with f_l := [] } : T_ordered_List) : T_ordered_List) [(10, slv key00_0 (x0.f_l).length cap00_0)]⟩, ⟨key00_0, .row 92 (x0.f_l : List T_api_Installed) cap00_0⟩]) := by
 unfold Lh0_1_ordered_List_Lookup at h
 refine MeetsO.ofM Try.func35 rfl Try.ntmps35 rfl fun W A => ?_
 refine Qsr ?_
 refine Qbx fun p1 => ?_
 refine Qal zr92 fun p2 => ?_
 refine Qal zr4 fun p3 => ?_
 refine Qns ?_
 refine Qsr ?_
 refine Qm ?_
 refine Qv (r_pnil Try.underlying82 (look_t rfl)) ?_
 refine Qnx ?_
 refine Wp.condF (look_t rfl) rfl ?_
 refine Qkn ?_
 refine Wp.seq ?_
 refine Qsr ?_
 refine Qm ?_
 refine Ql0 2 ty81 ?_
 obtain ⟨y1,hy1,h⟩:=Qbs h
 refine Qcl en80 (C_ordered_List_matching hy1) ?_
 refine Qnx ?_
 refine Wp.block ?_
 refine Wp.bring 4 rfl ?_
 refine Wp.bring 4 rfl ?_
 obtain ⟨e1,hl,h⟩:=Qbs h
 refine range_wp (γ := Unit) (g0 := ()) (Lin := [⟨some pp0, .varX (({ x0 with f_l := [] } : T_ordered_List) : T_ordered_List) [(10, slv key00_0 x0.f_l.length cap00_0)]⟩, ⟨key00_0, .row 92 (x0.f_l : List T_api_Installed) cap00_0⟩]) (Ls := fun s1 g1 => [⟨some p3, .var ((default : Bool) : Bool)⟩, ⟨some p2, .var ((default : T_api_Installed) : T_api_Installed)⟩, ⟨some p1, .var (x1 : Vector T_api_Value 4)⟩]) (Lx := fun q1 g1 => [⟨some p3, .var (q1.1 : Bool)⟩, ⟨some p2, .var (q1.2 : T_api_Installed)⟩, ⟨some p1, .var (x1 : Vector T_api_Value 4)⟩]) (fun q1 => .ret) rfl en114 rfl Ch1_1_ordered_List_matching_fn1 hl rfl rfl (fun vx1 s1 r h g1 W0' X' A0' l D rec hrs => ?_) (fun s1 hr g1 D => ?_) (fun q1 hr g1 D => ?_)
 ·clear hl
  refine Wp.reg ?_
  refine Qal zr92 fun p4 => ?_
  refine Qs0 0 ty92 ?_
  refine Sq.nil ?_
  refine To.begin 1 rfl hrs ?_
  refine Wp.block ?_
  refine Qsr ?_
  refine Ql0 0 ty92 ?_
  obtain ⟨y2,hy2,h⟩:=Qbs h
  refine Qcl en81 (C_own_Installed hy2) ?_
  refine Qs0 4 ty92 ?_
  refine Qs0 3 ty4 ?_
  refine Qnx ?_
  refine Wp.ret ?_
  refine To.bret ?_
  obtain rfl:=some_in h
  exact To.rleave () 1 rfl rfl rfl
 ·clear hl; subst hr; simp only [Sum.elim_inl] at h
  refine To.eqL (L2 := [⟨some D, .dfr⟩, ⟨some pp0, .varX (({ x0 with f_l := [] } : T_ordered_List) : T_ordered_List) [(10, slv key00_0 x0.f_l.length cap00_0)]⟩, ⟨key00_0, .row 92 (x0.f_l : List T_api_Installed) cap00_0⟩, ⟨some p3, .var ((default : Bool) : Bool)⟩, ⟨some p2, .var ((default : T_api_Installed) : T_api_Installed)⟩, ⟨some p1, .var (x1 : Vector T_api_Value 4)⟩]) rfl ?_
  refine To.bnorm ?_
  refine To.next ?_
  refine Qsr ?_
  refine Qbd bu92 zr92 (default : T_api_Installed) .nil ?_
  refine Qs0 4 ty92 ?_
  refine Qs0 3 ty4 ?_
  refine Qnx ?_
  refine Wp.ret ?_
  refine To.bring 2 rfl ?_
  refine To.bring 2 rfl ?_
  obtain rfl:=some_in h
  refine To.endD 2 rfl rfl ?_
  exact To.endO2 () (.cons_cons _ (.cons_cons _ (List.nil_sublist _))) rfl rfl (rvo_c (i := 4) ty92 rfl rfl) (rvo_c (i := 3) ty4 rfl rfl)
 ·clear hl; subst hr; simp only [Sum.elim_inr] at h
  refine Wp.ret ?_
  refine To.eqL (L2 := [⟨some D, .dfr⟩, ⟨some pp0, .varX (({ x0 with f_l := [] } : T_ordered_List) : T_ordered_List) [(10, slv key00_0 x0.f_l.length cap00_0)]⟩, ⟨key00_0, .row 92 (x0.f_l : List T_api_Installed) cap00_0⟩, ⟨some p3, .var (q1.1 : Bool)⟩, ⟨some p2, .var (q1.2 : T_api_Installed)⟩, ⟨some p1, .var (x1 : Vector T_api_Value 4)⟩]) rfl ?_
  refine To.bret ?_
  refine To.ret ?_
  refine To.bring 2 rfl ?_
  refine To.bring 2 rfl ?_
  obtain rfl:=some_in h
  refine To.endD 2 rfl rfl ?_
  exact To.endO2 () (.cons_cons _ (.cons_cons _ (List.nil_sublist _))) rfl rfl (rvo_c (i := 4) ty92 rfl rfl) (rvo_c (i := 3) ty4 rfl rfl)
theorem C_ref13_Same {x0 : T_api_Installed} {x1 : T_api_Installed}  {r : Bool} (h : L_ref13_Same x0 x1 = some r) : Meets Try.prog 38 [VP.of (x0), VP.of (x1)] (VP.of (r)) := by
 unfold L_ref13_Same at h
 refine Meets.of Try.func38 rfl Try.ntmps38 rfl fun W A => ?_
 refine Qsr ?_
 refine Qbx fun p1 => ?_
 refine Qbx fun p2 => ?_
 refine Qa ?_
 refine Qnr ?_
 refine Q1 (r_fa fd92_0) ?_
 refine Qld 1 le_T_api_Installed_Entry ty89 ?_
 refine Q1 (r_fa fd92_0) ?_
 refine Qld 0 le_T_api_Installed_Entry ty89 ?_
 obtain ⟨y1,hy1,h⟩:=Qbs h
 refine Qcl en89 (C_ref10_Same hy1) ?_
 refine Qm ?_
 refine Qg1 (r_fa fd92_1) ?_
 refine Qg (fun hb => r_load (i := 1) ((Lens.id T_api_Installed).comp le_T_api_Installed_Number) (r := x0.f_Number) ty3 (look_tc rfl hb) rfl rfl rfl) ?_
 refine Qg1 (r_fa fd92_1) ?_
 refine Qg (fun hb => r_load (i := 0) ((Lens.id T_api_Installed).comp le_T_api_Installed_Number) (r := x1.f_Number) ty3 (look_tc rfl hb) rfl rfl rfl) ?_
 refine Qg2 r_eql ?_
 refine Qan ?_
 refine Qm ?_
 refine Qg1 (r_fa fd92_2) ?_
 refine Qg (fun hb => r_load (i := 1) ((Lens.id T_api_Installed).comp le_T_api_Installed_Owner) (r := x0.f_Owner) ty3 (look_tc rfl hb) rfl rfl rfl) ?_
 refine Qg1 (r_fa fd92_2) ?_
 refine Qg (fun hb => r_load (i := 0) ((Lens.id T_api_Installed).comp le_T_api_Installed_Owner) (r := x1.f_Owner) ty3 (look_tc rfl hb) rfl rfl rfl) ?_
 refine Qg2 r_eql ?_
 refine Qan ?_
 refine Qa ?_
 refine Qnx ?_
 refine Wp.ret ?_
 obtain rfl:=some_in h
 exact Qe1
end Go.Proofs.Ytodajdohokmjnaa

namespace Go.Proofs.Ytodajdohokmjnaa
open Go Gv
set_option linter.unusedVariables false
set_option linter.unusedSimpArgs false
set_option maxRecDepth 100000
set_option maxHeartbeats 2000000
theorem Ch0_1_law13_put {x0 : T_ordered_List} {x1 : T_mcase_Codes} {x2 : T_api_Schema} {x3 : Int} {x4 : Int} {pp0 : Nat} {key00_0 : Option Nat} {cap00_0 : Nat} {pp1 : Nat} {r : (List T_api_Installed) × Bool × T_ordered_List × T_mcase_Codes} (h : Lh0_1_law13_put x0 x1 x2 x3 x4 = some r) : MeetsO Try.prog 31 [VP.eq (.pointer (some ⟨pp0, 0, none⟩)), VP.eq (.pointer (some ⟨pp1, 0, none⟩)), VP.of (x2), VP.of (x3), VP.of (x4)] [⟨some pp0, .varX (({ x0 with f_l := [] } : T_ordered_List) : T_ordered_List) [(10, slv key00_0 x0.f_l.length cap00_0)]⟩, ⟨key00_0, .row 92 (x0.f_l : List T_api_Installed) cap00_0⟩, ⟨some pp1, .var (x1 : T_mcase_Codes)⟩] (δ := (Option Nat × Nat)) (fun d => VP.tup [VP.of (r.1), VP.of (r.2.1)]) (fun d => [⟨some pp0, .varX (({ r.2.2.1 with f_l := [] } : T_ordered_List) : T_ordered_List) [(10, slv d.1 (r.2.2.1.f_l).length d.2)]⟩, ⟨d.1, .row 92 (r.2.2.1.f_l : List T_api_Installed) d.2⟩, ⟨some pp1, .var (r.2.2.2 : T_mcase_Codes)⟩]) := by
 unfold Lh0_1_law13_put at h
 refine MeetsO.of Try.func31 rfl Try.ntmps31 rfl fun W A => ?_
 refine Qsr ?_
 refine Qbx fun p1 => ?_
 refine Qv (r_asg (look_nil (α := T_api_Installed))) ?_
 refine Qa ?_
 refine Qnr ?_
 refine Sq.own (α := T_api_Installed) 92 ?_
 refine Qv (r_asg look_own) ?_
 refine Qns ?_
 refine Qsr ?_
 refine Qa ?_
 refine Qnx ?_
 refine Wp.block ?_
 obtain ⟨e1,hl,h⟩:=Qbs h
 refine Qlp (γ:=(Option Nat × Nat) × (Option Nat × Nat)) (δ:=(Option Nat × Nat) × (Option Nat × Nat)) hl [0, 1, 2, 3, 4, 7, 10, 11] (fun s1 g1 => [(12, VP.eq (slv g1.1.1 s1.2.1.length g1.1.2)), (13, VP.of (s1.1))]) (fun s1 g1 => [(0, ⟨g1.1.1, .row 92 (s1.2.1 : List T_api_Installed) g1.1.2⟩), (2, ⟨some pp0, .varX (s1.2.2.1 : T_ordered_List) [(10, slv g1.2.1 s1.2.2.2.1.length g1.2.2)]⟩), (3, ⟨g1.2.1, .row 92 (s1.2.2.2.1 : List T_api_Installed) g1.2.2⟩), (4, ⟨some pp1, .var (s1.2.2.2.2 : T_mcase_Codes)⟩)]) (fun q1 => Sum.elim (fun q1 => Exit.exit 0) (fun q1 => Exit.ret) q1) (fun q1 g1 => Sum.elim (fun q1 => [(12, VP.eq (slv g1.1.1 q1.2.2.1.length g1.1.2)), (13, VP.of (q1.1)), (24, VP.of (q1.2.1))]) (fun q1 => [(12, VP.eq (slv g1.1.1 q1.2.2.2.2.2.2.2.1.length g1.1.2)), (13, VP.of (q1.1)), (15, VP.of (q1.2.1)), (24, VP.of (q1.2.2.1)), (36, VP.eq (slv g1.1.1 q1.2.2.2.2.2.2.2.1.length g1.1.2)), (37, VP.of (q1.2.2.2.1)), (38, VP.of (q1.2.2.2.2.1)), (39, VP.of (q1.2.2.2.2.2.1)), (55, VP.of (q1.2.2.2.2.2.2.1))]) q1) (fun q1 g1 => Sum.elim (fun q1 => [(0, ⟨g1.1.1, .row 92 (q1.2.2.1 : List T_api_Installed) g1.1.2⟩), (2, ⟨some pp0, .varX (q1.2.2.2.1 : T_ordered_List) [(10, slv g1.2.1 q1.2.2.2.2.1.length g1.2.2)]⟩), (3, ⟨g1.2.1, .row 92 (q1.2.2.2.2.1 : List T_api_Installed) g1.2.2⟩), (4, ⟨some pp1, .var (q1.2.2.2.2.2 : T_mcase_Codes)⟩)]) (fun q1 => [(0, ⟨g1.1.1, .row 92 (q1.2.2.2.2.2.2.2.1 : List T_api_Installed) g1.1.2⟩), (2, ⟨some pp0, .varX (q1.2.2.2.2.2.2.2.2.1 : T_ordered_List) [(10, slv g1.2.1 q1.2.2.2.2.2.2.2.2.2.1.length g1.2.2)]⟩), (3, ⟨g1.2.1, .row 92 (q1.2.2.2.2.2.2.2.2.2.1 : List T_api_Installed) g1.2.2⟩), (4, ⟨some pp1, .var (q1.2.2.2.2.2.2.2.2.2.2 : T_mcase_Codes)⟩)]) q1) ((none, 0), (key00_0, cap00_0)) (fun s1 r h g1 => ?_) fun g1 => ?_
 ·clear hl
  refine Wp.seq ?_
  refine Qsr ?_
  refine Qm ?_
  refine Qm ?_
  refine Q2 r_lss ?_
  refine Qm ?_
  refine Qg1 r_move ?_
  obtain ⟨y1,hy1,h⟩:=Qbs h
  refine Qg (fun hb => HR.lendV (z := (s1.2.2.2.2 : T_mcase_Codes)) 4 22 rfl (fun _ _ _ h => h.1 hb) rfl flat_bool (r_call en76 (Cf0_mcase_Codes_Left (condM_some hy1 hb)) ⟨look_t rfl, trivial⟩)) ?_
  refine Qan ?_
  refine Qnx ?_
  refine Qcd h (fun h=>?_) fun h=>?_
  ·refine Qkn ?_
   refine Wp.seq ?_
   refine Wp.block ?_
   refine Qsr ?_
   refine Qm ?_
   refine Ql0 1 ty33 ?_
   refine Qm ?_
   refine Sq.bring 4 rfl ?_
   obtain ⟨y2,hy2,h⟩:=Qbs h
   refine QcO 1 en32 (C_mcase_Codes_Entry hy2) fun q2 => ?_
   refine Qm ?_
   refine Sq.bring 0 rfl ?_
   obtain ⟨y3,hy3,h⟩:=Qbs h
   refine QcO 1 en49 (C_mcase_Codes_Next hy3) fun q3 => ?_
   refine Qm ?_
   refine Sq.bring 0 rfl ?_
   obtain ⟨y4,hy4,h⟩:=Qbs h
   refine QcO 1 en49 (C_mcase_Codes_Next hy4) fun q4 => ?_
   obtain ⟨z1,hz1,h⟩:=Qbs h
   refine Qn hz1 (r_build (b := { f_Entry := y2.1, f_Number := y3.1, f_Owner := y4.1 : T_api_Installed }) rfl bu92 zr92 (.cons le_T_api_Installed_Entry rfl (look_t rfl) rfl (.cons le_T_api_Installed_Number rfl (look_t rfl) rfl (.cons le_T_api_Installed_Owner rfl (look_t rfl) rfl (.nil))))) ?_
   refine Qal zr92 fun p2 => ?_
   refine Qs0 0 ty92 ?_
   refine Qnr ?_
   refine Qa ?_
   refine Qns ?_
   refine Qsr ?_
   refine Qm ?_
   refine Qv (r_lenO (i := 2) Try.underlying84 (look_t rfl) rfl rfl) ?_
   refine Qm ?_
   refine Qnx ?_
   refine Wp.block ?_
   obtain ⟨e2,hl,h⟩:=Qbs h
   refine Qlp (γ:=Unit) (δ:=Unit) hl [0, 1, 2, 3, 4, 7, 10, 11, 12, 13, 14, 24, 36, 37] (fun s2 g2 => [(15, VP.of (s2.1)), (38, VP.of (s2.2))]) (fun s2 g2 => []) (fun q5 => Exit.exit 2) (fun q5 g2 => [(15, VP.of (q5.1)), (38, VP.of (q5.2.1)), (39, VP.of (q5.2.2))]) (fun q5 g2 => []) () (fun s2 r h g2 => ?_) fun g2 => ?_
   ·clear hl
    refine Qsr ?_
    refine Q2 r_lss ?_
    refine Qns ?_
    refine Qcd h (fun h=>?_) fun h=>?_
    ·refine Qkn ?_
     refine Wp.seq ?_
     refine Wp.block ?_
     refine Qsr ?_
     obtain ⟨k1,hk1,h⟩:=Qbs h
     refine Qv (r_iaO (i := 2) (k := k1) (xs := (s1.2.1 : List T_api_Installed)) Try.underlying84 ty92 (look_t rfl) (look_t rfl) rfl (idx_some hk1)) ?_
     refine Qv (r_loadR (i := 2) (k := k1) (Lens.id T_api_Installed) (r := (lget s1.2.1 k1)) ty92 (look_t rfl) rfl (idx_some hk1).1 rfl rfl) ?_
     refine Qal zr92 fun p3 => ?_
     refine Qs0 0 ty92 ?_
     refine Qnx ?_
     refine Wp.reg ?_
     refine Qm ?_
     refine Qm ?_
     refine Qg1 (r_fa fd92_1) ?_
     refine Qg (fun hb => r_load (i := 0) ((Lens.id T_api_Installed).comp le_T_api_Installed_Number) (r := (lget s1.2.1 k1).f_Number) ty3 (look_tc rfl hb) rfl rfl rfl) ?_
     refine Qg1 (r_fa fd92_1) ?_
     refine Qg (fun hb => r_load (i := 1) ((Lens.id T_api_Installed).comp le_T_api_Installed_Number) (r := z1.f_Number) ty3 (look_tc rfl hb) rfl rfl rfl) ?_
     refine Qg2 r_eql ?_
     refine Qor ?_
     refine Qa ?_
     refine Sq.nil ?_
     refine To.bnorm ?_
     refine To.next ?_
     refine Wp.reg ?_
     refine Q2 r_add ?_
     refine Qm ?_
     refine Sq.nil ?_
     obtain rfl:=some_in h
     exact Qrd () 1
    ·refine Wp.exit ?_
     refine To.exit ?_
     obtain rfl:=some_in h
     exact Qlv () 0
   ·clear hl
    refine To.bexit ?_
    refine To.next ?_
    refine Wp.seq ?_
    refine Qsr ?_
    refine Qm ?_
    refine Ql0 0 ty92 ?_
    refine Sq.clr (γ := T_api_Installed) (b' := (({ s1.2.2.1 with f_l := [] } : T_ordered_List) : T_ordered_List)) ((Lens.id T_ordered_List).comp le_T_ordered_List_l) 4 0 rfl rfl rfl ?_
    refine Sq.bring 5 rfl ?_
    refine Sq.bring 5 rfl ?_
    obtain ⟨y5,hy5,h⟩:=Qbs h
    refine QcO 2 en36 (Ch0_1_ordered_List_Put hy5) fun q6 => ?_
    refine Qm ?_
    refine Q2 (r_beq Try.underlying4) ?_
    refine Qnx ?_
    refine Qcd h (fun h=>?_) fun h=>?_
    ·refine Qsr ?_
     refine Qv (r_asg (look_nil (α := T_api_Installed))) ?_
     refine Qa ?_
     refine Qnx ?_
     refine Wp.ret ?_
     refine To.ret ?_
     refine To.bret ?_
     refine To.ret ?_
     refine To.bring 5 rfl ?_
     refine To.bring 5 rfl ?_
     refine To.bring 4 rfl ?_
     obtain rfl:=some_in h
     exact Qlv ((g1.1.1, g1.1.2), (q6.1, q6.2)) 1
    ·refine Qkn ?_
     refine Qsr ?_
     refine Qm ?_
     refine Q1 r_not ?_
     refine Qnx ?_
     obtain ⟨m1,hm1,h⟩:=Qbs h
     refine Qcm (γ:=(Option Nat × Nat)) [0, 1, 2, 3, 4, 7, 10, 11, 13, 14, 15, 24, 37, 38, 39, 55, 57] (fun g3 => [(12, VP.eq (slv g3.1 m1.length g3.2))]) (fun g3 => [(4, ⟨g3.1, .row 92 (m1 : List T_api_Installed) g3.2⟩)]) (fun g3 => ?_) (fun hm hc => ?_) fun hm hc => ?_
     ·clear hm1
      refine To.bnorm ?_
      refine To.next ?_
      refine Wp.reg ?_
      refine Qm ?_
      refine Q2 r_add ?_
      refine Qa ?_
      refine Sq.nil ?_
      refine To.bring 5 rfl ?_
      refine To.bring 5 rfl ?_
      refine To.bring 4 rfl ?_
      obtain rfl:=some_in h
      exact Qrd ((g3.1, g3.2), (q6.1, q6.2)) 1
     ·have h := cond_t hc hm1
      refine Wp.reg ?_
      refine Qm ?_
      refine Ql0 2 ty92 ?_
      refine Qbl [z1] Try.underlying84 ty92 zr92 ?_
      obtain ⟨y6,hy6,h⟩:=Qbs h
      refine Qap 4 Try.underlying84 ty92 zr92 hy6 fun key1 cap1 => ?_
      refine Qa ?_
      refine Sq.nil ?_
      obtain rfl:=some_in h
      exact Qmt 0 (hm (key1, cap1))
     ·have h := cond_f hc hm1
      refine Wp.skip ?_
      obtain rfl:=some_in h
      exact Qmt 0 (hm (g1.1.1, g1.1.2))
  ·refine Wp.exit ?_
   refine To.exit ?_
   obtain rfl:=some_in h
   exact Qlv ((g1.1.1, g1.1.2), (g1.2.1, g1.2.2)) 0
 ·clear hl
  rcases e1 with e1 | e1
  ·simp only [Sum.elim_inl] at h
   refine To.bexit ?_
   refine To.next ?_
   refine Qsr ?_
   refine Qm ?_
   refine Qa ?_
   refine Qa ?_
   refine Qnx ?_
   refine Wp.ret ?_
   refine To.freezeL (α := T_api_Installed) 0 [10, 12, 62] ⟨rfl, rfl, rfl, trivial⟩ rfl ?_
   refine To.clr (γ := T_api_Installed) (b' := (({ e1.2.2.2.1 with f_l := [] } : T_ordered_List) : T_ordered_List)) ((Lens.id T_ordered_List).comp le_T_ordered_List_l) 2 0 rfl rfl rfl ?_
   refine To.bring 4 rfl ?_
   refine To.bring 4 rfl ?_
   refine To.bring 4 rfl ?_
   obtain rfl:=some_in h
   exact Qo2 (g1.2.1, g1.2.2)
  ·simp only [Sum.elim_inr] at h
   refine To.bret ?_
   refine To.ret ?_
   refine To.clr (γ := T_api_Installed) (b' := (({ e1.2.2.2.2.2.2.2.2.1 with f_l := [] } : T_ordered_List) : T_ordered_List)) ((Lens.id T_ordered_List).comp le_T_ordered_List_l) 2 0 rfl rfl rfl ?_
   refine To.bring 4 rfl ?_
   refine To.bring 4 rfl ?_
   refine To.bring 4 rfl ?_
   obtain rfl:=some_in h
   exact Qo2 (g1.2.1, g1.2.2)
theorem C_law13_begun   {r : Bool} (h : L_law13_begun  = some r) : Meets Try.prog 39 [] (VP.of (r)) := by
 unfold L_law13_begun at h
 refine Meets.of Try.func39 rfl Try.ntmps39 rfl fun W A => ?_
 refine Qsr ?_
 refine Qa ?_
 refine Qnr ?_
 obtain ⟨y1,hy1,h⟩:=Qbs h
 refine QcO 0 en12 (C_mcase_New hy1) fun q1 => ?_
 refine Sq.bring 0 rfl ?_
 obtain ⟨y2,hy2,h⟩:=Qbs h
 refine QcO 1 en13 (C_mcase_Codes_Schema hy2) fun q2 => ?_
 refine Qal zr33 fun p1 => ?_
 refine Qs0 0 ty33 ?_
 refine Qnr ?_
 refine Ql0 0 ty33 ?_
 obtain ⟨y3,hy3,h⟩:=Qbs h
 refine QcO 0 en30 (Cq0_1_ordered_New hy3) fun q3 => ?_
 refine Qa ?_
 refine Qnr ?_
 obtain ⟨y4,hy4,h⟩:=Qbs h
 refine Sq.mks Try.underlying87 ty104 zr104 rfl (by kernel_rfl) (look_int 2) (look_int 2) hy4 rfl fun key1 => ?_
 refine Sq.freeze (α := T_api_Match) 0 11 rfl rfl ?_
 obtain ⟨z1,hz1,h⟩:=Qbs h
 refine Qn hz1 (r_build (b := ({ (default : T_api_Entry) with f_Table := 3, f_Matches := y4, f_Priority := 3, f_Action := 1 } : T_api_Entry)) rfl bu89 zr89 (.cons le_T_api_Entry_Table rfl (look_int 3) rfl (.cons le_T_api_Entry_Matches rfl (look_t rfl) rfl (.cons le_T_api_Entry_Priority rfl (look_int 3) rfl (.cons le_T_api_Entry_Action rfl (look_int 1) rfl (.nil)))))) ?_
 refine Qal zr89 fun p2 => ?_
 refine Qs0 0 ty89 ?_
 refine Qnr ?_
 refine Ql0 0 ty89 ?_
 refine Qal zr89 fun p3 => ?_
 refine Qs0 0 ty89 ?_
 refine Qnr ?_
 refine Q1 (r_fa fd89_2) ?_
 refine Qst 0 le_T_api_Entry_Priority ty3 ?_
 refine Qnr ?_
 refine Qm ?_
 refine Ql0 1 ty89 ?_
 obtain ⟨z2,hz2,h⟩:=Qbs h
 refine Qn hz2 (r_build (b := ({ (default : T_api_Installed) with f_Entry := z1, f_Number := 9 } : T_api_Installed)) rfl bu92 zr92 (.cons le_T_api_Installed_Entry rfl (look_t rfl) rfl (.cons le_T_api_Installed_Number rfl (look_int 9) rfl (.nil)))) ?_
 refine Sq.bring 4 rfl ?_
 refine Sq.bring 4 rfl ?_
 obtain ⟨y5,hy5,h⟩:=Qbs h
 refine QcO 2 en36 (Ch0_1_ordered_List_Put hy5) fun q4 => ?_
 refine Qnr ?_
 refine Qm ?_
 refine Ql0 2 ty89 ?_
 obtain ⟨z3,hz3,h⟩:=Qbs h
 refine Qn hz3 (r_build (b := ({ (default : T_api_Installed) with f_Entry := ({ z1 with f_Priority := 5 } : T_api_Entry), f_Number := 8 } : T_api_Installed)) rfl bu92 zr92 (.cons le_T_api_Installed_Entry rfl (look_t rfl) rfl (.cons le_T_api_Installed_Number rfl (look_int 8) rfl (.nil)))) ?_
 refine Sq.bring 1 rfl ?_
 refine Sq.bring 1 rfl ?_
 obtain ⟨y6,hy6,h⟩:=Qbs h
 refine QcO 2 en36 (Ch0_1_ordered_List_Put hy6) fun q5 => ?_
 refine Qnr ?_
 refine Qm ?_
 refine Qv (r_buildA (b := (default : Vector T_api_Value 4)) (sz := 2) rfl Try.underlying81 (by kernel_rfl) zr81 (.nil)) ?_
 obtain ⟨y7,hy7,h⟩:=Qbs h
 refine Sq.vS (HS.call [0, 1] en35 (Ch0_1_ordered_List_Lookup hy7) ⟨look_t rfl, look_t rfl, trivial⟩ rfl ⟨rfl, rfl, trivial⟩ rfl) rfl rfl rfl ?_
 refine Qm ?_
 refine Qxt ?_
 refine Qxt ?_
 refine Qal zr92 fun p4 => ?_
 refine Qs0 0 ty92 ?_
 refine Qa ?_
 refine Qnr ?_
 refine Qm ?_
 refine Qm ?_
 refine Qg1 (r_fa fd92_1) ?_
 refine Qg (fun hb => r_load (i := 0) ((Lens.id T_api_Installed).comp le_T_api_Installed_Number) (r := y7.1.f_Number) ty3 (look_tc rfl hb) rfl rfl rfl) ?_
 refine Qg2 r_eql ?_
 refine Qan ?_
 refine Qm ?_
 refine Qg1 r_move ?_
 obtain ⟨y8,hy8,h⟩:=Qbs h
 refine Qg (fun hb => HR.lendT (β := T_ordered_List) (γ := T_api_Installed) (b' := (y6.2 : T_ordered_List)) ((Lens.id T_ordered_List).comp le_T_ordered_List_l) 1 2 0 rfl rfl rfl rfl rfl rfl flat_int (HR.lend0 1 rfl flat_int (HR.lendV (z := (y6.2 : T_ordered_List)) 1 36 rfl (fun _ _ _ h => h.1 hb) rfl flat_int (r_call en46 (Cf0_ordered_List_Len (condM_some hy8 hb)) ⟨look_t rfl, trivial⟩)))) ?_
 refine Qg2 r_eql ?_
 refine Qan ?_
 refine Qa ?_
 refine Qnx ?_
 refine Wp.ret ?_
 obtain rfl:=some_in h
 exact Qe1
theorem C_ref13_SameAll {x0 : List T_api_Installed} {x1 : List T_api_Installed}  {r : Bool} (h : L_ref13_SameAll x0 x1 = some r) : Meets Try.prog 43 [VP.of (x0), VP.of (x1)] (VP.of (r)) := by
 unfold L_ref13_SameAll at h
 refine Meets.of Try.func43 rfl Try.ntmps43 rfl fun W A => ?_
 refine Qsr ?_
 refine Qa ?_
 refine Qns ?_
 refine Qsr ?_
 refine Qm ?_
 refine Q1 (r_len Try.underlying84) ?_
 refine Qm ?_
 refine Q1 (r_len Try.underlying84) ?_
 refine Q2 r_neq ?_
 refine Qnx ?_
 refine Qcd h (fun h=>?_) fun h=>?_
 ·refine Qsr ?_
  refine Qa ?_
  refine Qnx ?_
  refine Wp.ret ?_
  refine To.ret ?_
  obtain rfl:=some_in h
  exact Qe1
 ·refine Qkn ?_
  refine Wp.seq ?_
  refine Qsr ?_
  refine Qm ?_
  refine Q1 (r_len Try.underlying84) ?_
  refine Qm ?_
  refine Qnx ?_
  refine Wp.block ?_
  obtain ⟨e1,hl,h⟩:=Qbs h
  refine Qlp (γ:=Unit) (δ:=Unit) hl [0, 1, 4, 10, 12] (fun s1 g1 => [(13, VP.of (s1))]) (fun s1 g1 => []) (fun q1 => Sum.elim (fun q1 => Exit.exit 0) (fun q1 => Exit.ret) q1) (fun q1 g1 => Sum.elim (fun q1 => [(13, VP.of (q1.1)), (14, VP.of (q1.2))]) (fun q1 => [(5, VP.of (q1.1)), (13, VP.of (q1.2.1)), (14, VP.of (q1.2.2.1)), (25, VP.of (q1.2.2.2))]) q1) (fun q1 g1 => Sum.elim (fun q1 => []) (fun q1 => []) q1) () (fun s1 r h g1 => ?_) fun g1 => ?_
  ·clear hl
   refine Qsr ?_
   refine Q2 r_lss ?_
   refine Qns ?_
   refine Qcd h (fun h=>?_) fun h=>?_
   ·refine Qkn ?_
    refine Wp.seq ?_
    refine Wp.block ?_
    refine Qsr ?_
    refine Qm ?_
    refine Qa ?_
    refine Qns ?_
    obtain ⟨k1,hk1,h⟩:=Qbs h
    obtain ⟨k2,hk2,h⟩:=Qbs h
    obtain ⟨y1,hy1,h⟩:=Qbs h
    refine Wp.draw mixed 10 [some 16, some 17, some 18, some 19, some 20, some 21, some 22, some 23, some 24, some 25] [[], [], [0, 1], [2], [], [], [4, 5], [6], [3, 7], [8]] [.val _, .val _, .val _, .val _, .val _, .val _, .val _, .val _, .val _, .val _] [false, false, false, false, false, false, false, false, false, false] (by kernel_rfl) rfl rfl rfl (fun ps1 => ⟨Hm, Hm, Hix hk1 Try.underlying84 ty92, H1 (r_loadp ty92), Hm, Hm, Hix hk2 Try.underlying84 ty92, H1 (r_loadp ty92), Hcl en38 (C_ref13_Same hy1), H1 r_not, trivial⟩) fun ps1 => ?_
    refine Qnx ?_
    refine Qcd h (fun h=>?_) fun h=>?_
    ·refine Qsr ?_
     refine Qa ?_
     refine Qnx ?_
     refine Wp.ret ?_
     refine To.bret ?_
     refine To.ret ?_
     obtain rfl:=some_in h
     exact Qlv () 0
    ·refine Wp.skip ?_
     refine To.bnorm ?_
     refine To.next ?_
     refine Wp.reg ?_
     refine Q2 r_add ?_
     refine Qm ?_
     refine Sq.nil ?_
     obtain rfl:=some_in h
     exact Qrd () 0
   ·refine Wp.exit ?_
    refine To.exit ?_
    obtain rfl:=some_in h
    exact Qlv () 0
  ·clear hl
   rcases e1 with e1 | e1
   ·simp only [Sum.elim_inl] at h
    refine To.bexit ?_
    refine To.next ?_
    refine Qsr ?_
    refine Qa ?_
    refine Qnx ?_
    refine Wp.ret ?_
    obtain rfl:=some_in h
    exact Qe1
   ·simp only [Sum.elim_inr] at h
    refine To.bret ?_
    refine To.ret ?_
    obtain rfl:=some_in h
    exact Qe1
end Go.Proofs.Ytodajdohokmjnaa

namespace Go.Proofs.Ytodajdohokmjnaa
open Go Gv
set_option linter.unusedVariables false
set_option linter.unusedSimpArgs false
set_option maxRecDepth 100000
set_option maxHeartbeats 2000000
theorem C_law13_OrderedLookup {x0 : List (BitVec 8)} {x1 : List (BitVec 8)} {x2 : Int} {x3 : List (Vector T_api_Value 4)}  {r : Bool} (h : L_law13_OrderedLookup x0 x1 x2 x3 = some r) : Meets Try.prog 9 [VP.of (x0), VP.of (x1), VP.of (x2), VP.of (x3)] (VP.of (r)) := by
 unfold L_law13_OrderedLookup at h
 refine Meets.of Try.func9 rfl Try.ntmps9 rfl fun W A => ?_
 refine Qsr ?_
 refine Qa ?_
 refine Qnr ?_
 refine Qm ?_
 obtain ⟨y1,hy1,h⟩:=Qbs h
 refine QcO 0 en12 (C_mcase_New hy1) fun q1 => ?_
 refine Sq.bring 0 rfl ?_
 obtain ⟨y2,hy2,h⟩:=Qbs h
 refine QcO 1 en13 (C_mcase_Codes_Schema hy2) fun q2 => ?_
 refine Qm ?_
 obtain ⟨y3,hy3,h⟩:=Qbs h
 refine QcO 0 en12 (C_mcase_New hy3) fun q3 => ?_
 refine Qal zr33 fun p1 => ?_
 refine Qs0 0 ty33 ?_
 refine Qa ?_
 refine Qnr ?_
 refine Ql0 0 ty33 ?_
 obtain ⟨y4,hy4,h⟩:=Qbs h
 refine QcO 0 en30 (Cq0_1_ordered_New hy4) fun q4 => ?_
 refine Qa ?_
 refine Qnr ?_
 refine Qm ?_
 refine Qm ?_
 refine Ql0 2 ty33 ?_
 refine Qm ?_
 refine Sq.bring 3 rfl ?_
 refine Sq.bring 2 rfl ?_
 refine Sq.bring 2 rfl ?_
 obtain ⟨y5,hy5,h⟩:=Qbs h
 refine QcO 3 en31 (Ch0_1_law13_put hy5) fun q5 => ?_
 refine Qm ?_
 refine Qxt ?_
 refine Qxt ?_
 refine Qa ?_
 refine Qa ?_
 refine Qns ?_
 refine Wp.seq ?_
 obtain ⟨y6,hy6,h⟩:=Qbs h
 obtain ⟨y7,hy7,h⟩:=Qbs h
 obtain ⟨y8,hy8,h⟩:=Qbs h
 obtain ⟨y9,hy9,h⟩:=Qbs h
 refine Qwl [0, 1, 2, 3, 8, 9, 10, 11, 12, 13, 22, 23, 24, 25, 26, 27, 28, 29, 30, 31, 32, 33, 34, 35, 36] ?_
 refine Wp.drawD mixed (Hp 37 [] [] _ :: Hp 38 (0 :: []) [] _ :: Hp 39 (1 :: []) [] _ :: ⟨some 40, (2 :: []), [], [], fun _ => VP.cond ((!y5.2.1) = false) (VP.eq (.pointer (some ⟨q4.1, 0, none⟩))), fun _ _ => ⟨none, .dead⟩⟩ :: ⟨some 41, (2 :: 3 :: []), (0 :: 1 :: []), [], fun _ => VP.cond ((!y5.2.1) = false) (VP.of (y6)), fun _ _ => ⟨none, .dead⟩⟩ :: ⟨some 42, (2 :: []), (3 :: []), [], fun _ => VP.cond ((!y5.2.1) = false) (VP.of (y2.1)), fun _ _ => ⟨none, .dead⟩⟩ :: ⟨some 43, (2 :: []), [], [], fun _ => VP.cond ((!y5.2.1) = false) (VP.of (y5.1)), fun _ _ => ⟨none, .dead⟩⟩ :: ⟨some 44, (2 :: 5 :: 6 :: []), [], [], fun _ => VP.cond ((!y5.2.1) = false) (VP.of (y7)), fun _ _ => ⟨none, .dead⟩⟩ :: ⟨some 45, (2 :: 4 :: 7 :: []), [], [], fun _ => VP.cond ((!y5.2.1) = false) (VP.of (y8)), fun _ _ => ⟨none, .dead⟩⟩ :: ⟨some 46, (2 :: 8 :: []), [], [], fun _ => VP.cond ((!y5.2.1) = false) (VP.of (!y8)), fun _ _ => ⟨none, .dead⟩⟩ :: Hp 47 (2 :: 9 :: []) [] _ :: Hp 48 (10 :: []) [] _ :: ⟨some 49, (11 :: []), [], [], fun _ => VP.cond (((!y5.2.1) || (!y8)) = false) (VP.eq (.pointer (some ⟨q4.1, 0, none⟩))), fun _ _ => ⟨none, .dead⟩⟩ :: ⟨some 50, (11 :: 12 :: []), (0 :: 1 :: []), [], fun _ => VP.cond (((!y5.2.1) || (!y8)) = false) (VP.of (y9)), fun _ _ => ⟨none, .dead⟩⟩ :: ⟨some 51, (11 :: []), [], [], fun _ => VP.cond (((!y5.2.1) || (!y8)) = false) (VP.of (y5.1)), fun _ _ => ⟨none, .dead⟩⟩ :: ⟨some 52, (11 :: 14 :: []), [], [], fun _ => VP.cond (((!y5.2.1) || (!y8)) = false) (VP.of (y5.1.length : Int)), fun _ _ => ⟨none, .dead⟩⟩ :: ⟨some 53, (11 :: 13 :: 15 :: []), [], [], fun _ => VP.cond (((!y5.2.1) || (!y8)) = false) (VP.of (y9 != (y5.1.length : Int))), fun _ _ => ⟨none, .dead⟩⟩ :: Hp 54 (11 :: 16 :: []) [] _ :: []) _ (0 :: 1 :: 2 :: 3 :: 8 :: 9 :: 10 :: 11 :: 12 :: 13 :: 22 :: 23 :: 24 :: 25 :: 26 :: 27 :: 28 :: 29 :: 30 :: 31 :: 32 :: 33 :: 34 :: 35 :: 36 :: []) rfl rfl (by kernel_rfl) ⟨Dm, D1 r_not, Dm, ?_, ?_, ?_, ?_, ?_, ?_, ?_, Dv fun hd E' L' hE hL => r_or (look_t (hE _ _ rfl)) (look_t (hE _ _ rfl)) (fun h => h), Dm, ?_, ?_, ?_, ?_, ?_, Dv fun hd E' L' hE hL => r_or (look_t (hE _ _ rfl)) (look_t (hE _ _ rfl)) (fun h => h), trivial⟩ fun hd => ?_
 ·exact hd_g rfl rfl rfl rfl (fun hd => rfl) fun hd E' L' hE hL hb => r_move (look_t (hE _ _ rfl))
 ·intro hd E' L' hE hL
  refine Sq.gS (fun hb => HS.call [0, 1] en44 (Ch0_1_ordered_List_All (condM_some hy6 hb)) ⟨look_tc (hE _ _ rfl) hb, trivial⟩ rfl ⟨(hL 0 _ rfl rfl), (hL 1 _ rfl rfl), trivial⟩ rfl) rfl rfl (hE _ _ rfl) rfl rfl ?_
  refine Sq.nil ?_
  exact To.fin (gm []) rfl rfl
 ·exact hd_g rfl rfl rfl rfl (fun hd => rfl) fun hd E' L' hE hL hb => r_load (i := 3) (Lens.id T_api_Schema) (r := y2.1) ty33 (look_t (hE _ _ rfl)) (hL 3 _ rfl rfl) rfl rfl
 ·exact hd_g rfl rfl rfl rfl (fun hd => rfl) fun hd E' L' hE hL hb => r_move (look_t (hE _ _ rfl))
 ·exact hd_g rfl rfl rfl rfl (fun hd => rfl) fun hd E' L' hE hL hb => r_call en45 (C_ref13_Ranked (condM_some hy7 hb)) ⟨look_tc (hE _ _ rfl) hb, look_tc (hE _ _ rfl) hb, trivial⟩
 ·exact hd_g rfl rfl rfl rfl (fun hd => rfl) fun hd E' L' hE hL hb => r_call en43 (C_ref13_SameAll (condM_some hy8 hb)) ⟨look_tc (hE _ _ rfl) hb, look_tc (hE _ _ rfl) hb, trivial⟩
 ·exact hd_g rfl rfl rfl rfl (fun hd => rfl) fun hd E' L' hE hL hb => r_not (look_tc (hE _ _ rfl) hb)
 ·exact hd_g rfl rfl rfl rfl (fun hd => rfl) fun hd E' L' hE hL hb => r_move (look_t (hE _ _ rfl))
 ·exact hd_g rfl rfl rfl rfl (fun hd => rfl) fun hd E' L' hE hL hb => HR.lendT (β := T_ordered_List) (γ := T_api_Installed) (b' := (y5.2.2.1 : T_ordered_List)) ((Lens.id T_ordered_List).comp le_T_ordered_List_l) 0 1 0 rfl (hL 0 _ rfl rfl) (hL 1 _ rfl rfl) rfl rfl rfl flat_int (HR.lend0 0 (gss (gso rfl (hL 0 _ rfl rfl))) flat_int (HR.lendV (z := (y5.2.2.1 : T_ordered_List)) 0 49 (hE _ _ rfl) (fun _ _ _ h => h.1 hb) (gss (gss (gso rfl (hL 0 _ rfl rfl)))) flat_int (r_call en46 (Cf0_ordered_List_Len (condM_some hy9 hb)) ⟨look_t rfl, trivial⟩)))
 ·exact hd_g rfl rfl rfl rfl (fun hd => rfl) fun hd E' L' hE hL hb => r_move (look_t (hE _ _ rfl))
 ·exact hd_g rfl rfl rfl rfl (fun hd => rfl) fun hd E' L' hE hL hb => r_len Try.underlying84 (look_tc (hE _ _ rfl) hb)
 ·exact hd_g rfl rfl rfl rfl (fun hd => rfl) fun hd E' L' hE hL hb => r_neq (look_tc (hE _ _ rfl) hb) (look_tc (hE _ _ rfl) hb)
 refine To.eqL (L2 := [⟨some q4.1, .varX (({ y5.2.2.1 with f_l := [] } : T_ordered_List) : T_ordered_List) [(10, slv q5.1 y5.2.2.1.f_l.length q5.2)]⟩, ⟨q5.1, .row 92 (y5.2.2.1.f_l : List T_api_Installed) q5.2⟩, ⟨some q3, .var (y5.2.2.2 : T_mcase_Codes)⟩, ⟨some p1, .var (y2.1 : T_api_Schema)⟩, ⟨some q1, .var (y2.2 : T_mcase_Codes)⟩]) rfl ?_
 refine Qtl [0, 1, 2, 3, 8, 9, 10, 11, 12, 13, 22, 23, 24, 25, 26, 27, 28, 29, 30, 31, 32, 33, 34, 35, 36, 37, 38, 39, 40, 41, 42, 43, 44, 45, 46, 47, 48, 49, 50, 51, 52, 53, 54] ?_
 refine To.next ?_
 refine Qcd h (fun h=>?_) fun h=>?_
 ·refine Qsr ?_
  refine Qa ?_
  refine Qnx ?_
  refine Wp.ret ?_
  refine To.ret ?_
  obtain rfl:=some_in h
  exact Qe1
 ·refine Qkn ?_
  refine Qsr ?_
  refine Sq.bslO (α := Vector T_api_Value 4) (r := ([] : List (Vector T_api_Value 4))) Try.underlying95 ty81 zr81 rfl rfl (.nil) rfl fun key1 => ?_
  refine Qm ?_
  refine Qm ?_
  refine Q1 (r_len Try.underlying95) ?_
  refine Q2 r_min ?_
  obtain ⟨y10,hy10,h⟩:=Qbs h
  refine Qv (r_slice Try.underlying95 ty81 (look_t rfl) .none (.some (look_t rfl)) hy10) ?_
  obtain ⟨y11,hy11,h⟩:=Qbs h
  refine Qap 0 Try.underlying95 ty81 zr81 hy11 fun key2 cap1 => ?_
  refine Qm ?_
  refine Sq.bring 3 rfl ?_
  obtain ⟨y12,hy12,h⟩:=Qbs h
  refine QcO 1 en33 (C_mcase_Codes_Point hy12) fun q6 => ?_
  refine Qm ?_
  refine Sq.bring 0 rfl ?_
  obtain ⟨y13,hy13,h⟩:=Qbs h
  refine QcO 1 en33 (C_mcase_Codes_Point hy13) fun q7 => ?_
  refine Qbl [y12.1, y13.1] Try.underlying95 ty81 zr81 ?_
  obtain ⟨y14,hy14,h⟩:=Qbs h
  refine Qap 1 Try.underlying95 ty81 zr81 hy14 fun key3 cap2 => ?_
  refine Qa ?_
  refine Qns ?_
  refine Qsr ?_
  refine Qm ?_
  refine Q1 (r_len Try.underlying84) ?_
  refine Qm ?_
  refine Qnx ?_
  refine Wp.block ?_
  obtain ⟨e1,hl,h⟩:=Qbs h
  refine Qlp (γ:=(Option Nat × Nat)) (δ:=(Option Nat × Nat)) hl [0, 1, 2, 8, 9, 10, 11, 12, 13, 54, 68, 69] (fun s1 g1 => [(3, VP.eq (slv g1.1 s1.2.2.length g1.2)), (70, VP.of (s1.1))]) (fun s1 g1 => [(0, ⟨some q3, .var (s1.2.1 : T_mcase_Codes)⟩), (1, ⟨g1.1, .row 81 (s1.2.2 : List (Vector T_api_Value 4)) g1.2⟩)]) (fun q8 => Exit.exit 0) (fun q8 g1 => [(3, VP.eq (slv g1.1 q8.2.2.2.length g1.2)), (70, VP.of (q8.1)), (71, VP.of (q8.2.1))]) (fun q8 g1 => [(0, ⟨some q3, .var (q8.2.2.1 : T_mcase_Codes)⟩), (1, ⟨g1.1, .row 81 (q8.2.2.2 : List (Vector T_api_Value 4)) g1.2⟩)]) (key3, cap2) (fun s1 r h g1 => ?_) fun g1 => ?_
  ·clear hl
   refine Qsr ?_
   refine Q2 r_lss ?_
   refine Qns ?_
   refine Qcd h (fun h=>?_) fun h=>?_
   ·refine Qkn ?_
    refine Wp.seq ?_
    refine Wp.block ?_
    refine Qsr ?_
    obtain ⟨k1,hk1,h⟩:=Qbs h
    refine Qix hk1 Try.underlying84 ty92 ?_
    refine Q1 (r_loadp ty92) ?_
    refine Qal zr92 fun p2 => ?_
    refine Qs0 0 ty92 ?_
    refine Qnx ?_
    obtain ⟨y15,hy15,h⟩:=Qbs h
    obtain ⟨y16,hy16,h⟩:=Qbs h
    obtain ⟨y17,hy17,h⟩:=Qbs h
    refine Qwl [0, 1, 2, 3, 8, 9, 10, 11, 12, 13, 15, 54, 68, 69, 70, 71, 72, 73] ?_
    refine Wp.drawD mixed (Hp 74 [] [] _ :: Hp 75 [] [] _ :: Hp 76 (1 :: []) (0 :: []) _ :: Hp 77 [] [] _ :: ⟨some 78, (3 :: []), (1 :: []), (1 :: []), fun _ => VP.of (y15.1), fun hd _ => ⟨some q3, .var (y15.2 : T_mcase_Codes)⟩⟩ :: Hp 79 (2 :: 4 :: []) [] _ :: Hp 80 (5 :: []) [] _ :: ⟨some 81, (0 :: 6 :: []), (2 :: []), (2 :: []), fun hd => VP.eq (slv (hd 7 0) y17.length ((hd 7 1).getD 0)), fun hd _ => ⟨(hd 7 0), .row 81 (y17 : List (Vector T_api_Value 4)) ((hd 7 1).getD 0)⟩⟩ :: ⟨some 3, (0 :: 1 :: 2 :: 3 :: 4 :: 5 :: 6 :: 7 :: []), [], [], fun hd => VP.eq (slv (hd 7 0) y17.length ((hd 7 1).getD 0)), fun _ _ => ⟨none, .dead⟩⟩ :: []) _ (0 :: 1 :: 2 :: 3 :: 8 :: 9 :: 10 :: 11 :: 12 :: 13 :: 15 :: 54 :: 68 :: 69 :: 70 :: 71 :: 72 :: 73 :: []) rfl rfl (by kernel_rfl) ⟨Dm, D1 (r_fa fd92_0), Dld 0 le_T_api_Installed_Entry ty89, Dm, ?_, Dv fun hd E' L' hE hL => r_call en34 (C_mcase_Inside hy16) ⟨look_t (hE _ _ rfl), look_t (hE _ _ rfl), trivial⟩, Dv fun hd E' L' hE hL => r_bsl (r := [y16]) Try.underlying95 ty81 zr81 rfl rfl (.cons (by simp) (look_t (hE _ _ rfl)) (.nil)), ?_, ?_, trivial⟩ fun hd => ?_
    ·intro hd E' L' hE hL
     refine Sq.bring 1 (hL 1 _ rfl rfl) ?_
     refine Sq.callO (Lin := [⟨some q3, .var (s1.2.1 : T_mcase_Codes)⟩]) (Lr := L'.eraseIdx 1) en33 (C_mcase_Codes_Point hy15) ⟨look_t (hE _ _ rfl), trivial⟩ rfl fun q9 => ?_
     refine Sq.nil ?_
     refine To.back 1 (hL 1 _ rfl rfl) ?_
     exact To.fin (gm []) rfl rfl
    ·intro hd E' L' hE hL
     refine Sq.app (i := 2) Try.underlying95 ty81 zr81 (bytes := 64) (by kernel_rfl) (look_t (hE _ _ rfl)) (hL 2 _ rfl rfl) (look_t (hE _ _ rfl)) hy17 rfl fun key4 cap3 => ?_
     refine Sq.nil ?_
     exact To.fin (gm [key4, some cap3]) rfl rfl
    ·intro hd E' L' hE hL
     refine Qv (r_asg (look_t (hE _ _ rfl))) ?_
     refine Sq.nil ?_
     exact To.fin (gm []) rfl rfl
    refine To.eqL (L2 := [⟨some p2, .var (lget y5.1 k1 : T_api_Installed)⟩, ⟨some q3, .var (y15.2 : T_mcase_Codes)⟩, ⟨(hd 7 0), .row 81 (y17 : List (Vector T_api_Value 4)) ((hd 7 1).getD 0)⟩, ⟨some q4.1, .varX (({ y5.2.2.1 with f_l := [] } : T_ordered_List) : T_ordered_List) [(10, slv q5.1 y5.2.2.1.f_l.length q5.2)]⟩, ⟨q5.1, .row 92 (y5.2.2.1.f_l : List T_api_Installed) q5.2⟩, ⟨some p1, .var (y2.1 : T_api_Schema)⟩, ⟨some q1, .var (y2.2 : T_mcase_Codes)⟩]) rfl ?_
    refine Qtl [0, 1, 2, 3, 8, 9, 10, 11, 12, 13, 15, 54, 68, 69, 70, 71, 72, 73, 75, 76, 77, 78, 79, 80, 81] ?_
    refine To.bnorm ?_
    refine To.next ?_
    refine Wp.reg ?_
    refine Q2 r_add ?_
    refine Qm ?_
    refine Sq.nil ?_
    obtain rfl:=some_in h
    exact Qrd ((hd 7 0), ((hd 7 1).getD 0)) 1
   ·refine Wp.exit ?_
    refine To.exit ?_
    obtain rfl:=some_in h
    exact Qlv (g1.1, g1.2) 0
  ·clear hl
   refine To.bexit ?_
   refine To.next ?_
   refine Wp.seq ?_
   refine Qsr ?_
   refine Qm ?_
   refine Qv (r_lenO (i := 1) Try.underlying95 (look_t rfl) rfl rfl) ?_
   refine Qm ?_
   refine Qnx ?_
   refine Wp.block ?_
   obtain ⟨e2,hl,h⟩:=Qbs h
   refine Qlp (γ:=Unit) (δ:=Unit) hl [0, 1, 2, 3, 8, 9, 10, 11, 12, 13, 54, 68, 69, 70, 71, 83, 84] (fun s2 g2 => [(85, VP.of (s2))]) (fun s2 g2 => []) (fun q10 => Sum.elim (fun q10 => Exit.exit 2) (fun q10 => Exit.ret) q10) (fun q10 g2 => Sum.elim (fun q10 => [(85, VP.of (q10.1)), (86, VP.of (q10.2))]) (fun q10 => [(19, VP.of (q10.1)), (21, VP.of (q10.2.1)), (85, VP.of (q10.2.2.1)), (86, VP.of (q10.2.2.2.1)), (110, VP.of (q10.2.2.2.2))]) q10) (fun q10 g2 => Sum.elim (fun q10 => []) (fun q10 => []) q10) () (fun s2 r h g2 => ?_) fun g2 => ?_
   ·clear hl
    refine Qsr ?_
    refine Q2 r_lss ?_
    refine Qns ?_
    refine Qcd h (fun h=>?_) fun h=>?_
    ·refine Qkn ?_
     refine Wp.seq ?_
     refine Wp.block ?_
     refine Qsr ?_
     obtain ⟨k2,hk2,h⟩:=Qbs h
     refine Qv (r_iaO (i := 1) (k := k2) (xs := (e1.2.2.2 : List (Vector T_api_Value 4))) Try.underlying95 ty81 (look_t rfl) (look_t rfl) rfl (idx_some hk2)) ?_
     refine Qv (r_loadR (i := 1) (k := k2) (Lens.id (Vector T_api_Value 4)) (r := (lget e1.2.2.2 k2)) ty81 (look_t rfl) rfl (idx_some hk2).1 rfl rfl) ?_
     refine Qal zr81 fun p3 => ?_
     refine Qs0 0 ty81 ?_
     refine Qnr ?_
     refine Qm ?_
     refine Ql0 0 ty81 ?_
     obtain ⟨y18,hy18,h⟩:=Qbs h
     refine Sq.vS (HS.call [3, 4] en35 (Ch0_1_ordered_List_Lookup hy18) ⟨look_t rfl, look_t rfl, trivial⟩ rfl ⟨rfl, rfl, trivial⟩ rfl) rfl rfl rfl ?_
     refine Qm ?_
     refine Qxt ?_
     refine Qxt ?_
     refine Qal zr92 fun p4 => ?_
     refine Qs0 0 ty92 ?_
     refine Qa ?_
     refine Qnr ?_
     refine Ql0 6 ty33 ?_
     refine Qm ?_
     refine Ql0 1 ty81 ?_
     obtain ⟨y19,hy19,h⟩:=Qbs h
     refine Qcl en47 (C_ref13_Best hy19) ?_
     refine Qm ?_
     refine Qxt ?_
     refine Qxt ?_
     refine Qal zr92 fun p5 => ?_
     refine Qs0 0 ty92 ?_
     refine Qa ?_
     refine Qnr ?_
     refine Qm ?_
     refine Qm ?_
     refine Q2 (r_bne Try.underlying4) ?_
     refine Qm ?_
     refine Qg (fun hb => r_load (i := 1) (Lens.id T_api_Installed) (r := y18.1) ty92 (look_t rfl) rfl rfl rfl) ?_
     refine Qg (fun hb => r_load (i := 0) (Lens.id T_api_Installed) (r := y19.1) ty92 (look_t rfl) rfl rfl rfl) ?_
     obtain ⟨y20,hy20,h⟩:=Qbs h
     refine Qg (fun hb => r_call en38 (C_ref13_Same (condM_some hy20 hb)) ⟨look_tc rfl hb, look_tc rfl hb, trivial⟩) ?_
     refine Qg1 r_not ?_
     refine Qor ?_
     refine Qnx ?_
     refine Qcd h (fun h=>?_) fun h=>?_
     ·refine Qsr ?_
      refine Qa ?_
      refine Qnx ?_
      refine Wp.ret ?_
      refine To.bret ?_
      refine To.ret ?_
      obtain rfl:=some_in h
      exact Qlv () 3
     ·refine Wp.skip ?_
      refine To.bnorm ?_
      refine To.next ?_
      refine Wp.reg ?_
      refine Q2 r_add ?_
      refine Qm ?_
      refine Sq.nil ?_
      obtain rfl:=some_in h
      exact Qrd () 3
    ·refine Wp.exit ?_
     refine To.exit ?_
     obtain rfl:=some_in h
     exact Qlv () 0
   ·clear hl
    rcases e2 with e2 | e2
    ·simp only [Sum.elim_inl] at h
     refine To.bexit ?_
     refine To.next ?_
     refine Qsr ?_
     obtain ⟨y21,hy21,h⟩:=Qbs h
     refine Qcl en39 (C_law13_begun hy21) ?_
     refine Qa ?_
     refine Qnx ?_
     refine Wp.ret ?_
     obtain rfl:=some_in h
     exact Qe1
    ·simp only [Sum.elim_inr] at h
     refine To.bret ?_
     refine To.ret ?_
     obtain rfl:=some_in h
     exact Qe1
end Go.Proofs.Ytodajdohokmjnaa

