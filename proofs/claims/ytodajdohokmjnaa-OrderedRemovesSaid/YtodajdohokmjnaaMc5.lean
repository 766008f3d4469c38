/-
  Each function meets its functional program. Conditions: none.
-/
import Derived.Test.YtodajdohokmjnaaMc0
import Derived.Test.YtodajdohokmjnaaMc2
import Derived.Test.YtodajdohokmjnaaMc3
import Derived.Test.YtodajdohokmjnaaMc4
namespace Go.Proofs.Ytodajdohokmjnaa
open Go Gv
set_option linter.unusedVariables false
set_option linter.unusedSimpArgs false
set_option maxRecDepth 100000
set_option maxHeartbeats 2000000
theorem C_law13_OrderedRemoves {x0 : List (BitVec 8)} {x1 : List (BitVec 8)} {x2 : List (BitVec 8)} {x3 : Int}  {r : Bool} (h : L_law13_OrderedRemoves x0 x1 x2 x3 = some r) : Meets Try.prog 10 [VP.of (x0), VP.of (x1), VP.of (x2), VP.of (x3)] (VP.of (r)) := by
 unfold L_law13_OrderedRemoves at h
 refine Meets.of Try.func10 rfl Try.ntmps10 rfl fun W A => ?_
 refine Qsr ?_
 refine Qa ?_
 refine Qnr ?_
 refine Qm ?_
 obtain ⟨y1,hy1,h⟩:=Qbs h
 refine QcO 0 en12 (C_mcase_New hy1) fun q1 => ?_
 refine Sq.bring 0 rfl ?_
 obtain ⟨y2,hy2,h⟩:=Qbs h
 refine QcO 1 en13 (C_mcase_Codes_Schema hy2) fun q2 => ?_
 refine Qm ?_
 obtain ⟨y3,hy3,h⟩:=Qbs h
 refine QcO 0 en12 (C_mcase_New hy3) fun q3 => ?_
 refine Qal zr33 fun p1 => ?_
 refine Qs0 0 ty33 ?_
 refine Qa ?_
 refine Qns ?_
 obtain ⟨y4,hy4,h⟩:=Qbs h
 obtain ⟨y5,hy5,h⟩:=Qbs h
 refine Wp.drawE mixed 6 (Array.mk (false :: false :: false :: false :: false :: false :: [])) rfl rfl ?_
 refine AnyS.cut (γ := (Nat × (Option Nat × Nat)) × (Nat × (Option Nat × Nat))) 0 (Array.mk (true :: true :: true :: true :: true :: true :: [])) (fun gS0_8 => [(0, VP.of (x0)), (1, VP.of (x1)), (2, VP.of (x2)), (3, VP.of (x3)), (8, VP.of (false)), (9, VP.eq (.pointer (some ⟨p1, 0, none⟩))), (10, VP.eq (.pointer (some ⟨q3, 0, none⟩))), (11, VP.eq (.pointer (some ⟨gS0_8.1.1, 0, none⟩))), (12, VP.eq (.pointer (some ⟨gS0_8.2.1, 0, none⟩))), (29, VP.of (x0)), (30, VP.eq (.pointer (some ⟨q1, 0, none⟩))), (31, VP.of (y2.1)), (32, VP.of (x1)), (33, VP.eq (.pointer (some ⟨q3, 0, none⟩))), (34, VP.of (y2.1)), (35, VP.eq (.pointer (some ⟨gS0_8.1.1, 0, none⟩))), (36, VP.of (y2.1)), (37, VP.eq (.pointer (some ⟨gS0_8.2.1, 0, none⟩)))]) (fun gS0_8 => [⟨some gS0_8.2.1, .varX (({ y5 with f_l := [] } : T_ordered_List) : T_ordered_List) [(10, slv gS0_8.2.2.1 y5.f_l.length gS0_8.2.2.2)]⟩, ⟨gS0_8.2.2.1, .row 92 (y5.f_l : List T_api_Installed) gS0_8.2.2.2⟩, ⟨some gS0_8.1.1, .varX (({ y4 with f_l := [] } : T_ordered_List) : T_ordered_List) [(10, slv gS0_8.1.2.1 y4.f_l.length gS0_8.1.2.2)]⟩, ⟨gS0_8.1.2.1, .row 92 (y4.f_l : List T_api_Installed) gS0_8.1.2.2⟩, ⟨some p1, .var (y2.1 : T_api_Schema)⟩, ⟨some q3, .var (y3 : T_mcase_Codes)⟩, ⟨some q1, .var (y2.2 : T_mcase_Codes)⟩]) (fun gS0_8 => ?_) (fun S0_8 => ?_)
 ·refine AnyS.last (by kernel_rfl) ?_
  refine To.next ?_
  refine Qsr ?_
  refine Qm ?_
  refine Qm ?_
  refine Ql0 4 ty33 ?_
  refine Qm ?_
  refine Sq.bring 5 rfl ?_
  refine Sq.bring 4 rfl ?_
  refine Sq.bring 4 rfl ?_
  obtain ⟨y6,hy6,h⟩:=Qbs h
  refine QcO 3 en31 (Ch0_1_law13_put hy6) fun q6 => ?_
  refine Qm ?_
  refine Qxt ?_
  refine Qxt ?_
  refine Qa ?_
  refine Qa ?_
  refine Qns ?_
  refine Qsr ?_
  refine Qm ?_
  refine Q1 r_not ?_
  refine Qnx ?_
  refine Qcd h (fun h=>?_) fun h=>?_
  ·refine Qsr ?_
   refine Qa ?_
   refine Qnx ?_
   refine Wp.ret ?_
   refine To.ret ?_
   obtain rfl:=some_in h
   exact Qe1
  ·refine Qkn ?_
   refine Wp.seq ?_
   refine Qsr ?_
   refine Qm ?_
   refine Qm ?_
   refine Q1 (r_len Try.underlying22) ?_
   refine Q2 r_min ?_
   obtain ⟨y7,hy7,h⟩:=Qbs h
   refine Qv (r_slice Try.underlying22 ty5 (look_t rfl) .none (.some (look_t rfl)) hy7) ?_
   refine Q1 (r_len Try.underlying22) ?_
   refine Qm ?_
   refine Qnx ?_
   refine Wp.block ?_
   obtain ⟨e1,hl,h⟩:=Qbs h
   refine Qlp (γ:=(Option Nat × Nat)) (δ:=(Option Nat × Nat)) hl [0, 1, 2, 3, 8, 9, 10, 11, 12, 14, 47, 52, 53] (fun s1 g1 => [(13, VP.of (s1.1)), (54, VP.of (s1.2.1))]) (fun s1 g1 => [(0, ⟨some gS0_8.1.1, .varX (s1.2.2.1 : T_ordered_List) [(10, slv g1.1 s1.2.2.2.length g1.2)]⟩), (1, ⟨g1.1, .row 92 (s1.2.2.2 : List T_api_Installed) g1.2⟩)]) (fun q7 => Sum.elim (fun q7 => Exit.exit 0) (fun q7 => Exit.ret) q7) (fun q7 g1 => Sum.elim (fun q7 => [(13, VP.of (q7.1)), (54, VP.of (q7.2.1)), (55, VP.of (q7.2.2.1))]) (fun q7 => [(13, VP.of (q7.1)), (16, VP.of (q7.2.1)), (17, VP.of (q7.2.2.1)), (54, VP.of (q7.2.2.2.1)), (55, VP.of (q7.2.2.2.2.1)), (61, VP.of (q7.2.2.2.2.2.1)), (62, VP.of (q7.2.2.2.2.2.2.1)), (63, VP.of (q7.2.2.2.2.2.2.2.1)), (64, VP.of (q7.2.2.2.2.2.2.2.2.1)), (84, VP.of (q7.2.2.2.2.2.2.2.2.2.1))]) q7) (fun q7 g1 => Sum.elim (fun q7 => [(0, ⟨some gS0_8.1.1, .varX (q7.2.2.2.1 : T_ordered_List) [(10, slv g1.1 q7.2.2.2.2.length g1.2)]⟩), (1, ⟨g1.1, .row 92 (q7.2.2.2.2 : List T_api_Installed) g1.2⟩)]) (fun q7 => [(0, ⟨some gS0_8.1.1, .varX (q7.2.2.2.2.2.2.2.2.2.2.1 : T_ordered_List) [(10, slv g1.1 q7.2.2.2.2.2.2.2.2.2.2.2.length g1.2)]⟩), (1, ⟨g1.1, .row 92 (q7.2.2.2.2.2.2.2.2.2.2.2 : List T_api_Installed) g1.2⟩)]) q7) (q6.1, q6.2) (fun s1 r h g1 => ?_) fun g1 => ?_
   ·clear hl
    refine Qsr ?_
    refine Q2 r_lss ?_
    refine Qns ?_
    refine Qcd h (fun h=>?_) fun h=>?_
    ·refine Qkn ?_
     refine Wp.seq ?_
     refine Wp.block ?_
     refine Qsr ?_
     obtain ⟨k1,hk1,h⟩:=Qbs h
     refine Qix hk1 Try.underlying22 ty5 ?_
     refine Q1 (r_loadp ty5) ?_
     refine Qa ?_
     refine Qnr ?_
     refine Qm ?_
     refine Q1 (r_c8i Try.underlying5 Try.underlying3) ?_
     obtain ⟨y8,hy8,h⟩:=Qbs h
     refine Qv (r_rem (look_t rfl) (look_int 40) (modM_some hy8)) ?_
     refine Qa ?_
     refine Qnr ?_
     refine Sq.own (α := T_api_Installed) 92 ?_
     refine Qv (r_asg look_own) ?_
     refine Qns ?_
     refine Qsr ?_
     refine Qm ?_
     refine Q1 (r_len Try.underlying84) ?_
     refine Qm ?_
     refine Qnx ?_
     refine Wp.block ?_
     obtain ⟨e2,hl,h⟩:=Qbs h
     refine Qlp (γ:=(Option Nat × Nat)) (δ:=(Option Nat × Nat)) hl [0, 1, 2, 3, 8, 9, 10, 11, 12, 13, 14, 16, 17, 47, 52, 53, 54, 55, 61, 62] (fun s2 g2 => [(18, VP.eq (slv g2.1 s2.2.length g2.2)), (63, VP.of (s2.1))]) (fun s2 g2 => [(0, ⟨g2.1, .row 92 (s2.2 : List T_api_Installed) g2.2⟩)]) (fun q8 => Exit.exit 2) (fun q8 g2 => [(18, VP.eq (slv g2.1 q8.2.2.length g2.2)), (63, VP.of (q8.1)), (64, VP.of (q8.2.1))]) (fun q8 g2 => [(0, ⟨g2.1, .row 92 (q8.2.2 : List T_api_Installed) g2.2⟩)]) (none, 0) (fun s2 r h g2 => ?_) fun g2 => ?_
     ·clear hl
      refine Qsr ?_
      refine Q2 r_lss ?_
      refine Qns ?_
      refine Qcd h (fun h=>?_) fun h=>?_
      ·refine Qkn ?_
       refine Wp.seq ?_
       refine Wp.block ?_
       refine Qsr ?_
       obtain ⟨k2,hk2,h⟩:=Qbs h
       refine Qix hk2 Try.underlying84 ty92 ?_
       refine Q1 (r_loadp ty92) ?_
       refine Qal zr92 fun p2 => ?_
       refine Qs0 0 ty92 ?_
       refine Qnr ?_
       refine Q1 (r_fa fd92_1) ?_
       refine Qld 0 le_T_api_Installed_Number ty3 ?_
       refine Qm ?_
       refine Q2 r_neq ?_
       refine Qnx ?_
       obtain ⟨m1,hm1,h⟩:=Qbs h
       refine Qcm (γ:=(Option Nat × Nat)) [0, 1, 2, 3, 8, 9, 10, 11, 12, 13, 14, 16, 17, 20, 47, 52, 53, 54, 55, 61, 62, 63, 64, 70] (fun g3 => [(18, VP.eq (slv g3.1 m1.length g3.2))]) (fun g3 => [(1, ⟨g3.1, .row 92 (m1 : List T_api_Installed) g3.2⟩)]) (fun g3 => ?_) (fun hm hc => ?_) fun hm hc => ?_
       ·clear hm1
        refine To.bnorm ?_
        refine To.next ?_
        refine Wp.reg ?_
        refine Q2 r_add ?_
        refine Qm ?_
        refine Sq.nil ?_
        obtain rfl:=some_in h
        exact Qrd (g3.1, g3.2) 1
       ·have h := cond_t hc hm1
        refine Wp.reg ?_
        refine Qm ?_
        refine Ql0 0 ty92 ?_
        refine Qbl [(lget s1.1 k2)] Try.underlying84 ty92 zr92 ?_
        obtain ⟨y9,hy9,h⟩:=Qbs h
        refine Qap 1 Try.underlying84 ty92 zr92 hy9 fun key1 cap1 => ?_
        refine Qa ?_
        refine Sq.nil ?_
        obtain rfl:=some_in h
        exact Qmt 0 (hm (key1, cap1))
       ·have h := cond_f hc hm1
        refine Wp.skip ?_
        obtain rfl:=some_in h
        exact Qmt 0 (hm (g2.1, g2.2))
      ·refine Wp.exit ?_
       refine To.exit ?_
       obtain rfl:=some_in h
       exact Qlv (g2.1, g2.2) 0
     ·clear hl
      refine To.bexit ?_
      refine To.next ?_
      refine Wp.seq ?_
      refine Qsr ?_
      refine Qm ?_
      refine Qm ?_
      refine Sq.clr (γ := T_api_Installed) (b' := (({ s1.2.2.1 with f_l := [] } : T_ordered_List) : T_ordered_List)) ((Lens.id T_ordered_List).comp le_T_ordered_List_l) 1 0 rfl rfl rfl ?_
      refine Sq.bring 2 rfl ?_
      refine Sq.bring 2 rfl ?_
      obtain ⟨y10,hy10,h⟩:=Qbs h
      refine QcO 2 en48 (Ch0_1_ordered_List_Remove hy10) fun q9 => ?_
      refine Qm ?_
      refine Qv (r_lenO (i := 2) Try.underlying84 (look_t rfl) rfl rfl) ?_
      refine Qm ?_
      refine Q1 (r_len Try.underlying84) ?_
      refine Q2 r_lss ?_
      refine Q2 (r_bne Try.underlying4) ?_
      refine Qnx ?_
      refine Qcd h (fun h=>?_) fun h=>?_
      ·refine Qsr ?_
       refine Qa ?_
       refine Qnx ?_
       refine Wp.ret ?_
       refine To.ret ?_
       refine To.bret ?_
       refine To.ret ?_
       refine To.bring 2 rfl ?_
       obtain rfl:=some_in h
       exact Qlv (q9.1, q9.2) 1
      ·refine Qkn ?_
       refine Wp.reg ?_
       refine Qm ?_
       refine Qa ?_
       refine Sq.nil ?_
       refine To.bnorm ?_
       refine To.next ?_
       refine Wp.reg ?_
       refine Q2 r_add ?_
       refine Qm ?_
       refine Sq.nil ?_
       refine To.freezeL (α := T_api_Installed) 2 [13, 18, 79, 85] ⟨rfl, rfl, rfl, rfl, trivial⟩ rfl ?_
       refine To.bring 2 rfl ?_
       obtain rfl:=some_in h
       exact Qrd (q9.1, q9.2) 1
    ·refine Wp.exit ?_
     refine To.exit ?_
     obtain rfl:=some_in h
     exact Qlv (g1.1, g1.2) 0
   ·clear hl
    rcases e1 with e1 | e1
    ·simp only [Sum.elim_inl] at h
     refine To.bexit ?_
     refine To.next ?_
     refine Wp.seq ?_
     refine Qsr ?_
     refine Qm ?_
     refine Q1 (r_len Try.underlying84) ?_
     refine Q2 r_sub ?_
     refine Qa ?_
     refine Qnx ?_
     refine Wp.block ?_
     obtain ⟨e3,hl,h⟩:=Qbs h
     refine Qlp (γ:=(Option Nat × Nat)) (δ:=(Option Nat × Nat)) hl [0, 1, 2, 3, 8, 9, 10, 11, 12, 13, 14, 47, 52, 53, 54, 55] (fun s3 g4 => [(21, VP.of (s3.1))]) (fun s3 g4 => [(3, ⟨some gS0_8.2.1, .varX (s3.2.1 : T_ordered_List) [(10, slv g4.1 s3.2.2.length g4.2)]⟩), (4, ⟨g4.1, .row 92 (s3.2.2 : List T_api_Installed) g4.2⟩)]) (fun q10 => Exit.exit 4) (fun q10 g4 => [(21, VP.of (q10.1)), (91, VP.of (q10.2.1))]) (fun q10 g4 => [(3, ⟨some gS0_8.2.1, .varX (q10.2.2.1 : T_ordered_List) [(10, slv g4.1 q10.2.2.2.length g4.2)]⟩), (4, ⟨g4.1, .row 92 (q10.2.2.2 : List T_api_Installed) g4.2⟩)]) (gS0_8.2.2.1, gS0_8.2.2.2) (fun s3 r h g4 => ?_) fun g4 => ?_
     ·clear hl
      refine Wp.seq ?_
      refine Qsr ?_
      refine Qm ?_
      refine Q2 r_geq ?_
      refine Qnx ?_
      refine Qcd h (fun h=>?_) fun h=>?_
      ·refine Qkn ?_
       refine Wp.seq ?_
       refine Wp.block ?_
       refine Wp.reg ?_
       refine Qm ?_
       refine Qm ?_
       refine Qm ?_
       obtain ⟨k3,hk3,h⟩:=Qbs h
       refine Qix hk3 Try.underlying84 ty92 ?_
       refine Q1 (r_loadp ty92) ?_
       refine Sq.clr (γ := T_api_Installed) (b' := (({ s3.2.1 with f_l := [] } : T_ordered_List) : T_ordered_List)) ((Lens.id T_ordered_List).comp le_T_ordered_List_l) 3 0 rfl rfl rfl ?_
       refine Sq.bring 4 rfl ?_
       refine Sq.bring 4 rfl ?_
       obtain ⟨y11,hy11,h⟩:=Qbs h
       refine QcO 2 en36 (Ch0_1_ordered_List_Put hy11) fun q11 => ?_
       refine Sq.nil ?_
       refine To.bnorm ?_
       refine To.next ?_
       refine Wp.reg ?_
       refine Qm ?_
       refine Q2 r_sub ?_
       refine Qa ?_
       refine Sq.nil ?_
       refine To.bring 4 rfl ?_
       refine To.bring 4 rfl ?_
       refine To.bring 4 rfl ?_
       obtain rfl:=some_in h
       exact Qrd (q11.1, q11.2) 0
      ·refine Wp.exit ?_
       refine To.exit ?_
       obtain rfl:=some_in h
       exact Qlv (g4.1, g4.2) 0
     ·clear hl
      refine To.bexit ?_
      refine To.next ?_
      refine Wp.seq ?_
      refine Wp.seq ?_
      obtain ⟨y12,hy12,h⟩:=Qbs h
      obtain ⟨y13,hy13,h⟩:=Qbs h
      obtain ⟨y14,hy14,h⟩:=Qbs h
      obtain ⟨y15,hy15,h⟩:=Qbs h
      obtain ⟨y16,hy16,h⟩:=Qbs h
      obtain ⟨y17,hy17,h⟩:=Qbs h
      refine Wp.drawE mixed 15 (Array.mk (false :: false :: false :: false :: false :: false :: false :: false :: false :: false :: false :: false :: false :: false :: false :: [])) rfl rfl ?_
      refine AnyS.cut (γ := Unit) 0 (Array.mk (true :: true :: true :: true :: true :: true :: true :: true :: true :: true :: true :: true :: true :: true :: true :: [])) (fun gS1_24 => [(0, VP.of (x0)), (1, VP.of (x1)), (2, VP.of (x2)), (3, VP.of (x3)), (8, VP.of (false)), (9, VP.eq (.pointer (some ⟨p1, 0, none⟩))), (10, VP.eq (.pointer (some ⟨q3, 0, none⟩))), (11, VP.eq (.pointer (some ⟨gS0_8.1.1, 0, none⟩))), (12, VP.eq (.pointer (some ⟨gS0_8.2.1, 0, none⟩))), (13, VP.of (e1.1)), (14, VP.of (y6.2.1)), (21, VP.of (e3.1)), (47, VP.of (!y6.2.1)), (52, VP.of (y7)), (53, VP.of (y7.length : Int)), (54, VP.of (e1.2.1)), (55, VP.of (e1.2.2.1)), (91, VP.of (e3.2.1)), (100, VP.eq (.pointer (some ⟨gS0_8.1.1, 0, none⟩))), (101, VP.of (y12)), (102, VP.eq (.pointer (some ⟨gS0_8.2.1, 0, none⟩))), (103, VP.of (y13)), (104, VP.of (y14)), (105, VP.of (!y14)), (106, VP.of (!y14)), (107, VP.cond ((!y14) = false) (VP.eq (.pointer (some ⟨gS0_8.1.1, 0, none⟩)))), (108, VP.cond ((!y14) = false) (VP.of (y15))), (109, VP.cond ((!y14) = false) (VP.of (y2.1))), (110, VP.cond ((!y14) = false) (VP.of (e1.1))), (111, VP.cond ((!y14) = false) (VP.of (y16))), (112, VP.cond ((!y14) = false) (VP.of (y17))), (113, VP.cond ((!y14) = false) (VP.of (!y17))), (114, VP.of ((!y14) || (!y17)))]) (fun gS1_24 => [⟨some gS0_8.1.1, .varX (({ e1.2.2.2.1 with f_l := [] } : T_ordered_List) : T_ordered_List) [(10, slv g1.1 e1.2.2.2.2.length g1.2)]⟩, ⟨g1.1, .row 92 (e1.2.2.2.2 : List T_api_Installed) g1.2⟩, ⟨some q3, .var (y6.2.2.2 : T_mcase_Codes)⟩, ⟨some gS0_8.2.1, .varX (({ e3.2.2.1 with f_l := [] } : T_ordered_List) : T_ordered_List) [(10, slv g4.1 e3.2.2.2.length g4.2)]⟩, ⟨g4.1, .row 92 (e3.2.2.2 : List T_api_Installed) g4.2⟩, ⟨some p1, .var (y2.1 : T_api_Schema)⟩, ⟨some q1, .var (y2.2 : T_mcase_Codes)⟩]) (fun gS1_24 => ?_) (fun S1_24 => ?_)
      ·refine AnyS.last (by kernel_rfl) ?_
       refine To.next ?_
       refine Qcd h (fun h=>?_) fun h=>?_
       ·refine Qsr ?_
        refine Qa ?_
        refine Qnx ?_
        refine Wp.ret ?_
        refine To.ret ?_
        obtain rfl:=some_in h
        exact Qe1
       ·refine Qkn ?_
        refine Wp.seq ?_
        refine Qsr ?_
        refine Qm ?_
        refine Q1 (r_len Try.underlying84) ?_
        refine Qm ?_
        refine Qnx ?_
        refine Wp.block ?_
        obtain ⟨e4,hl,h⟩:=Qbs h
        refine Qlp (γ:=Unit) (δ:=Unit) hl [0, 1, 2, 3, 8, 9, 10, 11, 12, 13, 14, 21, 47, 52, 53, 54, 55, 91, 114, 115, 116] (fun s4 g5 => [(117, VP.of (s4.1))]) (fun s4 g5 => [(2, ⟨some q3, .var (s4.2 : T_mcase_Codes)⟩)]) (fun q12 => Sum.elim (fun q12 => Exit.exit 6) (fun q12 => Exit.ret) q12) (fun q12 g5 => Sum.elim (fun q12 => [(117, VP.of (q12.1)), (118, VP.of (q12.2.1))]) (fun q12 => [(26, VP.of (q12.1)), (28, VP.of (q12.2.1)), (117, VP.of (q12.2.2.1)), (118, VP.of (q12.2.2.2.1)), (150, VP.of (q12.2.2.2.2.1))]) q12) (fun q12 g5 => Sum.elim (fun q12 => [(2, ⟨some q3, .var (q12.2.2 : T_mcase_Codes)⟩)]) (fun q12 => [(2, ⟨some q3, .var (q12.2.2.2.2.2 : T_mcase_Codes)⟩)]) q12) () (fun s4 r h g5 => ?_) fun g5 => ?_
        ·clear hl
         refine Qsr ?_
         refine Q2 r_lss ?_
         refine Qns ?_
         refine Qcd h (fun h=>?_) fun h=>?_
         ·refine Qkn ?_
          refine Wp.seq ?_
          refine Wp.block ?_
          refine Qsr ?_
          obtain ⟨k4,hk4,h⟩:=Qbs h
          refine Qix hk4 Try.underlying84 ty92 ?_
          refine Q1 (r_loadp ty92) ?_
          refine Qal zr92 fun p3 => ?_
          refine Qs0 0 ty92 ?_
          refine Qns ?_
          obtain ⟨y18,hy18,h⟩:=Qbs h
          obtain ⟨y19,hy19,h⟩:=Qbs h
          refine Wp.keep 1 ?_
          refine Qwl [0, 1, 2, 3, 8, 9, 10, 11, 12, 13, 14, 21, 23, 47, 52, 53, 54, 55, 91, 114, 115, 116, 117, 118, 119, 120] ?_
          refine Wp.drawD mixed (Hp 121 [] [] _ :: Hp 122 (0 :: []) (0 :: []) _ :: Hp 123 [] [] _ :: ⟨some 124, (2 :: []), (3 :: []), (3 :: []), fun _ => VP.of (y18.1), fun hd _ => ⟨some q3, .var (y18.2 : T_mcase_Codes)⟩⟩ :: Hp 125 (1 :: 3 :: []) [] _ :: ⟨some 24, [], (8 :: []), (8 :: []), fun hd => VP.eq (.pointer (some ⟨((hd 5 0).getD 0), 0, none⟩)), fun hd _ => ⟨some ((hd 5 0).getD 0), .var ((default : Vector T_api_Value 4) : Vector T_api_Value 4)⟩⟩ :: ⟨none, (4 :: 5 :: []), (8 :: []), (8 :: []), fun _ => VP.any, fun hd _ => ⟨some ((hd 5 0).getD 0), .var (y19 : Vector T_api_Value 4)⟩⟩ :: []) _ (0 :: 1 :: 2 :: 3 :: 8 :: 9 :: 10 :: 11 :: 12 :: 13 :: 14 :: 21 :: 23 :: 47 :: 52 :: 53 :: 54 :: 55 :: 91 :: 114 :: 115 :: 116 :: 117 :: 118 :: 119 :: 120 :: []) rfl rfl (by kernel_rfl) ⟨D1 (r_fa fd92_0), Dld 0 le_T_api_Installed_Entry ty89, Dm, ?_, Dv fun hd E' L' hE hL => r_call en34 (C_mcase_Inside hy19) ⟨look_t (hE _ _ rfl), look_t (hE _ _ rfl), trivial⟩, ?_, ?_, trivial⟩ fun hd => ?_
          ·intro hd E' L' hE hL
           refine Sq.bring 3 (hL 3 _ rfl rfl) ?_
           refine Sq.callO (Lin := [⟨some q3, .var (s4.2 : T_mcase_Codes)⟩]) (Lr := L'.eraseIdx 3) en33 (C_mcase_Codes_Point hy18) ⟨look_t (hE _ _ rfl), trivial⟩ rfl fun q13 => ?_
           refine Sq.nil ?_
           refine To.back 3 (hL 3 _ rfl rfl) ?_
           exact To.fin (gm []) rfl rfl
          ·intro hd E' L' hE hL
           refine Qal zr81 fun p4 => ?_
           refine Sq.nil ?_
           refine To.place 8 (hL 8 _ rfl rfl) ?_
           exact To.fin (gm [some p4]) rfl rfl
          ·intro hd E' L' hE hL
           refine Sq.store (i := 8) (Lens.id (Vector T_api_Value 4)) (v := (y19 : Vector T_api_Value 4)) (b' := (y19 : Vector T_api_Value 4)) ty81 (look_t (hE _ _ rfl)) (look_t (hE _ _ rfl)) (hL 8 _ rfl rfl) rfl rfl ?_
           refine Sq.nil ?_
           exact To.fin (gm []) rfl rfl
          refine To.eqL (L2 := [⟨some p3, .var (lget e1.1 k4 : T_api_Installed)⟩, ⟨some gS0_8.1.1, .varX (({ e1.2.2.2.1 with f_l := [] } : T_ordered_List) : T_ordered_List) [(10, slv g1.1 e1.2.2.2.2.length g1.2)]⟩, ⟨g1.1, .row 92 (e1.2.2.2.2 : List T_api_Installed) g1.2⟩, ⟨some q3, .var (y18.2 : T_mcase_Codes)⟩, ⟨some gS0_8.2.1, .varX (({ e3.2.2.1 with f_l := [] } : T_ordered_List) : T_ordered_List) [(10, slv g4.1 e3.2.2.2.length g4.2)]⟩, ⟨g4.1, .row 92 (e3.2.2.2 : List T_api_Installed) g4.2⟩, ⟨some p1, .var (y2.1 : T_api_Schema)⟩, ⟨some q1, .var (y2.2 : T_mcase_Codes)⟩, ⟨some ((hd 5 0).getD 0), .var (y19 : Vector T_api_Value 4)⟩]) rfl ?_
          refine Qtl [0, 1, 2, 3, 8, 9, 10, 11, 12, 13, 14, 21, 23, 24, 47, 52, 53, 54, 55, 91, 114, 115, 116, 117, 118, 119, 120, 121, 122, 123, 124, 125] ?_
          refine To.bring 8 rfl ?_
          refine To.next ?_
          refine Qsr ?_
          refine Qm ?_
          refine Ql0 0 ty81 ?_
          obtain ⟨y20,hy20,h⟩:=Qbs h
          refine Sq.vS (HS.call [2, 3] en35 (Ch0_1_ordered_List_Lookup hy20) ⟨look_t rfl, look_t rfl, trivial⟩ rfl ⟨rfl, rfl, trivial⟩ rfl) rfl rfl rfl ?_
          refine Qm ?_
          refine Qxt ?_
          refine Qxt ?_
          refine Qal zr92 fun p5 => ?_
          refine Qs0 0 ty92 ?_
          refine Qa ?_
          refine Qnr ?_
          refine Qm ?_
          refine Ql0 1 ty81 ?_
          obtain ⟨y21,hy21,h⟩:=Qbs h
          refine Sq.vS (HS.call [6, 7] en35 (Ch0_1_ordered_List_Lookup hy21) ⟨look_t rfl, look_t rfl, trivial⟩ rfl ⟨rfl, rfl, trivial⟩ rfl) rfl rfl rfl ?_
          refine Qm ?_
          refine Qxt ?_
          refine Qxt ?_
          refine Qal zr92 fun p6 => ?_
          refine Qs0 0 ty92 ?_
          refine Qa ?_
          refine Qnr ?_
          refine Qm ?_
          refine Qm ?_
          refine Q2 (r_bne Try.underlying4) ?_
          refine Qm ?_
          refine Qg (fun hb => r_load (i := 1) (Lens.id T_api_Installed) (r := y20.1) ty92 (look_t rfl) rfl rfl rfl) ?_
          refine Qg (fun hb => r_load (i := 0) (Lens.id T_api_Installed) (r := y21.1) ty92 (look_t rfl) rfl rfl rfl) ?_
          obtain ⟨y22,hy22,h⟩:=Qbs h
          refine Qg (fun hb => r_call en38 (C_ref13_Same (condM_some hy22 hb)) ⟨look_tc rfl hb, look_tc rfl hb, trivial⟩) ?_
          refine Qg1 r_not ?_
          refine Qor ?_
          refine Qm ?_
          refine Qg1 r_move ?_
          refine Qg1 r_not ?_
          refine Qor ?_
          refine Qnx ?_
          refine Qcd h (fun h=>?_) fun h=>?_
          ·refine Qsr ?_
           refine Qa ?_
           refine Qnx ?_
           refine Wp.ret ?_
           refine To.bret ?_
           refine To.ret ?_
           obtain rfl:=some_in h
           exact Qlv () 4
          ·refine Wp.skip ?_
           refine To.bnorm ?_
           refine To.next ?_
           refine Wp.reg ?_
           refine Q2 r_add ?_
           refine Qm ?_
           refine Sq.nil ?_
           obtain rfl:=some_in h
           exact Qrd () 4
         ·refine Wp.exit ?_
          refine To.exit ?_
          obtain rfl:=some_in h
          exact Qlv () 0
        ·clear hl
         rcases e4 with e4 | e4
         ·simp only [Sum.elim_inl] at h
          refine To.bexit ?_
          refine To.next ?_
          refine Qsr ?_
          obtain ⟨y23,hy23,h⟩:=Qbs h
          refine Qcl en39 (C_law13_begun hy23) ?_
          refine Qa ?_
          refine Qnx ?_
          refine Wp.ret ?_
          obtain rfl:=some_in h
          exact Qe1
         ·simp only [Sum.elim_inr] at h
          refine To.bret ?_
          refine To.ret ?_
          obtain rfl:=some_in h
          exact Qe1
      refine AnyS.cut (γ := Unit) 1 (Array.mk (true :: true :: true :: true :: true :: true :: true :: true :: true :: true :: true :: true :: true :: true :: false :: [])) (fun gS1_23 => [(0, VP.of (x0)), (1, VP.of (x1)), (2, VP.of (x2)), (3, VP.of (x3)), (8, VP.of (false)), (9, VP.eq (.pointer (some ⟨p1, 0, none⟩))), (10, VP.eq (.pointer (some ⟨q3, 0, none⟩))), (11, VP.eq (.pointer (some ⟨gS0_8.1.1, 0, none⟩))), (12, VP.eq (.pointer (some ⟨gS0_8.2.1, 0, none⟩))), (13, VP.of (e1.1)), (14, VP.of (y6.2.1)), (21, VP.of (e3.1)), (47, VP.of (!y6.2.1)), (52, VP.of (y7)), (53, VP.of (y7.length : Int)), (54, VP.of (e1.2.1)), (55, VP.of (e1.2.2.1)), (91, VP.of (e3.2.1)), (100, VP.eq (.pointer (some ⟨gS0_8.1.1, 0, none⟩))), (101, VP.of (y12)), (102, VP.eq (.pointer (some ⟨gS0_8.2.1, 0, none⟩))), (103, VP.of (y13)), (104, VP.of (y14)), (105, VP.of (!y14)), (106, VP.of (!y14)), (107, VP.cond ((!y14) = false) (VP.eq (.pointer (some ⟨gS0_8.1.1, 0, none⟩)))), (108, VP.cond ((!y14) = false) (VP.of (y15))), (109, VP.cond ((!y14) = false) (VP.of (y2.1))), (110, VP.cond ((!y14) = false) (VP.of (e1.1))), (111, VP.cond ((!y14) = false) (VP.of (y16))), (112, VP.cond ((!y14) = false) (VP.of (y17))), (113, VP.cond ((!y14) = false) (VP.of (!y17)))]) (fun gS1_23 => [⟨some gS0_8.1.1, .varX (({ e1.2.2.2.1 with f_l := [] } : T_ordered_List) : T_ordered_List) [(10, slv g1.1 e1.2.2.2.2.length g1.2)]⟩, ⟨g1.1, .row 92 (e1.2.2.2.2 : List T_api_Installed) g1.2⟩, ⟨some q3, .var (y6.2.2.2 : T_mcase_Codes)⟩, ⟨some gS0_8.2.1, .varX (({ e3.2.2.1 with f_l := [] } : T_ordered_List) : T_ordered_List) [(10, slv g4.1 e3.2.2.2.length g4.2)]⟩, ⟨g4.1, .row 92 (e3.2.2.2 : List T_api_Installed) g4.2⟩, ⟨some p1, .var (y2.1 : T_api_Schema)⟩, ⟨some q1, .var (y2.2 : T_mcase_Codes)⟩]) (fun gS1_23 => ?_) (fun S1_23 => ?_)
      ·clear h
       refine AnyS.step [14] (by kernel_rfl) rfl ⟨⟨_, rfl, ?_⟩, trivial⟩
       ·refine Qor ?_
        refine Sq.nil ?_
        exact To.any rfl (AnyS.le (.same rfl (.same rfl (.same rfl (.same rfl (.same rfl (.same rfl (.same rfl (.same rfl (.same rfl (.same rfl (.same rfl (.same rfl (.same rfl (.same rfl (.same rfl (.same rfl (.same rfl (.same rfl (.same rfl (.same rfl (.same rfl (.same rfl (.same rfl (.same rfl (.same rfl (.same rfl (.same rfl (.same rfl (.same rfl (.same rfl (.same rfl (.same rfl (.same rfl .nil))))))))))))))))))))))))))))))))) (S1_24 ()))
      refine AnyS.cut (γ := Unit) 2 (Array.mk (true :: true :: true :: true :: true :: true :: true :: true :: true :: true :: true :: true :: true :: false :: false :: [])) (fun gS1_22 => [(0, VP.of (x0)), (1, VP.of (x1)), (2, VP.of (x2)), (3, VP.of (x3)), (8, VP.of (false)), (9, VP.eq (.pointer (some ⟨p1, 0, none⟩))), (10, VP.eq (.pointer (some ⟨q3, 0, none⟩))), (11, VP.eq (.pointer (some ⟨gS0_8.1.1, 0, none⟩))), (12, VP.eq (.pointer (some ⟨gS0_8.2.1, 0, none⟩))), (13, VP.of (e1.1)), (14, VP.of (y6.2.1)), (21, VP.of (e3.1)), (47, VP.of (!y6.2.1)), (52, VP.of (y7)), (53, VP.of (y7.length : Int)), (54, VP.of (e1.2.1)), (55, VP.of (e1.2.2.1)), (91, VP.of (e3.2.1)), (100, VP.eq (.pointer (some ⟨gS0_8.1.1, 0, none⟩))), (101, VP.of (y12)), (102, VP.eq (.pointer (some ⟨gS0_8.2.1, 0, none⟩))), (103, VP.of (y13)), (104, VP.of (y14)), (105, VP.of (!y14)), (106, VP.of (!y14)), (107, VP.cond ((!y14) = false) (VP.eq (.pointer (some ⟨gS0_8.1.1, 0, none⟩)))), (108, VP.cond ((!y14) = false) (VP.of (y15))), (109, VP.cond ((!y14) = false) (VP.of (y2.1))), (110, VP.cond ((!y14) = false) (VP.of (e1.1))), (111, VP.cond ((!y14) = false) (VP.of (y16))), (112, VP.cond ((!y14) = false) (VP.of (y17)))]) (fun gS1_22 => [⟨some gS0_8.1.1, .varX (({ e1.2.2.2.1 with f_l := [] } : T_ordered_List) : T_ordered_List) [(10, slv g1.1 e1.2.2.2.2.length g1.2)]⟩, ⟨g1.1, .row 92 (e1.2.2.2.2 : List T_api_Installed) g1.2⟩, ⟨some q3, .var (y6.2.2.2 : T_mcase_Codes)⟩, ⟨some gS0_8.2.1, .varX (({ e3.2.2.1 with f_l := [] } : T_ordered_List) : T_ordered_List) [(10, slv g4.1 e3.2.2.2.length g4.2)]⟩, ⟨g4.1, .row 92 (e3.2.2.2 : List T_api_Installed) g4.2⟩, ⟨some p1, .var (y2.1 : T_api_Schema)⟩, ⟨some q1, .var (y2.2 : T_mcase_Codes)⟩]) (fun gS1_22 => ?_) (fun S1_22 => ?_)
      ·clear h
       refine AnyS.step [13] (by kernel_rfl) rfl ⟨⟨_, rfl, ?_⟩, trivial⟩
       ·refine Qg1 r_not ?_
        refine Sq.nil ?_
        exact To.any rfl (AnyS.le (.same rfl (.same rfl (.same rfl (.same rfl (.same rfl (.same rfl (.same rfl (.same rfl (.same rfl (.same rfl (.same rfl (.same rfl (.same rfl (.same rfl (.same rfl (.same rfl (.same rfl (.same rfl (.same rfl (.same rfl (.same rfl (.same rfl (.same rfl (.same rfl (.same rfl (.same rfl (.same rfl (.same rfl (.same rfl (.same rfl (.same rfl (.same rfl .nil)))))))))))))))))))))))))))))))) (S1_23 ()))
      refine AnyS.cut (γ := Unit) 3 (Array.mk (true :: true :: true :: true :: true :: true :: true :: true :: true :: true :: true :: true :: false :: false :: false :: [])) (fun gS1_21 => [(0, VP.of (x0)), (1, VP.of (x1)), (2, VP.of (x2)), (3, VP.of (x3)), (8, VP.of (false)), (9, VP.eq (.pointer (some ⟨p1, 0, none⟩))), (10, VP.eq (.pointer (some ⟨q3, 0, none⟩))), (11, VP.eq (.pointer (some ⟨gS0_8.1.1, 0, none⟩))), (12, VP.eq (.pointer (some ⟨gS0_8.2.1, 0, none⟩))), (13, VP.of (e1.1)), (14, VP.of (y6.2.1)), (21, VP.of (e3.1)), (47, VP.of (!y6.2.1)), (52, VP.of (y7)), (53, VP.of (y7.length : Int)), (54, VP.of (e1.2.1)), (55, VP.of (e1.2.2.1)), (91, VP.of (e3.2.1)), (100, VP.eq (.pointer (some ⟨gS0_8.1.1, 0, none⟩))), (101, VP.of (y12)), (102, VP.eq (.pointer (some ⟨gS0_8.2.1, 0, none⟩))), (103, VP.of (y13)), (104, VP.of (y14)), (105, VP.of (!y14)), (106, VP.of (!y14)), (107, VP.cond ((!y14) = false) (VP.eq (.pointer (some ⟨gS0_8.1.1, 0, none⟩)))), (108, VP.cond ((!y14) = false) (VP.of (y15))), (109, VP.cond ((!y14) = false) (VP.of (y2.1))), (110, VP.cond ((!y14) = false) (VP.of (e1.1))), (111, VP.cond ((!y14) = false) (VP.of (y16)))]) (fun gS1_21 => [⟨some gS0_8.1.1, .varX (({ e1.2.2.2.1 with f_l := [] } : T_ordered_List) : T_ordered_List) [(10, slv g1.1 e1.2.2.2.2.length g1.2)]⟩, ⟨g1.1, .row 92 (e1.2.2.2.2 : List T_api_Installed) g1.2⟩, ⟨some q3, .var (y6.2.2.2 : T_mcase_Codes)⟩, ⟨some gS0_8.2.1, .varX (({ e3.2.2.1 with f_l := [] } : T_ordered_List) : T_ordered_List) [(10, slv g4.1 e3.2.2.2.length g4.2)]⟩, ⟨g4.1, .row 92 (e3.2.2.2 : List T_api_Installed) g4.2⟩, ⟨some p1, .var (y2.1 : T_api_Schema)⟩, ⟨some q1, .var (y2.2 : T_mcase_Codes)⟩]) (fun gS1_21 => ?_) (fun S1_21 => ?_)
      ·clear h
       refine AnyS.step [12] (by kernel_rfl) rfl ⟨⟨_, rfl, ?_⟩, trivial⟩
       ·refine Qg (fun hb => r_call en43 (C_ref13_SameAll (condM_some hy17 hb)) ⟨look_tc rfl hb, look_tc rfl hb, trivial⟩) ?_
        refine Sq.nil ?_
        exact To.any rfl (AnyS.le (.same rfl (.same rfl (.same rfl (.same rfl (.same rfl (.same rfl (.same rfl (.same rfl (.same rfl (.same rfl (.same rfl (.same rfl (.same rfl (.same rfl (.same rfl (.same rfl (.same rfl (.same rfl (.same rfl (.same rfl (.same rfl (.same rfl (.same rfl (.same rfl (.same rfl (.same rfl (.same rfl (.same rfl (.same rfl (.same rfl (.same rfl .nil))))))))))))))))))))))))))))))) (S1_22 ()))
      refine AnyS.cut (γ := Unit) 4 (Array.mk (true :: true :: true :: true :: true :: true :: true :: true :: true :: true :: true :: false :: false :: false :: false :: [])) (fun gS1_20 => [(0, VP.of (x0)), (1, VP.of (x1)), (2, VP.of (x2)), (3, VP.of (x3)), (8, VP.of (false)), (9, VP.eq (.pointer (some ⟨p1, 0, none⟩))), (10, VP.eq (.pointer (some ⟨q3, 0, none⟩))), (11, VP.eq (.pointer (some ⟨gS0_8.1.1, 0, none⟩))), (12, VP.eq (.pointer (some ⟨gS0_8.2.1, 0, none⟩))), (13, VP.of (e1.1)), (14, VP.of (y6.2.1)), (21, VP.of (e3.1)), (47, VP.of (!y6.2.1)), (52, VP.of (y7)), (53, VP.of (y7.length : Int)), (54, VP.of (e1.2.1)), (55, VP.of (e1.2.2.1)), (91, VP.of (e3.2.1)), (100, VP.eq (.pointer (some ⟨gS0_8.1.1, 0, none⟩))), (101, VP.of (y12)), (102, VP.eq (.pointer (some ⟨gS0_8.2.1, 0, none⟩))), (103, VP.of (y13)), (104, VP.of (y14)), (105, VP.of (!y14)), (106, VP.of (!y14)), (107, VP.cond ((!y14) = false) (VP.eq (.pointer (some ⟨gS0_8.1.1, 0, none⟩)))), (108, VP.cond ((!y14) = false) (VP.of (y15))), (109, VP.cond ((!y14) = false) (VP.of (y2.1))), (110, VP.cond ((!y14) = false) (VP.of (e1.1)))]) (fun gS1_20 => [⟨some gS0_8.1.1, .varX (({ e1.2.2.2.1 with f_l := [] } : T_ordered_List) : T_ordered_List) [(10, slv g1.1 e1.2.2.2.2.length g1.2)]⟩, ⟨g1.1, .row 92 (e1.2.2.2.2 : List T_api_Installed) g1.2⟩, ⟨some q3, .var (y6.2.2.2 : T_mcase_Codes)⟩, ⟨some gS0_8.2.1, .varX (({ e3.2.2.1 with f_l := [] } : T_ordered_List) : T_ordered_List) [(10, slv g4.1 e3.2.2.2.length g4.2)]⟩, ⟨g4.1, .row 92 (e3.2.2.2 : List T_api_Installed) g4.2⟩, ⟨some p1, .var (y2.1 : T_api_Schema)⟩, ⟨some q1, .var (y2.2 : T_mcase_Codes)⟩]) (fun gS1_20 => ?_) (fun S1_20 => ?_)
      ·clear h
       refine AnyS.step [11] (by kernel_rfl) rfl ⟨⟨_, rfl, ?_⟩, trivial⟩
       ·refine Qg (fun hb => r_call en45 (C_ref13_Ranked (condM_some hy16 hb)) ⟨look_tc rfl hb, look_tc rfl hb, trivial⟩) ?_
        refine Sq.nil ?_
        exact To.any rfl (AnyS.le (.same rfl (.same rfl (.same rfl (.same rfl (.same rfl (.same rfl (.same rfl (.same rfl (.same rfl (.same rfl (.same rfl (.same rfl (.same rfl (.same rfl (.same rfl (.same rfl (.same rfl (.same rfl (.same rfl (.same rfl (.same rfl (.same rfl (.same rfl (.same rfl (.same rfl (.same rfl (.same rfl (.same rfl (.same rfl (.same rfl .nil)))))))))))))))))))))))))))))) (S1_21 ()))
      refine AnyS.cut (γ := Unit) 5 (Array.mk (true :: true :: true :: true :: true :: true :: true :: true :: false :: true :: true :: false :: false :: false :: false :: [])) (fun gS1_19 => [(0, VP.of (x0)), (1, VP.of (x1)), (2, VP.of (x2)), (3, VP.of (x3)), (8, VP.of (false)), (9, VP.eq (.pointer (some ⟨p1, 0, none⟩))), (10, VP.eq (.pointer (some ⟨q3, 0, none⟩))), (11, VP.eq (.pointer (some ⟨gS0_8.1.1, 0, none⟩))), (12, VP.eq (.pointer (some ⟨gS0_8.2.1, 0, none⟩))), (13, VP.of (e1.1)), (14, VP.of (y6.2.1)), (21, VP.of (e3.1)), (47, VP.of (!y6.2.1)), (52, VP.of (y7)), (53, VP.of (y7.length : Int)), (54, VP.of (e1.2.1)), (55, VP.of (e1.2.2.1)), (91, VP.of (e3.2.1)), (100, VP.eq (.pointer (some ⟨gS0_8.1.1, 0, none⟩))), (101, VP.of (y12)), (102, VP.eq (.pointer (some ⟨gS0_8.2.1, 0, none⟩))), (103, VP.of (y13)), (104, VP.of (y14)), (105, VP.of (!y14)), (106, VP.of (!y14)), (107, VP.cond ((!y14) = false) (VP.eq (.pointer (some ⟨gS0_8.1.1, 0, none⟩)))), (109, VP.cond ((!y14) = false) (VP.of (y2.1))), (110, VP.cond ((!y14) = false) (VP.of (e1.1)))]) (fun gS1_19 => [⟨some gS0_8.1.1, .varX (({ e1.2.2.2.1 with f_l := [] } : T_ordered_List) : T_ordered_List) [(10, slv g1.1 e1.2.2.2.2.length g1.2)]⟩, ⟨g1.1, .row 92 (e1.2.2.2.2 : List T_api_Installed) g1.2⟩, ⟨some q3, .var (y6.2.2.2 : T_mcase_Codes)⟩, ⟨some gS0_8.2.1, .varX (({ e3.2.2.1 with f_l := [] } : T_ordered_List) : T_ordered_List) [(10, slv g4.1 e3.2.2.2.length g4.2)]⟩, ⟨g4.1, .row 92 (e3.2.2.2 : List T_api_Installed) g4.2⟩, ⟨some p1, .var (y2.1 : T_api_Schema)⟩, ⟨some q1, .var (y2.2 : T_mcase_Codes)⟩]) (fun gS1_19 => ?_) (fun S1_19 => ?_)
      ·clear h
       refine AnyS.step [8] (by kernel_rfl) rfl ⟨⟨_, rfl, ?_⟩, trivial⟩
       ·refine Sq.gS (fun hb => HS.call [0, 1] en44 (Ch0_1_ordered_List_All (condM_some hy15 hb)) ⟨look_tc rfl hb, trivial⟩ rfl ⟨rfl, rfl, trivial⟩ rfl) rfl rfl rfl rfl rfl ?_
        refine Sq.nil ?_
        exact To.any rfl (AnyS.le (.same rfl (.same rfl (.same rfl (.same rfl (.same rfl (.same rfl (.same rfl (.same rfl (.same rfl (.same rfl (.same rfl (.same rfl (.same rfl (.same rfl (.same rfl (.same rfl (.same rfl (.same rfl (.same rfl (.same rfl (.same rfl (.same rfl (.same rfl (.same rfl (.same rfl (.same rfl (.same rfl (.same rfl (.same rfl .nil))))))))))))))))))))))))))))) (S1_20 ()))
      refine AnyS.cut (γ := Unit) 5 (Array.mk (true :: true :: true :: true :: true :: true :: true :: true :: true :: false :: true :: false :: false :: false :: false :: [])) (fun gS1_18 => [(0, VP.of (x0)), (1, VP.of (x1)), (2, VP.of (x2)), (3, VP.of (x3)), (8, VP.of (false)), (9, VP.eq (.pointer (some ⟨p1, 0, none⟩))), (10, VP.eq (.pointer (some ⟨q3, 0, none⟩))), (11, VP.eq (.pointer (some ⟨gS0_8.1.1, 0, none⟩))), (12, VP.eq (.pointer (some ⟨gS0_8.2.1, 0, none⟩))), (13, VP.of (e1.1)), (14, VP.of (y6.2.1)), (21, VP.of (e3.1)), (47, VP.of (!y6.2.1)), (52, VP.of (y7)), (53, VP.of (y7.length : Int)), (54, VP.of (e1.2.1)), (55, VP.of (e1.2.2.1)), (91, VP.of (e3.2.1)), (100, VP.eq (.pointer (some ⟨gS0_8.1.1, 0, none⟩))), (101, VP.of (y12)), (102, VP.eq (.pointer (some ⟨gS0_8.2.1, 0, none⟩))), (103, VP.of (y13)), (104, VP.of (y14)), (105, VP.of (!y14)), (106, VP.of (!y14)), (107, VP.cond ((!y14) = false) (VP.eq (.pointer (some ⟨gS0_8.1.1, 0, none⟩)))), (108, VP.cond ((!y14) = false) (VP.of (y15))), (110, VP.cond ((!y14) = false) (VP.of (e1.1)))]) (fun gS1_18 => [⟨some gS0_8.1.1, .varX (({ e1.2.2.2.1 with f_l := [] } : T_ordered_List) : T_ordered_List) [(10, slv g1.1 e1.2.2.2.2.length g1.2)]⟩, ⟨g1.1, .row 92 (e1.2.2.2.2 : List T_api_Installed) g1.2⟩, ⟨some q3, .var (y6.2.2.2 : T_mcase_Codes)⟩, ⟨some gS0_8.2.1, .varX (({ e3.2.2.1 with f_l := [] } : T_ordered_List) : T_ordered_List) [(10, slv g4.1 e3.2.2.2.length g4.2)]⟩, ⟨g4.1, .row 92 (e3.2.2.2 : List T_api_Installed) g4.2⟩, ⟨some p1, .var (y2.1 : T_api_Schema)⟩, ⟨some q1, .var (y2.2 : T_mcase_Codes)⟩]) (fun gS1_18 => ?_) (fun S1_18 => ?_)
      ·clear h
       refine AnyS.step [9] (by kernel_rfl) rfl ⟨⟨_, rfl, ?_⟩, trivial⟩
       ·refine Qg (fun hb => r_load (i := 5) (Lens.id T_api_Schema) (r := y2.1) ty33 (look_t rfl) rfl rfl rfl) ?_
        refine Sq.nil ?_
        exact To.any rfl (AnyS.le (.same rfl (.same rfl (.same rfl (.same rfl (.same rfl (.same rfl (.same rfl (.same rfl (.same rfl (.same rfl (.same rfl (.same rfl (.same rfl (.same rfl (.same rfl (.same rfl (.same rfl (.same rfl (.same rfl (.same rfl (.same rfl (.same rfl (.same rfl (.same rfl (.same rfl (.same rfl (.same rfl (.same rfl (.same rfl .nil))))))))))))))))))))))))))))) (S1_20 ()))
      refine AnyS.cut (γ := Unit) 5 (Array.mk (true :: true :: true :: true :: true :: true :: true :: true :: true :: true :: false :: false :: false :: false :: false :: [])) (fun gS1_17 => [(0, VP.of (x0)), (1, VP.of (x1)), (2, VP.of (x2)), (3, VP.of (x3)), (8, VP.of (false)), (9, VP.eq (.pointer (some ⟨p1, 0, none⟩))), (10, VP.eq (.pointer (some ⟨q3, 0, none⟩))), (11, VP.eq (.pointer (some ⟨gS0_8.1.1, 0, none⟩))), (12, VP.eq (.pointer (some ⟨gS0_8.2.1, 0, none⟩))), (13, VP.of (e1.1)), (14, VP.of (y6.2.1)), (21, VP.of (e3.1)), (47, VP.of (!y6.2.1)), (52, VP.of (y7)), (53, VP.of (y7.length : Int)), (54, VP.of (e1.2.1)), (55, VP.of (e1.2.2.1)), (91, VP.of (e3.2.1)), (100, VP.eq (.pointer (some ⟨gS0_8.1.1, 0, none⟩))), (101, VP.of (y12)), (102, VP.eq (.pointer (some ⟨gS0_8.2.1, 0, none⟩))), (103, VP.of (y13)), (104, VP.of (y14)), (105, VP.of (!y14)), (106, VP.of (!y14)), (107, VP.cond ((!y14) = false) (VP.eq (.pointer (some ⟨gS0_8.1.1, 0, none⟩)))), (108, VP.cond ((!y14) = false) (VP.of (y15))), (109, VP.cond ((!y14) = false) (VP.of (y2.1)))]) (fun gS1_17 => [⟨some gS0_8.1.1, .varX (({ e1.2.2.2.1 with f_l := [] } : T_ordered_List) : T_ordered_List) [(10, slv g1.1 e1.2.2.2.2.length g1.2)]⟩, ⟨g1.1, .row 92 (e1.2.2.2.2 : List T_api_Installed) g1.2⟩, ⟨some q3, .var (y6.2.2.2 : T_mcase_Codes)⟩, ⟨some gS0_8.2.1, .varX (({ e3.2.2.1 with f_l := [] } : T_ordered_List) : T_ordered_List) [(10, slv g4.1 e3.2.2.2.length g4.2)]⟩, ⟨g4.1, .row 92 (e3.2.2.2 : List T_api_Installed) g4.2⟩, ⟨some p1, .var (y2.1 : T_api_Schema)⟩, ⟨some q1, .var (y2.2 : T_mcase_Codes)⟩]) (fun gS1_17 => ?_) (fun S1_17 => ?_)
      ·clear h
       refine AnyS.step [10] (by kernel_rfl) rfl ⟨⟨_, rfl, ?_⟩, trivial⟩
       ·refine Qg1 r_move ?_
        refine Sq.nil ?_
        exact To.any rfl (AnyS.le (.same rfl (.same rfl (.same rfl (.same rfl (.same rfl (.same rfl (.same rfl (.same rfl (.same rfl (.same rfl (.same rfl (.same rfl (.same rfl (.same rfl (.same rfl (.same rfl (.same rfl (.same rfl (.same rfl (.same rfl (.same rfl (.same rfl (.same rfl (.same rfl (.same rfl (.same rfl (.same rfl (.same rfl (.same rfl .nil))))))))))))))))))))))))))))) (S1_20 ()))
      refine AnyS.cut (γ := Unit) 6 (Array.mk (true :: true :: true :: true :: true :: true :: true :: false :: false :: true :: true :: false :: false :: false :: false :: [])) (fun gS1_16 => [(0, VP.of (x0)), (1, VP.of (x1)), (2, VP.of (x2)), (3, VP.of (x3)), (8, VP.of (false)), (9, VP.eq (.pointer (some ⟨p1, 0, none⟩))), (10, VP.eq (.pointer (some ⟨q3, 0, none⟩))), (11, VP.eq (.pointer (some ⟨gS0_8.1.1, 0, none⟩))), (12, VP.eq (.pointer (some ⟨gS0_8.2.1, 0, none⟩))), (13, VP.of (e1.1)), (14, VP.of (y6.2.1)), (21, VP.of (e3.1)), (47, VP.of (!y6.2.1)), (52, VP.of (y7)), (53, VP.of (y7.length : Int)), (54, VP.of (e1.2.1)), (55, VP.of (e1.2.2.1)), (91, VP.of (e3.2.1)), (100, VP.eq (.pointer (some ⟨gS0_8.1.1, 0, none⟩))), (101, VP.of (y12)), (102, VP.eq (.pointer (some ⟨gS0_8.2.1, 0, none⟩))), (103, VP.of (y13)), (104, VP.of (y14)), (105, VP.of (!y14)), (106, VP.of (!y14)), (109, VP.cond ((!y14) = false) (VP.of (y2.1))), (110, VP.cond ((!y14) = false) (VP.of (e1.1)))]) (fun gS1_16 => [⟨some gS0_8.1.1, .varX (({ e1.2.2.2.1 with f_l := [] } : T_ordered_List) : T_ordered_List) [(10, slv g1.1 e1.2.2.2.2.length g1.2)]⟩, ⟨g1.1, .row 92 (e1.2.2.2.2 : List T_api_Installed) g1.2⟩, ⟨some q3, .var (y6.2.2.2 : T_mcase_Codes)⟩, ⟨some gS0_8.2.1, .varX (({ e3.2.2.1 with f_l := [] } : T_ordered_List) : T_ordered_List) [(10, slv g4.1 e3.2.2.2.length g4.2)]⟩, ⟨g4.1, .row 92 (e3.2.2.2 : List T_api_Installed) g4.2⟩, ⟨some p1, .var (y2.1 : T_api_Schema)⟩, ⟨some q1, .var (y2.2 : T_mcase_Codes)⟩]) (fun gS1_16 => ?_) (fun S1_16 => ?_)
      ·clear h
       refine AnyS.step [7] (by kernel_rfl) rfl ⟨⟨_, rfl, ?_⟩, trivial⟩
       ·refine Qg1 r_move ?_
        refine Sq.nil ?_
        exact To.any rfl (AnyS.le (.same rfl (.same rfl (.same rfl (.same rfl (.same rfl (.same rfl (.same rfl (.same rfl (.same rfl (.same rfl (.same rfl (.same rfl (.same rfl (.same rfl (.same rfl (.same rfl (.same rfl (.same rfl (.same rfl (.same rfl (.same rfl (.same rfl (.same rfl (.same rfl (.same rfl (.same rfl (.same rfl (.same rfl .nil)))))))))))))))))))))))))))) (S1_19 ()))
      refine AnyS.cut (γ := Unit) 6 (Array.mk (true :: true :: true :: true :: true :: true :: true :: true :: false :: false :: true :: false :: false :: false :: false :: [])) (fun gS1_15 => [(0, VP.of (x0)), (1, VP.of (x1)), (2, VP.of (x2)), (3, VP.of (x3)), (8, VP.of (false)), (9, VP.eq (.pointer (some ⟨p1, 0, none⟩))), (10, VP.eq (.pointer (some ⟨q3, 0, none⟩))), (11, VP.eq (.pointer (some ⟨gS0_8.1.1, 0, none⟩))), (12, VP.eq (.pointer (some ⟨gS0_8.2.1, 0, none⟩))), (13, VP.of (e1.1)), (14, VP.of (y6.2.1)), (21, VP.of (e3.1)), (47, VP.of (!y6.2.1)), (52, VP.of (y7)), (53, VP.of (y7.length : Int)), (54, VP.of (e1.2.1)), (55, VP.of (e1.2.2.1)), (91, VP.of (e3.2.1)), (100, VP.eq (.pointer (some ⟨gS0_8.1.1, 0, none⟩))), (101, VP.of (y12)), (102, VP.eq (.pointer (some ⟨gS0_8.2.1, 0, none⟩))), (103, VP.of (y13)), (104, VP.of (y14)), (105, VP.of (!y14)), (106, VP.of (!y14)), (107, VP.cond ((!y14) = false) (VP.eq (.pointer (some ⟨gS0_8.1.1, 0, none⟩)))), (110, VP.cond ((!y14) = false) (VP.of (e1.1)))]) (fun gS1_15 => [⟨some gS0_8.1.1, .varX (({ e1.2.2.2.1 with f_l := [] } : T_ordered_List) : T_ordered_List) [(10, slv g1.1 e1.2.2.2.2.length g1.2)]⟩, ⟨g1.1, .row 92 (e1.2.2.2.2 : List T_api_Installed) g1.2⟩, ⟨some q3, .var (y6.2.2.2 : T_mcase_Codes)⟩, ⟨some gS0_8.2.1, .varX (({ e3.2.2.1 with f_l := [] } : T_ordered_List) : T_ordered_List) [(10, slv g4.1 e3.2.2.2.length g4.2)]⟩, ⟨g4.1, .row 92 (e3.2.2.2 : List T_api_Installed) g4.2⟩, ⟨some p1, .var (y2.1 : T_api_Schema)⟩, ⟨some q1, .var (y2.2 : T_mcase_Codes)⟩]) (fun gS1_15 => ?_) (fun S1_15 => ?_)
      ·clear h
       refine AnyS.step [8, 9] (by kernel_rfl) rfl ⟨⟨_, rfl, ?_⟩, ⟨_, rfl, ?_⟩, trivial⟩
       ·refine Sq.gS (fun hb => HS.call [0, 1] en44 (Ch0_1_ordered_List_All (condM_some hy15 hb)) ⟨look_tc rfl hb, trivial⟩ rfl ⟨rfl, rfl, trivial⟩ rfl) rfl rfl rfl rfl rfl ?_
        refine Sq.nil ?_
        exact To.any rfl (AnyS.le (.same rfl (.same rfl (.same rfl (.same rfl (.same rfl (.same rfl (.same rfl (.same rfl (.same rfl (.same rfl (.same rfl (.same rfl (.same rfl (.same rfl (.same rfl (.same rfl (.same rfl (.same rfl (.same rfl (.same rfl (.same rfl (.same rfl (.same rfl (.same rfl (.same rfl (.same rfl (.same rfl (.same rfl .nil)))))))))))))))))))))))))))) (S1_18 ()))
       ·refine Qg (fun hb => r_load (i := 5) (Lens.id T_api_Schema) (r := y2.1) ty33 (look_t rfl) rfl rfl rfl) ?_
        refine Sq.nil ?_
        exact To.any rfl (AnyS.le (.same rfl (.same rfl (.same rfl (.same rfl (.same rfl (.same rfl (.same rfl (.same rfl (.same rfl (.same rfl (.same rfl (.same rfl (.same rfl (.same rfl (.same rfl (.same rfl (.same rfl (.same rfl (.same rfl (.same rfl (.same rfl (.same rfl (.same rfl (.same rfl (.same rfl (.same rfl (.same rfl (.same rfl .nil)))))))))))))))))))))))))))) (S1_19 ()))
      refine AnyS.cut (γ := Unit) 6 (Array.mk (true :: true :: true :: true :: true :: true :: true :: true :: false :: true :: false :: false :: false :: false :: false :: [])) (fun gS1_14 => [(0, VP.of (x0)), (1, VP.of (x1)), (2, VP.of (x2)), (3, VP.of (x3)), (8, VP.of (false)), (9, VP.eq (.pointer (some ⟨p1, 0, none⟩))), (10, VP.eq (.pointer (some ⟨q3, 0, none⟩))), (11, VP.eq (.pointer (some ⟨gS0_8.1.1, 0, none⟩))), (12, VP.eq (.pointer (some ⟨gS0_8.2.1, 0, none⟩))), (13, VP.of (e1.1)), (14, VP.of (y6.2.1)), (21, VP.of (e3.1)), (47, VP.of (!y6.2.1)), (52, VP.of (y7)), (53, VP.of (y7.length : Int)), (54, VP.of (e1.2.1)), (55, VP.of (e1.2.2.1)), (91, VP.of (e3.2.1)), (100, VP.eq (.pointer (some ⟨gS0_8.1.1, 0, none⟩))), (101, VP.of (y12)), (102, VP.eq (.pointer (some ⟨gS0_8.2.1, 0, none⟩))), (103, VP.of (y13)), (104, VP.of (y14)), (105, VP.of (!y14)), (106, VP.of (!y14)), (107, VP.cond ((!y14) = false) (VP.eq (.pointer (some ⟨gS0_8.1.1, 0, none⟩)))), (109, VP.cond ((!y14) = false) (VP.of (y2.1)))]) (fun gS1_14 => [⟨some gS0_8.1.1, .varX (({ e1.2.2.2.1 with f_l := [] } : T_ordered_List) : T_ordered_List) [(10, slv g1.1 e1.2.2.2.2.length g1.2)]⟩, ⟨g1.1, .row 92 (e1.2.2.2.2 : List T_api_Installed) g1.2⟩, ⟨some q3, .var (y6.2.2.2 : T_mcase_Codes)⟩, ⟨some gS0_8.2.1, .varX (({ e3.2.2.1 with f_l := [] } : T_ordered_List) : T_ordered_List) [(10, slv g4.1 e3.2.2.2.length g4.2)]⟩, ⟨g4.1, .row 92 (e3.2.2.2 : List T_api_Installed) g4.2⟩, ⟨some p1, .var (y2.1 : T_api_Schema)⟩, ⟨some q1, .var (y2.2 : T_mcase_Codes)⟩]) (fun gS1_14 => ?_) (fun S1_14 => ?_)
      ·clear h
       refine AnyS.step [8, 10] (by kernel_rfl) rfl ⟨⟨_, rfl, ?_⟩, ⟨_, rfl, ?_⟩, trivial⟩
       ·refine Sq.gS (fun hb => HS.call [0, 1] en44 (Ch0_1_ordered_List_All (condM_some hy15 hb)) ⟨look_tc rfl hb, trivial⟩ rfl ⟨rfl, rfl, trivial⟩ rfl) rfl rfl rfl rfl rfl ?_
        refine Sq.nil ?_
        exact To.any rfl (AnyS.le (.same rfl (.same rfl (.same rfl (.same rfl (.same rfl (.same rfl (.same rfl (.same rfl (.same rfl (.same rfl (.same rfl (.same rfl (.same rfl (.same rfl (.same rfl (.same rfl (.same rfl (.same rfl (.same rfl (.same rfl (.same rfl (.same rfl (.same rfl (.same rfl (.same rfl (.same rfl (.same rfl (.same rfl .nil)))))))))))))))))))))))))))) (S1_17 ()))
       ·refine Qg1 r_move ?_
        refine Sq.nil ?_
        exact To.any rfl (AnyS.le (.same rfl (.same rfl (.same rfl (.same rfl (.same rfl (.same rfl (.same rfl (.same rfl (.same rfl (.same rfl (.same rfl (.same rfl (.same rfl (.same rfl (.same rfl (.same rfl (.same rfl (.same rfl (.same rfl (.same rfl (.same rfl (.same rfl (.same rfl (.same rfl (.same rfl (.same rfl (.same rfl (.same rfl .nil)))))))))))))))))))))))))))) (S1_19 ()))
      refine AnyS.cut (γ := Unit) 6 (Array.mk (true :: true :: true :: true :: true :: true :: true :: true :: true :: false :: false :: false :: false :: false :: false :: [])) (fun gS1_13 => [(0, VP.of (x0)), (1, VP.of (x1)), (2, VP.of (x2)), (3, VP.of (x3)), (8, VP.of (false)), (9, VP.eq (.pointer (some ⟨p1, 0, none⟩))), (10, VP.eq (.pointer (some ⟨q3, 0, none⟩))), (11, VP.eq (.pointer (some ⟨gS0_8.1.1, 0, none⟩))), (12, VP.eq (.pointer (some ⟨gS0_8.2.1, 0, none⟩))), (13, VP.of (e1.1)), (14, VP.of (y6.2.1)), (21, VP.of (e3.1)), (47, VP.of (!y6.2.1)), (52, VP.of (y7)), (53, VP.of (y7.length : Int)), (54, VP.of (e1.2.1)), (55, VP.of (e1.2.2.1)), (91, VP.of (e3.2.1)), (100, VP.eq (.pointer (some ⟨gS0_8.1.1, 0, none⟩))), (101, VP.of (y12)), (102, VP.eq (.pointer (some ⟨gS0_8.2.1, 0, none⟩))), (103, VP.of (y13)), (104, VP.of (y14)), (105, VP.of (!y14)), (106, VP.of (!y14)), (107, VP.cond ((!y14) = false) (VP.eq (.pointer (some ⟨gS0_8.1.1, 0, none⟩)))), (108, VP.cond ((!y14) = false) (VP.of (y15)))]) (fun gS1_13 => [⟨some gS0_8.1.1, .varX (({ e1.2.2.2.1 with f_l := [] } : T_ordered_List) : T_ordered_List) [(10, slv g1.1 e1.2.2.2.2.length g1.2)]⟩, ⟨g1.1, .row 92 (e1.2.2.2.2 : List T_api_Installed) g1.2⟩, ⟨some q3, .var (y6.2.2.2 : T_mcase_Codes)⟩, ⟨some gS0_8.2.1, .varX (({ e3.2.2.1 with f_l := [] } : T_ordered_List) : T_ordered_List) [(10, slv g4.1 e3.2.2.2.length g4.2)]⟩, ⟨g4.1, .row 92 (e3.2.2.2 : List T_api_Installed) g4.2⟩, ⟨some p1, .var (y2.1 : T_api_Schema)⟩, ⟨some q1, .var (y2.2 : T_mcase_Codes)⟩]) (fun gS1_13 => ?_) (fun S1_13 => ?_)
      ·clear h
       refine AnyS.step [9, 10] (by kernel_rfl) rfl ⟨⟨_, rfl, ?_⟩, ⟨_, rfl, ?_⟩, trivial⟩
       ·refine Qg (fun hb => r_load (i := 5) (Lens.id T_api_Schema) (r := y2.1) ty33 (look_t rfl) rfl rfl rfl) ?_
        refine Sq.nil ?_
        exact To.any rfl (AnyS.le (.same rfl (.same rfl (.same rfl (.same rfl (.same rfl (.same rfl (.same rfl (.same rfl (.same rfl (.same rfl (.same rfl (.same rfl (.same rfl (.same rfl (.same rfl (.same rfl (.same rfl (.same rfl (.same rfl (.same rfl (.same rfl (.same rfl (.same rfl (.same rfl (.same rfl (.same rfl (.same rfl (.same rfl .nil)))))))))))))))))))))))))))) (S1_17 ()))
       ·refine Qg1 r_move ?_
        refine Sq.nil ?_
        exact To.any rfl (AnyS.le (.same rfl (.same rfl (.same rfl (.same rfl (.same rfl (.same rfl (.same rfl (.same rfl (.same rfl (.same rfl (.same rfl (.same rfl (.same rfl (.same rfl (.same rfl (.same rfl (.same rfl (.same rfl (.same rfl (.same rfl (.same rfl (.same rfl (.same rfl (.same rfl (.same rfl (.same rfl (.same rfl (.same rfl .nil)))))))))))))))))))))))))))) (S1_18 ()))
      refine AnyS.cut (γ := Unit) 7 (Array.mk (true :: true :: true :: true :: true :: true :: true :: false :: false :: false :: true :: false :: false :: false :: false :: [])) (fun gS1_12 => [(0, VP.of (x0)), (1, VP.of (x1)), (2, VP.of (x2)), (3, VP.of (x3)), (8, VP.of (false)), (9, VP.eq (.pointer (some ⟨p1, 0, none⟩))), (10, VP.eq (.pointer (some ⟨q3, 0, none⟩))), (11, VP.eq (.pointer (some ⟨gS0_8.1.1, 0, none⟩))), (12, VP.eq (.pointer (some ⟨gS0_8.2.1, 0, none⟩))), (13, VP.of (e1.1)), (14, VP.of (y6.2.1)), (21, VP.of (e3.1)), (47, VP.of (!y6.2.1)), (52, VP.of (y7)), (53, VP.of (y7.length : Int)), (54, VP.of (e1.2.1)), (55, VP.of (e1.2.2.1)), (91, VP.of (e3.2.1)), (100, VP.eq (.pointer (some ⟨gS0_8.1.1, 0, none⟩))), (101, VP.of (y12)), (102, VP.eq (.pointer (some ⟨gS0_8.2.1, 0, none⟩))), (103, VP.of (y13)), (104, VP.of (y14)), (105, VP.of (!y14)), (106, VP.of (!y14)), (110, VP.cond ((!y14) = false) (VP.of (e1.1)))]) (fun gS1_12 => [⟨some gS0_8.1.1, .varX (({ e1.2.2.2.1 with f_l := [] } : T_ordered_List) : T_ordered_List) [(10, slv g1.1 e1.2.2.2.2.length g1.2)]⟩, ⟨g1.1, .row 92 (e1.2.2.2.2 : List T_api_Installed) g1.2⟩, ⟨some q3, .var (y6.2.2.2 : T_mcase_Codes)⟩, ⟨some gS0_8.2.1, .varX (({ e3.2.2.1 with f_l := [] } : T_ordered_List) : T_ordered_List) [(10, slv g4.1 e3.2.2.2.length g4.2)]⟩, ⟨g4.1, .row 92 (e3.2.2.2 : List T_api_Installed) g4.2⟩, ⟨some p1, .var (y2.1 : T_api_Schema)⟩, ⟨some q1, .var (y2.2 : T_mcase_Codes)⟩]) (fun gS1_12 => ?_) (fun S1_12 => ?_)
      ·clear h
       refine AnyS.step [7, 9] (by kernel_rfl) rfl ⟨⟨_, rfl, ?_⟩, ⟨_, rfl, ?_⟩, trivial⟩
       ·refine Qg1 r_move ?_
        refine Sq.nil ?_
        exact To.any rfl (AnyS.le (.same rfl (.same rfl (.same rfl (.same rfl (.same rfl (.same rfl (.same rfl (.same rfl (.same rfl (.same rfl (.same rfl (.same rfl (.same rfl (.same rfl (.same rfl (.same rfl (.same rfl (.same rfl (.same rfl (.same rfl (.same rfl (.same rfl (.same rfl (.same rfl (.same rfl (.same rfl (.same rfl .nil))))))))))))))))))))))))))) (S1_15 ()))
       ·refine Qg (fun hb => r_load (i := 5) (Lens.id T_api_Schema) (r := y2.1) ty33 (look_t rfl) rfl rfl rfl) ?_
        refine Sq.nil ?_
        exact To.any rfl (AnyS.le (.same rfl (.same rfl (.same rfl (.same rfl (.same rfl (.same rfl (.same rfl (.same rfl (.same rfl (.same rfl (.same rfl (.same rfl (.same rfl (.same rfl (.same rfl (.same rfl (.same rfl (.same rfl (.same rfl (.same rfl (.same rfl (.same rfl (.same rfl (.same rfl (.same rfl (.same rfl (.same rfl .nil))))))))))))))))))))))))))) (S1_16 ()))
      refine AnyS.cut (γ := Unit) 7 (Array.mk (true :: true :: true :: true :: true :: true :: true :: false :: false :: true :: false :: false :: false :: false :: false :: [])) (fun gS1_11 => [(0, VP.of (x0)), (1, VP.of (x1)), (2, VP.of (x2)), (3, VP.of (x3)), (8, VP.of (false)), (9, VP.eq (.pointer (some ⟨p1, 0, none⟩))), (10, VP.eq (.pointer (some ⟨q3, 0, none⟩))), (11, VP.eq (.pointer (some ⟨gS0_8.1.1, 0, none⟩))), (12, VP.eq (.pointer (some ⟨gS0_8.2.1, 0, none⟩))), (13, VP.of (e1.1)), (14, VP.of (y6.2.1)), (21, VP.of (e3.1)), (47, VP.of (!y6.2.1)), (52, VP.of (y7)), (53, VP.of (y7.length : Int)), (54, VP.of (e1.2.1)), (55, VP.of (e1.2.2.1)), (91, VP.of (e3.2.1)), (100, VP.eq (.pointer (some ⟨gS0_8.1.1, 0, none⟩))), (101, VP.of (y12)), (102, VP.eq (.pointer (some ⟨gS0_8.2.1, 0, none⟩))), (103, VP.of (y13)), (104, VP.of (y14)), (105, VP.of (!y14)), (106, VP.of (!y14)), (109, VP.cond ((!y14) = false) (VP.of (y2.1)))]) (fun gS1_11 => [⟨some gS0_8.1.1, .varX (({ e1.2.2.2.1 with f_l := [] } : T_ordered_List) : T_ordered_List) [(10, slv g1.1 e1.2.2.2.2.length g1.2)]⟩, ⟨g1.1, .row 92 (e1.2.2.2.2 : List T_api_Installed) g1.2⟩, ⟨some q3, .var (y6.2.2.2 : T_mcase_Codes)⟩, ⟨some gS0_8.2.1, .varX (({ e3.2.2.1 with f_l := [] } : T_ordered_List) : T_ordered_List) [(10, slv g4.1 e3.2.2.2.length g4.2)]⟩, ⟨g4.1, .row 92 (e3.2.2.2 : List T_api_Installed) g4.2⟩, ⟨some p1, .var (y2.1 : T_api_Schema)⟩, ⟨some q1, .var (y2.2 : T_mcase_Codes)⟩]) (fun gS1_11 => ?_) (fun S1_11 => ?_)
      ·clear h
       refine AnyS.step [7, 10] (by kernel_rfl) rfl ⟨⟨_, rfl, ?_⟩, ⟨_, rfl, ?_⟩, trivial⟩
       ·refine Qg1 r_move ?_
        refine Sq.nil ?_
        exact To.any rfl (AnyS.le (.same rfl (.same rfl (.same rfl (.same rfl (.same rfl (.same rfl (.same rfl (.same rfl (.same rfl (.same rfl (.same rfl (.same rfl (.same rfl (.same rfl (.same rfl (.same rfl (.same rfl (.same rfl (.same rfl (.same rfl (.same rfl (.same rfl (.same rfl (.same rfl (.same rfl (.same rfl (.same rfl .nil))))))))))))))))))))))))))) (S1_14 ()))
       ·refine Qg1 r_move ?_
        refine Sq.nil ?_
        exact To.any rfl (AnyS.le (.same rfl (.same rfl (.same rfl (.same rfl (.same rfl (.same rfl (.same rfl (.same rfl (.same rfl (.same rfl (.same rfl (.same rfl (.same rfl (.same rfl (.same rfl (.same rfl (.same rfl (.same rfl (.same rfl (.same rfl (.same rfl (.same rfl (.same rfl (.same rfl (.same rfl (.same rfl (.same rfl .nil))))))))))))))))))))))))))) (S1_16 ()))
      refine AnyS.cut (γ := Unit) 7 (Array.mk (true :: true :: true :: true :: true :: true :: true :: true :: false :: false :: false :: false :: false :: false :: false :: [])) (fun gS1_10 => [(0, VP.of (x0)), (1, VP.of (x1)), (2, VP.of (x2)), (3, VP.of (x3)), (8, VP.of (false)), (9, VP.eq (.pointer (some ⟨p1, 0, none⟩))), (10, VP.eq (.pointer (some ⟨q3, 0, none⟩))), (11, VP.eq (.pointer (some ⟨gS0_8.1.1, 0, none⟩))), (12, VP.eq (.pointer (some ⟨gS0_8.2.1, 0, none⟩))), (13, VP.of (e1.1)), (14, VP.of (y6.2.1)), (21, VP.of (e3.1)), (47, VP.of (!y6.2.1)), (52, VP.of (y7)), (53, VP.of (y7.length : Int)), (54, VP.of (e1.2.1)), (55, VP.of (e1.2.2.1)), (91, VP.of (e3.2.1)), (100, VP.eq (.pointer (some ⟨gS0_8.1.1, 0, none⟩))), (101, VP.of (y12)), (102, VP.eq (.pointer (some ⟨gS0_8.2.1, 0, none⟩))), (103, VP.of (y13)), (104, VP.of (y14)), (105, VP.of (!y14)), (106, VP.of (!y14)), (107, VP.cond ((!y14) = false) (VP.eq (.pointer (some ⟨gS0_8.1.1, 0, none⟩))))]) (fun gS1_10 => [⟨some gS0_8.1.1, .varX (({ e1.2.2.2.1 with f_l := [] } : T_ordered_List) : T_ordered_List) [(10, slv g1.1 e1.2.2.2.2.length g1.2)]⟩, ⟨g1.1, .row 92 (e1.2.2.2.2 : List T_api_Installed) g1.2⟩, ⟨some q3, .var (y6.2.2.2 : T_mcase_Codes)⟩, ⟨some gS0_8.2.1, .varX (({ e3.2.2.1 with f_l := [] } : T_ordered_List) : T_ordered_List) [(10, slv g4.1 e3.2.2.2.length g4.2)]⟩, ⟨g4.1, .row 92 (e3.2.2.2 : List T_api_Installed) g4.2⟩, ⟨some p1, .var (y2.1 : T_api_Schema)⟩, ⟨some q1, .var (y2.2 : T_mcase_Codes)⟩]) (fun gS1_10 => ?_) (fun S1_10 => ?_)
      ·clear h
       refine AnyS.step [8, 9, 10] (by kernel_rfl) rfl ⟨⟨_, rfl, ?_⟩, ⟨_, rfl, ?_⟩, ⟨_, rfl, ?_⟩, trivial⟩
       ·refine Sq.gS (fun hb => HS.call [0, 1] en44 (Ch0_1_ordered_List_All (condM_some hy15 hb)) ⟨look_tc rfl hb, trivial⟩ rfl ⟨rfl, rfl, trivial⟩ rfl) rfl rfl rfl rfl rfl ?_
        refine Sq.nil ?_
        exact To.any rfl (AnyS.le (.same rfl (.same rfl (.same rfl (.same rfl (.same rfl (.same rfl (.same rfl (.same rfl (.same rfl (.same rfl (.same rfl (.same rfl (.same rfl (.same rfl (.same rfl (.same rfl (.same rfl (.same rfl (.same rfl (.same rfl (.same rfl (.same rfl (.same rfl (.same rfl (.same rfl (.same rfl (.same rfl .nil))))))))))))))))))))))))))) (S1_13 ()))
       ·refine Qg (fun hb => r_load (i := 5) (Lens.id T_api_Schema) (r := y2.1) ty33 (look_t rfl) rfl rfl rfl) ?_
        refine Sq.nil ?_
        exact To.any rfl (AnyS.le (.same rfl (.same rfl (.same rfl (.same rfl (.same rfl (.same rfl (.same rfl (.same rfl (.same rfl (.same rfl (.same rfl (.same rfl (.same rfl (.same rfl (.same rfl (.same rfl (.same rfl (.same rfl (.same rfl (.same rfl (.same rfl (.same rfl (.same rfl (.same rfl (.same rfl (.same rfl (.same rfl .nil))))))))))))))))))))))))))) (S1_14 ()))
       ·refine Qg1 r_move ?_
        refine Sq.nil ?_
        exact To.any rfl (AnyS.le (.same rfl (.same rfl (.same rfl (.same rfl (.same rfl (.same rfl (.same rfl (.same rfl (.same rfl (.same rfl (.same rfl (.same rfl (.same rfl (.same rfl (.same rfl (.same rfl (.same rfl (.same rfl (.same rfl (.same rfl (.same rfl (.same rfl (.same rfl (.same rfl (.same rfl (.same rfl (.same rfl .nil))))))))))))))))))))))))))) (S1_15 ()))
      refine AnyS.cut (γ := Unit) 8 (Array.mk (true :: true :: true :: true :: true :: true :: true :: false :: false :: false :: false :: false :: false :: false :: false :: [])) (fun gS1_9 => [(0, VP.of (x0)), (1, VP.of (x1)), (2, VP.of (x2)), (3, VP.of (x3)), (8, VP.of (false)), (9, VP.eq (.pointer (some ⟨p1, 0, none⟩))), (10, VP.eq (.pointer (some ⟨q3, 0, none⟩))), (11, VP.eq (.pointer (some ⟨gS0_8.1.1, 0, none⟩))), (12, VP.eq (.pointer (some ⟨gS0_8.2.1, 0, none⟩))), (13, VP.of (e1.1)), (14, VP.of (y6.2.1)), (21, VP.of (e3.1)), (47, VP.of (!y6.2.1)), (52, VP.of (y7)), (53, VP.of (y7.length : Int)), (54, VP.of (e1.2.1)), (55, VP.of (e1.2.2.1)), (91, VP.of (e3.2.1)), (100, VP.eq (.pointer (some ⟨gS0_8.1.1, 0, none⟩))), (101, VP.of (y12)), (102, VP.eq (.pointer (some ⟨gS0_8.2.1, 0, none⟩))), (103, VP.of (y13)), (104, VP.of (y14)), (105, VP.of (!y14)), (106, VP.of (!y14))]) (fun gS1_9 => [⟨some gS0_8.1.1, .varX (({ e1.2.2.2.1 with f_l := [] } : T_ordered_List) : T_ordered_List) [(10, slv g1.1 e1.2.2.2.2.length g1.2)]⟩, ⟨g1.1, .row 92 (e1.2.2.2.2 : List T_api_Installed) g1.2⟩, ⟨some q3, .var (y6.2.2.2 : T_mcase_Codes)⟩, ⟨some gS0_8.2.1, .varX (({ e3.2.2.1 with f_l := [] } : T_ordered_List) : T_ordered_List) [(10, slv g4.1 e3.2.2.2.length g4.2)]⟩, ⟨g4.1, .row 92 (e3.2.2.2 : List T_api_Installed) g4.2⟩, ⟨some p1, .var (y2.1 : T_api_Schema)⟩, ⟨some q1, .var (y2.2 : T_mcase_Codes)⟩]) (fun gS1_9 => ?_) (fun S1_9 => ?_)
      ·clear h
       refine AnyS.step [7, 9, 10] (by kernel_rfl) rfl ⟨⟨_, rfl, ?_⟩, ⟨_, rfl, ?_⟩, ⟨_, rfl, ?_⟩, trivial⟩
       ·refine Qg1 r_move ?_
        refine Sq.nil ?_
        exact To.any rfl (AnyS.le (.same rfl (.same rfl (.same rfl (.same rfl (.same rfl (.same rfl (.same rfl (.same rfl (.same rfl (.same rfl (.same rfl (.same rfl (.same rfl (.same rfl (.same rfl (.same rfl (.same rfl (.same rfl (.same rfl (.same rfl (.same rfl (.same rfl (.same rfl (.same rfl (.same rfl (.same rfl .nil)))))))))))))))))))))))))) (S1_10 ()))
       ·refine Qg (fun hb => r_load (i := 5) (Lens.id T_api_Schema) (r := y2.1) ty33 (look_t rfl) rfl rfl rfl) ?_
        refine Sq.nil ?_
        exact To.any rfl (AnyS.le (.same rfl (.same rfl (.same rfl (.same rfl (.same rfl (.same rfl (.same rfl (.same rfl (.same rfl (.same rfl (.same rfl (.same rfl (.same rfl (.same rfl (.same rfl (.same rfl (.same rfl (.same rfl (.same rfl (.same rfl (.same rfl (.same rfl (.same rfl (.same rfl (.same rfl (.same rfl .nil)))))))))))))))))))))))))) (S1_11 ()))
       ·refine Qg1 r_move ?_
        refine Sq.nil ?_
        exact To.any rfl (AnyS.le (.same rfl (.same rfl (.same rfl (.same rfl (.same rfl (.same rfl (.same rfl (.same rfl (.same rfl (.same rfl (.same rfl (.same rfl (.same rfl (.same rfl (.same rfl (.same rfl (.same rfl (.same rfl (.same rfl (.same rfl (.same rfl (.same rfl (.same rfl (.same rfl (.same rfl (.same rfl .nil)))))))))))))))))))))))))) (S1_12 ()))
      refine AnyS.cut (γ := Unit) 9 (Array.mk (true :: true :: true :: true :: true :: true :: false :: false :: false :: false :: false :: false :: false :: false :: false :: [])) (fun gS1_8 => [(0, VP.of (x0)), (1, VP.of (x1)), (2, VP.of (x2)), (3, VP.of (x3)), (8, VP.of (false)), (9, VP.eq (.pointer (some ⟨p1, 0, none⟩))), (10, VP.eq (.pointer (some ⟨q3, 0, none⟩))), (11, VP.eq (.pointer (some ⟨gS0_8.1.1, 0, none⟩))), (12, VP.eq (.pointer (some ⟨gS0_8.2.1, 0, none⟩))), (13, VP.of (e1.1)), (14, VP.of (y6.2.1)), (21, VP.of (e3.1)), (47, VP.of (!y6.2.1)), (52, VP.of (y7)), (53, VP.of (y7.length : Int)), (54, VP.of (e1.2.1)), (55, VP.of (e1.2.2.1)), (91, VP.of (e3.2.1)), (100, VP.eq (.pointer (some ⟨gS0_8.1.1, 0, none⟩))), (101, VP.of (y12)), (102, VP.eq (.pointer (some ⟨gS0_8.2.1, 0, none⟩))), (103, VP.of (y13)), (104, VP.of (y14)), (105, VP.of (!y14))]) (fun gS1_8 => [⟨some gS0_8.1.1, .varX (({ e1.2.2.2.1 with f_l := [] } : T_ordered_List) : T_ordered_List) [(10, slv g1.1 e1.2.2.2.2.length g1.2)]⟩, ⟨g1.1, .row 92 (e1.2.2.2.2 : List T_api_Installed) g1.2⟩, ⟨some q3, .var (y6.2.2.2 : T_mcase_Codes)⟩, ⟨some gS0_8.2.1, .varX (({ e3.2.2.1 with f_l := [] } : T_ordered_List) : T_ordered_List) [(10, slv g4.1 e3.2.2.2.length g4.2)]⟩, ⟨g4.1, .row 92 (e3.2.2.2 : List T_api_Installed) g4.2⟩, ⟨some p1, .var (y2.1 : T_api_Schema)⟩, ⟨some q1, .var (y2.2 : T_mcase_Codes)⟩]) (fun gS1_8 => ?_) (fun S1_8 => ?_)
      ·clear h
       refine AnyS.step [6] (by kernel_rfl) rfl ⟨⟨_, rfl, ?_⟩, trivial⟩
       ·refine Qm ?_
        refine Sq.nil ?_
        exact To.any rfl (AnyS.le (.same rfl (.same rfl (.same rfl (.same rfl (.same rfl (.same rfl (.same rfl (.same rfl (.same rfl (.same rfl (.same rfl (.same rfl (.same rfl (.same rfl (.same rfl (.same rfl (.same rfl (.same rfl (.same rfl (.same rfl (.same rfl (.same rfl (.same rfl (.same rfl (.same rfl .nil))))))))))))))))))))))))) (S1_9 ()))
      refine AnyS.cut (γ := Unit) 10 (Array.mk (true :: true :: true :: true :: true :: false :: false :: false :: false :: false :: false :: false :: false :: false :: false :: [])) (fun gS1_7 => [(0, VP.of (x0)), (1, VP.of (x1)), (2, VP.of (x2)), (3, VP.of (x3)), (8, VP.of (false)), (9, VP.eq (.pointer (some ⟨p1, 0, none⟩))), (10, VP.eq (.pointer (some ⟨q3, 0, none⟩))), (11, VP.eq (.pointer (some ⟨gS0_8.1.1, 0, none⟩))), (12, VP.eq (.pointer (some ⟨gS0_8.2.1, 0, none⟩))), (13, VP.of (e1.1)), (14, VP.of (y6.2.1)), (21, VP.of (e3.1)), (47, VP.of (!y6.2.1)), (52, VP.of (y7)), (53, VP.of (y7.length : Int)), (54, VP.of (e1.2.1)), (55, VP.of (e1.2.2.1)), (91, VP.of (e3.2.1)), (100, VP.eq (.pointer (some ⟨gS0_8.1.1, 0, none⟩))), (101, VP.of (y12)), (102, VP.eq (.pointer (some ⟨gS0_8.2.1, 0, none⟩))), (103, VP.of (y13)), (104, VP.of (y14))]) (fun gS1_7 => [⟨some gS0_8.1.1, .varX (({ e1.2.2.2.1 with f_l := [] } : T_ordered_List) : T_ordered_List) [(10, slv g1.1 e1.2.2.2.2.length g1.2)]⟩, ⟨g1.1, .row 92 (e1.2.2.2.2 : List T_api_Installed) g1.2⟩, ⟨some q3, .var (y6.2.2.2 : T_mcase_Codes)⟩, ⟨some gS0_8.2.1, .varX (({ e3.2.2.1 with f_l := [] } : T_ordered_List) : T_ordered_List) [(10, slv g4.1 e3.2.2.2.length g4.2)]⟩, ⟨g4.1, .row 92 (e3.2.2.2 : List T_api_Installed) g4.2⟩, ⟨some p1, .var (y2.1 : T_api_Schema)⟩, ⟨some q1, .var (y2.2 : T_mcase_Codes)⟩]) (fun gS1_7 => ?_) (fun S1_7 => ?_)
      ·clear h
       refine AnyS.step [5] (by kernel_rfl) rfl ⟨⟨_, rfl, ?_⟩, trivial⟩
       ·refine Q1 r_not ?_
        refine Sq.nil ?_
        exact To.any rfl (AnyS.le (.same rfl (.same rfl (.same rfl (.same rfl (.same rfl (.same rfl (.same rfl (.same rfl (.same rfl (.same rfl (.same rfl (.same rfl (.same rfl (.same rfl (.same rfl (.same rfl (.same rfl (.same rfl (.same rfl (.same rfl (.same rfl (.same rfl (.same rfl (.same rfl .nil)))))))))))))))))))))))) (S1_8 ()))
      refine AnyS.cut (γ := Unit) 11 (Array.mk (true :: true :: true :: true :: false :: false :: false :: false :: false :: false :: false :: false :: false :: false :: false :: [])) (fun gS1_6 => [(0, VP.of (x0)), (1, VP.of (x1)), (2, VP.of (x2)), (3, VP.of (x3)), (8, VP.of (false)), (9, VP.eq (.pointer (some ⟨p1, 0, none⟩))), (10, VP.eq (.pointer (some ⟨q3, 0, none⟩))), (11, VP.eq (.pointer (some ⟨gS0_8.1.1, 0, none⟩))), (12, VP.eq (.pointer (some ⟨gS0_8.2.1, 0, none⟩))), (13, VP.of (e1.1)), (14, VP.of (y6.2.1)), (21, VP.of (e3.1)), (47, VP.of (!y6.2.1)), (52, VP.of (y7)), (53, VP.of (y7.length : Int)), (54, VP.of (e1.2.1)), (55, VP.of (e1.2.2.1)), (91, VP.of (e3.2.1)), (100, VP.eq (.pointer (some ⟨gS0_8.1.1, 0, none⟩))), (101, VP.of (y12)), (102, VP.eq (.pointer (some ⟨gS0_8.2.1, 0, none⟩))), (103, VP.of (y13))]) (fun gS1_6 => [⟨some gS0_8.1.1, .varX (({ e1.2.2.2.1 with f_l := [] } : T_ordered_List) : T_ordered_List) [(10, slv g1.1 e1.2.2.2.2.length g1.2)]⟩, ⟨g1.1, .row 92 (e1.2.2.2.2 : List T_api_Installed) g1.2⟩, ⟨some q3, .var (y6.2.2.2 : T_mcase_Codes)⟩, ⟨some gS0_8.2.1, .varX (({ e3.2.2.1 with f_l := [] } : T_ordered_List) : T_ordered_List) [(10, slv g4.1 e3.2.2.2.length g4.2)]⟩, ⟨g4.1, .row 92 (e3.2.2.2 : List T_api_Installed) g4.2⟩, ⟨some p1, .var (y2.1 : T_api_Schema)⟩, ⟨some q1, .var (y2.2 : T_mcase_Codes)⟩]) (fun gS1_6 => ?_) (fun S1_6 => ?_)
      ·clear h
       refine AnyS.step [4] (by kernel_rfl) rfl ⟨⟨_, rfl, ?_⟩, trivial⟩
       ·refine Qcl en43 (C_ref13_SameAll hy14) ?_
        refine Sq.nil ?_
        exact To.any rfl (AnyS.le (.same rfl (.same rfl (.same rfl (.same rfl (.same rfl (.same rfl (.same rfl (.same rfl (.same rfl (.same rfl (.same rfl (.same rfl (.same rfl (.same rfl (.same rfl (.same rfl (.same rfl (.same rfl (.same rfl (.same rfl (.same rfl (.same rfl (.same rfl .nil))))))))))))))))))))))) (S1_7 ()))
      refine AnyS.cut (γ := Unit) 12 (Array.mk (true :: true :: true :: false :: false :: false :: false :: false :: false :: false :: false :: false :: false :: false :: false :: [])) (fun gS1_5 => [(0, VP.of (x0)), (1, VP.of (x1)), (2, VP.of (x2)), (3, VP.of (x3)), (8, VP.of (false)), (9, VP.eq (.pointer (some ⟨p1, 0, none⟩))), (10, VP.eq (.pointer (some ⟨q3, 0, none⟩))), (11, VP.eq (.pointer (some ⟨gS0_8.1.1, 0, none⟩))), (12, VP.eq (.pointer (some ⟨gS0_8.2.1, 0, none⟩))), (13, VP.of (e1.1)), (14, VP.of (y6.2.1)), (21, VP.of (e3.1)), (47, VP.of (!y6.2.1)), (52, VP.of (y7)), (53, VP.of (y7.length : Int)), (54, VP.of (e1.2.1)), (55, VP.of (e1.2.2.1)), (91, VP.of (e3.2.1)), (100, VP.eq (.pointer (some ⟨gS0_8.1.1, 0, none⟩))), (101, VP.of (y12)), (102, VP.eq (.pointer (some ⟨gS0_8.2.1, 0, none⟩)))]) (fun gS1_5 => [⟨some gS0_8.1.1, .varX (({ e1.2.2.2.1 with f_l := [] } : T_ordered_List) : T_ordered_List) [(10, slv g1.1 e1.2.2.2.2.length g1.2)]⟩, ⟨g1.1, .row 92 (e1.2.2.2.2 : List T_api_Installed) g1.2⟩, ⟨some q3, .var (y6.2.2.2 : T_mcase_Codes)⟩, ⟨some gS0_8.2.1, .varX (e3.2.2.1 : T_ordered_List) [(10, slv g4.1 e3.2.2.2.length g4.2)]⟩, ⟨g4.1, .row 92 (e3.2.2.2 : List T_api_Installed) g4.2⟩, ⟨some p1, .var (y2.1 : T_api_Schema)⟩, ⟨some q1, .var (y2.2 : T_mcase_Codes)⟩]) (fun gS1_5 => ?_) (fun S1_5 => ?_)
      ·clear h
       refine AnyS.step [3] (by kernel_rfl) rfl ⟨⟨_, rfl, ?_⟩, trivial⟩
       ·refine Sq.clr (γ := T_api_Installed) (b' := (({ e3.2.2.1 with f_l := [] } : T_ordered_List) : T_ordered_List)) ((Lens.id T_ordered_List).comp le_T_ordered_List_l) 3 0 rfl rfl rfl ?_
        refine Sq.vS (HS.call [3, 4] en44 (Ch0_1_ordered_List_All hy13) ⟨look_t rfl, trivial⟩ rfl ⟨rfl, rfl, trivial⟩ rfl) rfl rfl rfl ?_
        refine Sq.nil ?_
        exact To.any rfl (AnyS.le (.same rfl (.same rfl (.same rfl (.same rfl (.same rfl (.same rfl (.same rfl (.same rfl (.same rfl (.same rfl (.same rfl (.same rfl (.same rfl (.same rfl (.same rfl (.same rfl (.same rfl (.same rfl (.same rfl (.same rfl (.same rfl (.same rfl .nil)))))))))))))))))))))) (S1_6 ()))
      refine AnyS.cut (γ := Unit) 13 (Array.mk (true :: false :: true :: false :: false :: false :: false :: false :: false :: false :: false :: false :: false :: false :: false :: [])) (fun gS1_4 => [(0, VP.of (x0)), (1, VP.of (x1)), (2, VP.of (x2)), (3, VP.of (x3)), (8, VP.of (false)), (9, VP.eq (.pointer (some ⟨p1, 0, none⟩))), (10, VP.eq (.pointer (some ⟨q3, 0, none⟩))), (11, VP.eq (.pointer (some ⟨gS0_8.1.1, 0, none⟩))), (12, VP.eq (.pointer (some ⟨gS0_8.2.1, 0, none⟩))), (13, VP.of (e1.1)), (14, VP.of (y6.2.1)), (21, VP.of (e3.1)), (47, VP.of (!y6.2.1)), (52, VP.of (y7)), (53, VP.of (y7.length : Int)), (54, VP.of (e1.2.1)), (55, VP.of (e1.2.2.1)), (91, VP.of (e3.2.1)), (100, VP.eq (.pointer (some ⟨gS0_8.1.1, 0, none⟩))), (102, VP.eq (.pointer (some ⟨gS0_8.2.1, 0, none⟩)))]) (fun gS1_4 => [⟨some gS0_8.1.1, .varX (e1.2.2.2.1 : T_ordered_List) [(10, slv g1.1 e1.2.2.2.2.length g1.2)]⟩, ⟨g1.1, .row 92 (e1.2.2.2.2 : List T_api_Installed) g1.2⟩, ⟨some q3, .var (y6.2.2.2 : T_mcase_Codes)⟩, ⟨some gS0_8.2.1, .varX (e3.2.2.1 : T_ordered_List) [(10, slv g4.1 e3.2.2.2.length g4.2)]⟩, ⟨g4.1, .row 92 (e3.2.2.2 : List T_api_Installed) g4.2⟩, ⟨some p1, .var (y2.1 : T_api_Schema)⟩, ⟨some q1, .var (y2.2 : T_mcase_Codes)⟩]) (fun gS1_4 => ?_) (fun S1_4 => ?_)
      ·clear h
       refine AnyS.step [1] (by kernel_rfl) rfl ⟨⟨_, rfl, ?_⟩, trivial⟩
       ·refine Sq.clr (γ := T_api_Installed) (b' := (({ e1.2.2.2.1 with f_l := [] } : T_ordered_List) : T_ordered_List)) ((Lens.id T_ordered_List).comp le_T_ordered_List_l) 0 0 rfl rfl rfl ?_
        refine Sq.vS (HS.call [0, 1] en44 (Ch0_1_ordered_List_All hy12) ⟨look_t rfl, trivial⟩ rfl ⟨rfl, rfl, trivial⟩ rfl) rfl rfl rfl ?_
        refine Sq.nil ?_
        exact To.any rfl (AnyS.le (.same rfl (.same rfl (.same rfl (.same rfl (.same rfl (.same rfl (.same rfl (.same rfl (.same rfl (.same rfl (.same rfl (.same rfl (.same rfl (.same rfl (.same rfl (.same rfl (.same rfl (.same rfl (.same rfl (.same rfl (.same rfl .nil))))))))))))))))))))) (S1_5 ()))
      refine AnyS.cut (γ := Unit) 13 (Array.mk (true :: true :: false :: false :: false :: false :: false :: false :: false :: false :: false :: false :: false :: false :: false :: [])) (fun gS1_3 => [(0, VP.of (x0)), (1, VP.of (x1)), (2, VP.of (x2)), (3, VP.of (x3)), (8, VP.of (false)), (9, VP.eq (.pointer (some ⟨p1, 0, none⟩))), (10, VP.eq (.pointer (some ⟨q3, 0, none⟩))), (11, VP.eq (.pointer (some ⟨gS0_8.1.1, 0, none⟩))), (12, VP.eq (.pointer (some ⟨gS0_8.2.1, 0, none⟩))), (13, VP.of (e1.1)), (14, VP.of (y6.2.1)), (21, VP.of (e3.1)), (47, VP.of (!y6.2.1)), (52, VP.of (y7)), (53, VP.of (y7.length : Int)), (54, VP.of (e1.2.1)), (55, VP.of (e1.2.2.1)), (91, VP.of (e3.2.1)), (100, VP.eq (.pointer (some ⟨gS0_8.1.1, 0, none⟩))), (101, VP.of (y12))]) (fun gS1_3 => [⟨some gS0_8.1.1, .varX (({ e1.2.2.2.1 with f_l := [] } : T_ordered_List) : T_ordered_List) [(10, slv g1.1 e1.2.2.2.2.length g1.2)]⟩, ⟨g1.1, .row 92 (e1.2.2.2.2 : List T_api_Installed) g1.2⟩, ⟨some q3, .var (y6.2.2.2 : T_mcase_Codes)⟩, ⟨some gS0_8.2.1, .varX (e3.2.2.1 : T_ordered_List) [(10, slv g4.1 e3.2.2.2.length g4.2)]⟩, ⟨g4.1, .row 92 (e3.2.2.2 : List T_api_Installed) g4.2⟩, ⟨some p1, .var (y2.1 : T_api_Schema)⟩, ⟨some q1, .var (y2.2 : T_mcase_Codes)⟩]) (fun gS1_3 => ?_) (fun S1_3 => ?_)
      ·clear h
       refine AnyS.step [2] (by kernel_rfl) rfl ⟨⟨_, rfl, ?_⟩, trivial⟩
       ·refine Qm ?_
        refine Sq.nil ?_
        exact To.any rfl (AnyS.le (.same rfl (.same rfl (.same rfl (.same rfl (.same rfl (.same rfl (.same rfl (.same rfl (.same rfl (.same rfl (.same rfl (.same rfl (.same rfl (.same rfl (.same rfl (.same rfl (.same rfl (.same rfl (.same rfl (.same rfl (.same rfl .nil))))))))))))))))))))) (S1_5 ()))
      refine AnyS.cut (γ := Unit) 14 (Array.mk (false :: false :: true :: false :: false :: false :: false :: false :: false :: false :: false :: false :: false :: false :: false :: [])) (fun gS1_2 => [(0, VP.of (x0)), (1, VP.of (x1)), (2, VP.of (x2)), (3, VP.of (x3)), (8, VP.of (false)), (9, VP.eq (.pointer (some ⟨p1, 0, none⟩))), (10, VP.eq (.pointer (some ⟨q3, 0, none⟩))), (11, VP.eq (.pointer (some ⟨gS0_8.1.1, 0, none⟩))), (12, VP.eq (.pointer (some ⟨gS0_8.2.1, 0, none⟩))), (13, VP.of (e1.1)), (14, VP.of (y6.2.1)), (21, VP.of (e3.1)), (47, VP.of (!y6.2.1)), (52, VP.of (y7)), (53, VP.of (y7.length : Int)), (54, VP.of (e1.2.1)), (55, VP.of (e1.2.2.1)), (91, VP.of (e3.2.1)), (102, VP.eq (.pointer (some ⟨gS0_8.2.1, 0, none⟩)))]) (fun gS1_2 => [⟨some gS0_8.1.1, .varX (e1.2.2.2.1 : T_ordered_List) [(10, slv g1.1 e1.2.2.2.2.length g1.2)]⟩, ⟨g1.1, .row 92 (e1.2.2.2.2 : List T_api_Installed) g1.2⟩, ⟨some q3, .var (y6.2.2.2 : T_mcase_Codes)⟩, ⟨some gS0_8.2.1, .varX (e3.2.2.1 : T_ordered_List) [(10, slv g4.1 e3.2.2.2.length g4.2)]⟩, ⟨g4.1, .row 92 (e3.2.2.2 : List T_api_Installed) g4.2⟩, ⟨some p1, .var (y2.1 : T_api_Schema)⟩, ⟨some q1, .var (y2.2 : T_mcase_Codes)⟩]) (fun gS1_2 => ?_) (fun S1_2 => ?_)
      ·clear h
       refine AnyS.step [0] (by kernel_rfl) rfl ⟨⟨_, rfl, ?_⟩, trivial⟩
       ·refine Qm ?_
        refine Sq.nil ?_
        exact To.any rfl (AnyS.le (.same rfl (.same rfl (.same rfl (.same rfl (.same rfl (.same rfl (.same rfl (.same rfl (.same rfl (.same rfl (.same rfl (.same rfl (.same rfl (.same rfl (.same rfl (.same rfl (.same rfl (.same rfl (.same rfl (.same rfl .nil)))))))))))))))))))) (S1_4 ()))
      refine AnyS.cut (γ := Unit) 14 (Array.mk (true :: false :: false :: false :: false :: false :: false :: false :: false :: false :: false :: false :: false :: false :: false :: [])) (fun gS1_1 => [(0, VP.of (x0)), (1, VP.of (x1)), (2, VP.of (x2)), (3, VP.of (x3)), (8, VP.of (false)), (9, VP.eq (.pointer (some ⟨p1, 0, none⟩))), (10, VP.eq (.pointer (some ⟨q3, 0, none⟩))), (11, VP.eq (.pointer (some ⟨gS0_8.1.1, 0, none⟩))), (12, VP.eq (.pointer (some ⟨gS0_8.2.1, 0, none⟩))), (13, VP.of (e1.1)), (14, VP.of (y6.2.1)), (21, VP.of (e3.1)), (47, VP.of (!y6.2.1)), (52, VP.of (y7)), (53, VP.of (y7.length : Int)), (54, VP.of (e1.2.1)), (55, VP.of (e1.2.2.1)), (91, VP.of (e3.2.1)), (100, VP.eq (.pointer (some ⟨gS0_8.1.1, 0, none⟩)))]) (fun gS1_1 => [⟨some gS0_8.1.1, .varX (e1.2.2.2.1 : T_ordered_List) [(10, slv g1.1 e1.2.2.2.2.length g1.2)]⟩, ⟨g1.1, .row 92 (e1.2.2.2.2 : List T_api_Installed) g1.2⟩, ⟨some q3, .var (y6.2.2.2 : T_mcase_Codes)⟩, ⟨some gS0_8.2.1, .varX (e3.2.2.1 : T_ordered_List) [(10, slv g4.1 e3.2.2.2.length g4.2)]⟩, ⟨g4.1, .row 92 (e3.2.2.2 : List T_api_Installed) g4.2⟩, ⟨some p1, .var (y2.1 : T_api_Schema)⟩, ⟨some q1, .var (y2.2 : T_mcase_Codes)⟩]) (fun gS1_1 => ?_) (fun S1_1 => ?_)
      ·clear h
       refine AnyS.step [1, 2] (by kernel_rfl) rfl ⟨⟨_, rfl, ?_⟩, ⟨_, rfl, ?_⟩, trivial⟩
       ·refine Sq.clr (γ := T_api_Installed) (b' := (({ e1.2.2.2.1 with f_l := [] } : T_ordered_List) : T_ordered_List)) ((Lens.id T_ordered_List).comp le_T_ordered_List_l) 0 0 rfl rfl rfl ?_
        refine Sq.vS (HS.call [0, 1] en44 (Ch0_1_ordered_List_All hy12) ⟨look_t rfl, trivial⟩ rfl ⟨rfl, rfl, trivial⟩ rfl) rfl rfl rfl ?_
        refine Sq.nil ?_
        exact To.any rfl (AnyS.le (.same rfl (.same rfl (.same rfl (.same rfl (.same rfl (.same rfl (.same rfl (.same rfl (.same rfl (.same rfl (.same rfl (.same rfl (.same rfl (.same rfl (.same rfl (.same rfl (.same rfl (.same rfl (.same rfl (.same rfl .nil)))))))))))))))))))) (S1_3 ()))
       ·refine Qm ?_
        refine Sq.nil ?_
        exact To.any rfl (AnyS.le (.same rfl (.same rfl (.same rfl (.same rfl (.same rfl (.same rfl (.same rfl (.same rfl (.same rfl (.same rfl (.same rfl (.same rfl (.same rfl (.same rfl (.same rfl (.same rfl (.same rfl (.same rfl (.same rfl (.same rfl .nil)))))))))))))))))))) (S1_4 ()))
      refine AnyS.step [0, 2] (by kernel_rfl) rfl ⟨⟨_, rfl, ?_⟩, ⟨_, rfl, ?_⟩, trivial⟩
      ·refine Qm ?_
       refine Sq.nil ?_
       exact To.any rfl (AnyS.le (.same rfl (.same rfl (.same rfl (.same rfl (.same rfl (.same rfl (.same rfl (.same rfl (.same rfl (.same rfl (.same rfl (.same rfl (.same rfl (.same rfl (.same rfl (.same rfl (.same rfl (.same rfl (.same rfl .nil))))))))))))))))))) (S1_1 ()))
      ·refine Qm ?_
       refine Sq.nil ?_
       exact To.any rfl (AnyS.le (.same rfl (.same rfl (.same rfl (.same rfl (.same rfl (.same rfl (.same rfl (.same rfl (.same rfl (.same rfl (.same rfl (.same rfl (.same rfl (.same rfl (.same rfl (.same rfl (.same rfl (.same rfl (.same rfl .nil))))))))))))))))))) (S1_2 ()))
    ·simp only [Sum.elim_inr] at h
     refine To.bret ?_
     refine To.ret ?_
     obtain rfl:=some_in h
     exact Qe1
 refine AnyS.cut (γ := (Nat × (Option Nat × Nat)) × (Nat × (Option Nat × Nat))) 1 (Array.mk (true :: true :: true :: true :: true :: false :: [])) (fun gS0_7 => [(0, VP.of (x0)), (1, VP.of (x1)), (2, VP.of (x2)), (3, VP.of (x3)), (8, VP.of (false)), (9, VP.eq (.pointer (some ⟨p1, 0, none⟩))), (10, VP.eq (.pointer (some ⟨q3, 0, none⟩))), (11, VP.eq (.pointer (some ⟨gS0_7.1.1, 0, none⟩))), (29, VP.of (x0)), (30, VP.eq (.pointer (some ⟨q1, 0, none⟩))), (31, VP.of (y2.1)), (32, VP.of (x1)), (33, VP.eq (.pointer (some ⟨q3, 0, none⟩))), (34, VP.of (y2.1)), (35, VP.eq (.pointer (some ⟨gS0_7.1.1, 0, none⟩))), (36, VP.of (y2.1)), (37, VP.eq (.pointer (some ⟨gS0_7.2.1, 0, none⟩)))]) (fun gS0_7 => [⟨some gS0_7.2.1, .varX (({ y5 with f_l := [] } : T_ordered_List) : T_ordered_List) [(10, slv gS0_7.2.2.1 y5.f_l.length gS0_7.2.2.2)]⟩, ⟨gS0_7.2.2.1, .row 92 (y5.f_l : List T_api_Installed) gS0_7.2.2.2⟩, ⟨some gS0_7.1.1, .varX (({ y4 with f_l := [] } : T_ordered_List) : T_ordered_List) [(10, slv gS0_7.1.2.1 y4.f_l.length gS0_7.1.2.2)]⟩, ⟨gS0_7.1.2.1, .row 92 (y4.f_l : List T_api_Installed) gS0_7.1.2.2⟩, ⟨some p1, .var (y2.1 : T_api_Schema)⟩, ⟨some q3, .var (y3 : T_mcase_Codes)⟩, ⟨some q1, .var (y2.2 : T_mcase_Codes)⟩]) (fun gS0_7 => ?_) (fun S0_7 => ?_)
 ·clear h
  refine AnyS.step [5] (by kernel_rfl) rfl ⟨⟨_, rfl, ?_⟩, trivial⟩
  ·refine Qa ?_
   refine Sq.nil ?_
   exact To.any rfl (AnyS.le (.same rfl (.same rfl (.same rfl (.same rfl (.same rfl (.same rfl (.same rfl (.same rfl (.same rfl (.same rfl (.same rfl (.same rfl (.same rfl (.same rfl (.same rfl (.same rfl (.same rfl (.same rfl .nil)))))))))))))))))) (S0_8 (gS0_7.1, gS0_7.2)))
 refine AnyS.cut (γ := (Nat × (Option Nat × Nat)) × (Nat × (Option Nat × Nat))) 2 (Array.mk (true :: true :: true :: true :: false :: false :: [])) (fun gS0_6 => [(0, VP.of (x0)), (1, VP.of (x1)), (2, VP.of (x2)), (3, VP.of (x3)), (8, VP.of (false)), (9, VP.eq (.pointer (some ⟨p1, 0, none⟩))), (10, VP.eq (.pointer (some ⟨q3, 0, none⟩))), (29, VP.of (x0)), (30, VP.eq (.pointer (some ⟨q1, 0, none⟩))), (31, VP.of (y2.1)), (32, VP.of (x1)), (33, VP.eq (.pointer (some ⟨q3, 0, none⟩))), (34, VP.of (y2.1)), (35, VP.eq (.pointer (some ⟨gS0_6.1.1, 0, none⟩))), (36, VP.of (y2.1)), (37, VP.eq (.pointer (some ⟨gS0_6.2.1, 0, none⟩)))]) (fun gS0_6 => [⟨some gS0_6.2.1, .varX (({ y5 with f_l := [] } : T_ordered_List) : T_ordered_List) [(10, slv gS0_6.2.2.1 y5.f_l.length gS0_6.2.2.2)]⟩, ⟨gS0_6.2.2.1, .row 92 (y5.f_l : List T_api_Installed) gS0_6.2.2.2⟩, ⟨some gS0_6.1.1, .varX (({ y4 with f_l := [] } : T_ordered_List) : T_ordered_List) [(10, slv gS0_6.1.2.1 y4.f_l.length gS0_6.1.2.2)]⟩, ⟨gS0_6.1.2.1, .row 92 (y4.f_l : List T_api_Installed) gS0_6.1.2.2⟩, ⟨some p1, .var (y2.1 : T_api_Schema)⟩, ⟨some q3, .var (y3 : T_mcase_Codes)⟩, ⟨some q1, .var (y2.2 : T_mcase_Codes)⟩]) (fun gS0_6 => ?_) (fun S0_6 => ?_)
 ·clear h
  refine AnyS.step [4] (by kernel_rfl) rfl ⟨⟨_, rfl, ?_⟩, trivial⟩
  ·refine Qa ?_
   refine Sq.nil ?_
   exact To.any rfl (AnyS.le (.same rfl (.same rfl (.same rfl (.same rfl (.same rfl (.same rfl (.same rfl (.same rfl (.same rfl (.same rfl (.same rfl (.same rfl (.same rfl (.same rfl (.same rfl (.same rfl (.same rfl .nil))))))))))))))))) (S0_7 (gS0_6.1, gS0_6.2)))
 refine AnyS.cut (γ := Nat × (Option Nat × Nat)) 3 (Array.mk (true :: true :: true :: false :: false :: false :: [])) (fun gS0_5 => [(0, VP.of (x0)), (1, VP.of (x1)), (2, VP.of (x2)), (3, VP.of (x3)), (8, VP.of (false)), (9, VP.eq (.pointer (some ⟨p1, 0, none⟩))), (10, VP.eq (.pointer (some ⟨q3, 0, none⟩))), (29, VP.of (x0)), (30, VP.eq (.pointer (some ⟨q1, 0, none⟩))), (31, VP.of (y2.1)), (32, VP.of (x1)), (33, VP.eq (.pointer (some ⟨q3, 0, none⟩))), (34, VP.of (y2.1)), (35, VP.eq (.pointer (some ⟨gS0_5.1, 0, none⟩))), (36, VP.of (y2.1))]) (fun gS0_5 => [⟨some gS0_5.1, .varX (({ y4 with f_l := [] } : T_ordered_List) : T_ordered_List) [(10, slv gS0_5.2.1 y4.f_l.length gS0_5.2.2)]⟩, ⟨gS0_5.2.1, .row 92 (y4.f_l : List T_api_Installed) gS0_5.2.2⟩, ⟨some p1, .var (y2.1 : T_api_Schema)⟩, ⟨some q3, .var (y3 : T_mcase_Codes)⟩, ⟨some q1, .var (y2.2 : T_mcase_Codes)⟩]) (fun gS0_5 => ?_) (fun S0_5 => ?_)
 ·clear h
  refine AnyS.step [3] (by kernel_rfl) rfl ⟨⟨_, rfl, ?_⟩, trivial⟩
  ·refine QcO 0 en30 (Cq0_1_ordered_New hy5) fun q5 => ?_
   refine Sq.nil ?_
   exact To.any rfl (AnyS.le (.same rfl (.same rfl (.same rfl (.same rfl (.same rfl (.same rfl (.same rfl (.same rfl (.same rfl (.same rfl (.same rfl (.same rfl (.same rfl (.same rfl (.same rfl (.same rfl .nil)))))))))))))))) (S0_6 (gS0_5, q5)))
 refine AnyS.cut (γ := Unit) 4 (Array.mk (true :: false :: true :: false :: false :: false :: [])) (fun gS0_4 => [(0, VP.of (x0)), (1, VP.of (x1)), (2, VP.of (x2)), (3, VP.of (x3)), (8, VP.of (false)), (9, VP.eq (.pointer (some ⟨p1, 0, none⟩))), (10, VP.eq (.pointer (some ⟨q3, 0, none⟩))), (29, VP.of (x0)), (30, VP.eq (.pointer (some ⟨q1, 0, none⟩))), (31, VP.of (y2.1)), (32, VP.of (x1)), (33, VP.eq (.pointer (some ⟨q3, 0, none⟩))), (34, VP.of (y2.1)), (36, VP.of (y2.1))]) (fun gS0_4 => [⟨some p1, .var (y2.1 : T_api_Schema)⟩, ⟨some q3, .var (y3 : T_mcase_Codes)⟩, ⟨some q1, .var (y2.2 : T_mcase_Codes)⟩]) (fun gS0_4 => ?_) (fun S0_4 => ?_)
 ·clear h
  refine AnyS.step [1] (by kernel_rfl) rfl ⟨⟨_, rfl, ?_⟩, trivial⟩
  ·refine QcO 0 en30 (Cq0_1_ordered_New hy4) fun q4 => ?_
   refine Sq.nil ?_
   exact To.any rfl (AnyS.le (.same rfl (.same rfl (.same rfl (.same rfl (.same rfl (.same rfl (.same rfl (.same rfl (.same rfl (.same rfl (.same rfl (.same rfl (.same rfl (.same rfl (.same rfl .nil))))))))))))))) (S0_5 q4))
 refine AnyS.cut (γ := Nat × (Option Nat × Nat)) 4 (Array.mk (true :: true :: false :: false :: false :: false :: [])) (fun gS0_3 => [(0, VP.of (x0)), (1, VP.of (x1)), (2, VP.of (x2)), (3, VP.of (x3)), (8, VP.of (false)), (9, VP.eq (.pointer (some ⟨p1, 0, none⟩))), (10, VP.eq (.pointer (some ⟨q3, 0, none⟩))), (29, VP.of (x0)), (30, VP.eq (.pointer (some ⟨q1, 0, none⟩))), (31, VP.of (y2.1)), (32, VP.of (x1)), (33, VP.eq (.pointer (some ⟨q3, 0, none⟩))), (34, VP.of (y2.1)), (35, VP.eq (.pointer (some ⟨gS0_3.1, 0, none⟩)))]) (fun gS0_3 => [⟨some gS0_3.1, .varX (({ y4 with f_l := [] } : T_ordered_List) : T_ordered_List) [(10, slv gS0_3.2.1 y4.f_l.length gS0_3.2.2)]⟩, ⟨gS0_3.2.1, .row 92 (y4.f_l : List T_api_Installed) gS0_3.2.2⟩, ⟨some p1, .var (y2.1 : T_api_Schema)⟩, ⟨some q3, .var (y3 : T_mcase_Codes)⟩, ⟨some q1, .var (y2.2 : T_mcase_Codes)⟩]) (fun gS0_3 => ?_) (fun S0_3 => ?_)
 ·clear h
  refine AnyS.step [2] (by kernel_rfl) rfl ⟨⟨_, rfl, ?_⟩, trivial⟩
  ·refine Ql0 2 ty33 ?_
   refine Sq.nil ?_
   exact To.any rfl (AnyS.le (.same rfl (.same rfl (.same rfl (.same rfl (.same rfl (.same rfl (.same rfl (.same rfl (.same rfl (.same rfl (.same rfl (.same rfl (.same rfl (.same rfl (.same rfl .nil))))))))))))))) (S0_5 gS0_3))
 refine AnyS.cut (γ := Unit) 5 (Array.mk (false :: false :: true :: false :: false :: false :: [])) (fun gS0_2 => [(0, VP.of (x0)), (1, VP.of (x1)), (2, VP.of (x2)), (3, VP.of (x3)), (8, VP.of (false)), (9, VP.eq (.pointer (some ⟨p1, 0, none⟩))), (10, VP.eq (.pointer (some ⟨q3, 0, none⟩))), (29, VP.of (x0)), (30, VP.eq (.pointer (some ⟨q1, 0, none⟩))), (31, VP.of (y2.1)), (32, VP.of (x1)), (33, VP.eq (.pointer (some ⟨q3, 0, none⟩))), (36, VP.of (y2.1))]) (fun gS0_2 => [⟨some p1, .var (y2.1 : T_api_Schema)⟩, ⟨some q3, .var (y3 : T_mcase_Codes)⟩, ⟨some q1, .var (y2.2 : T_mcase_Codes)⟩]) (fun gS0_2 => ?_) (fun S0_2 => ?_)
 ·clear h
  refine AnyS.step [0] (by kernel_rfl) rfl ⟨⟨_, rfl, ?_⟩, trivial⟩
  ·refine Ql0 0 ty33 ?_
   refine Sq.nil ?_
   exact To.any rfl (AnyS.le (.same rfl (.same rfl (.same rfl (.same rfl (.same rfl (.same rfl (.same rfl (.same rfl (.same rfl (.same rfl (.same rfl (.same rfl (.same rfl (.same rfl .nil)))))))))))))) (S0_4 ()))
 refine AnyS.cut (γ := Unit) 5 (Array.mk (true :: false :: false :: false :: false :: false :: [])) (fun gS0_1 => [(0, VP.of (x0)), (1, VP.of (x1)), (2, VP.of (x2)), (3, VP.of (x3)), (8, VP.of (false)), (9, VP.eq (.pointer (some ⟨p1, 0, none⟩))), (10, VP.eq (.pointer (some ⟨q3, 0, none⟩))), (29, VP.of (x0)), (30, VP.eq (.pointer (some ⟨q1, 0, none⟩))), (31, VP.of (y2.1)), (32, VP.of (x1)), (33, VP.eq (.pointer (some ⟨q3, 0, none⟩))), (34, VP.of (y2.1))]) (fun gS0_1 => [⟨some p1, .var (y2.1 : T_api_Schema)⟩, ⟨some q3, .var (y3 : T_mcase_Codes)⟩, ⟨some q1, .var (y2.2 : T_mcase_Codes)⟩]) (fun gS0_1 => ?_) (fun S0_1 => ?_)
 ·clear h
  refine AnyS.step [1, 2] (by kernel_rfl) rfl ⟨⟨_, rfl, ?_⟩, ⟨_, rfl, ?_⟩, trivial⟩
  ·refine QcO 0 en30 (Cq0_1_ordered_New hy4) fun q4 => ?_
   refine Sq.nil ?_
   exact To.any rfl (AnyS.le (.same rfl (.same rfl (.same rfl (.same rfl (.same rfl (.same rfl (.same rfl (.same rfl (.same rfl (.same rfl (.same rfl (.same rfl (.same rfl (.same rfl .nil)))))))))))))) (S0_3 q4))
  ·refine Ql0 0 ty33 ?_
   refine Sq.nil ?_
   exact To.any rfl (AnyS.le (.same rfl (.same rfl (.same rfl (.same rfl (.same rfl (.same rfl (.same rfl (.same rfl (.same rfl (.same rfl (.same rfl (.same rfl (.same rfl (.same rfl .nil)))))))))))))) (S0_4 ()))
 refine AnyS.step [0, 2] (by kernel_rfl) rfl ⟨⟨_, rfl, ?_⟩, ⟨_, rfl, ?_⟩, trivial⟩
 ·refine Ql0 0 ty33 ?_
  refine Sq.nil ?_
  exact To.any rfl (AnyS.le (.same rfl (.same rfl (.same rfl (.same rfl (.same rfl (.same rfl (.same rfl (.same rfl (.same rfl (.same rfl (.same rfl (.same rfl (.same rfl .nil))))))))))))) (S0_1 ()))
 ·refine Ql0 0 ty33 ?_
  refine Sq.nil ?_
  exact To.any rfl (AnyS.le (.same rfl (.same rfl (.same rfl (.same rfl (.same rfl (.same rfl (.same rfl (.same rfl (.same rfl (.same rfl (.same rfl (.same rfl (.same rfl .nil))))))))))))) (S0_2 ()))
end Go.Proofs.Ytodajdohokmjnaa

