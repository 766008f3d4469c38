/-
  Each function meets its functional program. Conditions: none.
-/
import Derived.Test.YtcglmhpembonmaaDoorKd
import Derived.Test.YtcglmhpembonmaaDoorKs0
namespace Go.Proofs.YtcglmhpembonmaaDoor
open Go Gv
set_option linter.unusedVariables false
set_option linter.unusedSimpArgs false
set_option maxRecDepth 100000
set_option maxHeartbeats 2000000
theorem C_law33_short {x0 : List T_api_Call}  {r : (List T_api_Call)} (h : L_law33_short x0 = some r) : Meets Tryd.prog 5 [VP.of (x0)] (VP.of (r)) := by
 unfold L_law33_short at h
 refine Meets.of Tryd.func5 rfl Tryd.ntmps5 rfl fun W A => Qsr (Qv (r_asg (look_nil (α := T_api_Call))) (Qnr ?_))
 refine Sq.bslO (α := T_api_Call) (r := ([] : List T_api_Call)) Tryd.underlying22 ty36 zr36 rfl rfl (.nil) rfl fun key1 => Qm ?_
 refine Qm ?_
 refine Q1 (r_len Tryd.underlying22) ?_
 refine Q2 r_min ?_
 refine Qbf h fun y1 hy1 h => Qv (r_slice Tryd.underlying22 ty36 (look_t rfl) .none (.some (look_t rfl)) hy1) ?_
 refine Qbf h fun y2 hy2 h => Qap 0 Tryd.underlying22 ty36 zr36 hy2 fun key2 cap1 => ?_
 refine Qa (Qns (Qsr ?_))
 refine Qm ?_
 refine Qv (r_lenO (i := 0) Tryd.underlying22 (look_t rfl) rfl rfl) ?_
 refine Qm (Qnx (Wp.block ?_))
 refine Qbf h fun e1 hl h => ?_
 refine Qlp (γ:=(Option Nat × Nat)) (δ:=(Option Nat × Nat)) hl [2, 12] (fun s1 g1 => [(0, VP.eq (slv g1.1 s1.2.length g1.2)), (13, VP.of (s1.1))]) (fun s1 g1 => [(0, ⟨g1.1, .row 36 s1.2 g1.2⟩)]) (fun q1 => Exit.exit 0) (fun q1 g1 => [(0, VP.eq (slv g1.1 q1.2.2.length g1.2)), (13, VP.of (q1.1)), (14, VP.of (q1.2.1))]) (fun q1 g1 => [(0, ⟨g1.1, .row 36 q1.2.2 g1.2⟩)]) (key2, cap1) (fun s1 r h g1 => ?_) fun g1 => ?_
 ·clear hl
  refine Qsr (Q2 r_lss (Qns ?_))
  refine Qcd h (fun h=>?_) fun h=>?_
  ·refine Qkn (Wp.seq (Wp.block (Qsr (Qm ?_))))
   refine Qa (Qnx ?_)
   refine Qbf h fun k1 hk1 h => Qbf h fun k2 hk2 h => Qbf h fun y3 hy3 h => Qbf h fun k3 hk3 h => Qwl [0, 2, 3, 12, 13, 14, 15] ?_
   refine Wp.eD mixed (Hp 16 [] [] _ :: Hp 17 [] [] _ :: Hp 18 [] [] _ :: Hp 19 [] [] _ :: Hp 20 [2, 3] [0] _ :: Hp 21 [4] [] _ :: Hp 22 [5] [0] _ :: Hp 23 [] [] _ :: Hp 24 [] [] _ :: Hp 25 [7, 8] [0] _ :: Hp 26 [9] [] _ :: Hp 27 [10] [0] _ :: Hp 28 [11] [] _ :: Hp 29 [12] [] _ :: Hp 30 [6, 13] [] _ :: Hp 31 [0, 1] [0] _ :: Hp 32 [15] [] _ :: Hs [4, 6, 9, 11, 14, 15, 16] [0] [0] (fun hd => ⟨g1.1, .row 36 (lset s1.2 k3 ({ (lget s1.2 k3) with f_Data := y3 } : T_api_Call) : List T_api_Call) g1.2⟩) :: []) ⟨Dm, Dm, Dm, Dm, Du fun hE hL => r_iaO (i := 0) (k := k1) (xs := (s1.2 : List T_api_Call)) Tryd.underlying22 ty36 (look_t (hE _ _ rfl)) (look_t (hE _ _ rfl)) (hL 0 _ rfl rfl) (idx_some hk1), D1 (r_fa fd36_1.fd), Du fun hE hL => r_loadR (i := 0) (k := k1) ((Lens.id T_api_Call).comp le_T_api_Call_Data) (r := (lget s1.2 k1).f_Data) ty25 (look_t (hE _ _ rfl)) (hL 0 _ rfl rfl) (idx_some hk1).1 rfl rfl, Dm, Dm, Du fun hE hL => r_iaO (i := 0) (k := k2) (xs := (s1.2 : List T_api_Call)) Tryd.underlying22 ty36 (look_t (hE _ _ rfl)) (look_t (hE _ _ rfl)) (hL 0 _ rfl rfl) (idx_some hk2), D1 (r_fa fd36_1.fd), Du fun hE hL => r_loadR (i := 0) (k := k2) ((Lens.id T_api_Call).comp le_T_api_Call_Data) (r := (lget s1.2 k2).f_Data) ty25 (look_t (hE _ _ rfl)) (hL 0 _ rfl rfl) (idx_some hk2).1 rfl rfl, D1 (r_len Tryd.underlying25), D2 r_min, Du fun hE hL => r_slice Tryd.underlying25 ty5 (look_t (hE _ _ rfl)) .none (.some (look_t (hE _ _ rfl))) hy3, Du fun hE hL => r_iaO (i := 0) (k := k3) (xs := (s1.2 : List T_api_Call)) Tryd.underlying22 ty36 (look_t (hE _ _ rfl)) (look_t (hE _ _ rfl)) (hL 0 _ rfl rfl) (idx_some hk3), D1 (r_fa fd36_1.fd), ?_, trivial⟩ fun hd1 => ?_
   ·intro hd E' L' hE hL
    refine Sq.storeR (i := 0) (k := k3) ((Lens.id T_api_Call).comp le_T_api_Call_Data) (v := y3) (r := (lset s1.2 k3 ({ (lget s1.2 k3) with f_Data := y3 } : T_api_Call) : List T_api_Call)) ty25 (look_t (hE _ _ rfl)) (look_t (hE _ _ rfl)) (hL 0 _ rfl rfl) (idx_some hk3).1 rfl rfl (Sq.nil ?_)
    exact To.fin (gm []) rfl rfl
   refine To.eqL (L2 := [⟨g1.1, .row 36 (lset s1.2 k3 ({ (lget s1.2 k3) with f_Data := y3 } : T_api_Call) : List T_api_Call) g1.2⟩]) rfl (To.relen (m := (lset s1.2 k3 ({ (lget s1.2 k3) with f_Data := y3 } : T_api_Call)).length) 0 rfl (lset_len rfl) (To.relen (m := (lset s1.2 k3 ({ (lget s1.2 k3) with f_Data := y3 } : T_api_Call)).length) 16 rfl (lset_len rfl) (To.relen (m := (lset s1.2 k3 ({ (lget s1.2 k3) with f_Data := y3 } : T_api_Call)).length) 18 rfl (lset_len rfl) (To.relen (m := (lset s1.2 k3 ({ (lget s1.2 k3) with f_Data := y3 } : T_api_Call)).length) 23 rfl (lset_len rfl) (Qte ?_)))))
   refine To.bnorm (To.next (Wp.reg (Q2 r_add ?_)))
   refine Qm (Sq.nil ?_)
   cases h
   exact Qrd (g1.1, g1.2) 0
  ·refine Wp.exit (To.exit ?_)
   cases h
   exact Qlv (g1.1, g1.2) 0
 ·clear hl
  refine To.bexit (To.next (Qsr (Qm ?_)))
  refine Qa (Qnx (Wp.ret ?_))
  refine To.freezeL (α := T_api_Call) 0 [2, 0, 34] ⟨rfl, rfl, rfl, trivial⟩ rfl ?_
  cases h
  exact Qe1
instance k5 : K1 Tryd.prog 5 _ _ L_law33_short VP.of VP.of :=
  ⟨⟨_, Tryd.func5, rfl, by kernel_rfl⟩, fun _ _ h => C_law33_short h⟩
theorem C_script_Parse {x0 : ByteArray}  {r : (List T_api_Call) × Int × Int} (h : L_script_Parse x0 = some r) : MeetsL G0 Tryd.prog 9 [VP.of (x0)] (VP.tup [VP.of (r.1), VP.of (r.2.1), VP.of (r.2.2)]) := by
 unfold L_script_Parse at h
 refine MeetsL.of Tryd.func9 rfl Tryd.ntmps9 rfl fun W A hG => Qsr (Qv (r_asg (look_nil (α := T_api_Call))) ?_)
 refine Qa ?_
 refine Qa (Qnr ?_)
 refine Qm ?_
 refine Qbf h fun y1 hy1 h => Qv (r_callG hG en18 (lines_g hy1) ⟨look_t rfl, trivial⟩) ?_
 refine Qm ?_
 refine Qxt ?_
 refine Qxt ?_
 refine Qxt ?_
 refine Qa ?_
 refine Qa ?_
 refine Qa (Qns (Qsr ?_))
 refine Qm ?_
 refine Q1 r_not (Qnx ?_)
 refine Qcd h (fun h=>?_) fun h=>?_
 ·refine Qsr (Qm ?_)
  refine Qv (r_asg (look_nil (α := T_api_Call))) ?_
  refine Qa ?_
  refine Qa (Qnx (Wp.ret (To.ret ?_)))
  cases h
  exact To.end3 rfl (rv_t rfl) (rv_t rfl) (rv_t rfl)
 ·refine Qkn (Qsr (Qm ?_))
  refine Qa ?_
  refine Qa ?_
  refine Qa (Qnx (Wp.ret ?_))
  cases h
  exact To.end3 rfl (rv_t rfl) (rv_t rfl) (rv_t rfl)
end Go.Proofs.YtcglmhpembonmaaDoor

namespace Go.Proofs.YtcglmhpembonmaaDoor
open Go Gv
set_option linter.unusedVariables false
set_option linter.unusedSimpArgs false
set_option maxRecDepth 100000
set_option maxHeartbeats 2000000
theorem C_ref33_Same {x0 : List T_api_Call} {x1 : List T_api_Call}  {r : Bool} (h : L_ref33_Same x0 x1 = some r) : Meets Tryd.prog 11 [VP.of (x0), VP.of (x1)] (VP.of (r)) := by
 unfold L_ref33_Same at h
 refine Meets.of Tryd.func11 rfl Tryd.ntmps11 rfl fun W A => Qsr (Qa (Qns (Qsr ?_)))
 refine Qm ?_
 refine Q1 (r_len Tryd.underlying22) ?_
 refine Qm ?_
 refine Q1 (r_len Tryd.underlying22) ?_
 refine Q2 r_neq (Qnx ?_)
 refine Qcd h (fun h=>?_) fun h=>?_
 ·refine Qsr (Qa (Qnx (Wp.ret (To.ret ?_))))
  cases h
  exact Qe1
 ·refine Qkn (Wp.seq (Qsr (Qm ?_)))
  refine Q1 (r_len Tryd.underlying22) ?_
  refine Qm (Qnx (Wp.block ?_))
  refine Qbf h fun e1 hl h => ?_
  refine Qlq hl [0, 1, 4, 10, 12] (Tup.vl [13]) (Sum.elim (Xex 0) Xrt) (Sum.elim (Tup.vl [13, 14]) (Tup.vl [5, 13, 14, 41])) (fun s1 r h => ?_) ?_
  ·clear hl
   refine Qsr (Q2 r_lss (Qns ?_))
   refine Qcd h (fun h=>?_) fun h=>?_
   ·refine Qkn (Wp.seq (Wp.block (Qsr (Qm ?_))))
    refine Qa (Qns ?_)
    refine Qbf h fun k1 hk1 h => Qbf h fun k2 hk2 h => Qbf h fun k3 hk3 h => Qbf h fun k4 hk4 h => Qbf h fun z1 hz1 h => Wp.dv mixed 26 (rg 16 26) [[], [], [0, 1], [2], [3], [], [], [5, 6], [7], [8], [4, 9], [10], [11], [11], [11, 12, 13], [11, 14], [11, 15], [11, 16], [11], [11], [11, 18, 19], [11, 20], [11, 21], [11, 22], [11, 17, 23], [11, 24]] [_, _, _, _, _, _, _, _, _, _, _, _, _, _, _, _, _, _, _, _, _, _, _, _, _, _] ⟨Hm, Hm, Hix hk1 Tryd.underlying22 ty36, Hfp le_T_api_Call_Controller fd36_0.fd, H1 (r_loadp ty3), Hm, Hm, Hix hk2 Tryd.underlying22 ty36, Hfp le_T_api_Call_Controller fd36_0.fd, H1 (r_loadp ty3), H2 r_neq, Hm, Hg fun L' hL => fun hb => r_move (look_t rfl), Hg fun L' hL => fun hb => r_move (look_t rfl), Hg fun L' hL => fun hb => r_ias (k := k3) Tryd.underlying22 ty36 (look_tc rfl hb) (look_tc rfl hb) (idx_some (condM_some hk3 hb)), Hg fun L' hL => fun hb => r_fap le_T_api_Call_Data fd36_1.fd (look_tc rfl hb) rfl rfl, Hg fun L' hL => fun hb => r_loadp ty25 (look_tc rfl hb), Hg fun L' hL => fun hb => r_b2s Tryd.underlying25 Tryd.underlying5 Tryd.underlying9 (look_tc rfl hb), Hg fun L' hL => fun hb => r_move (look_t rfl), Hg fun L' hL => fun hb => r_move (look_t rfl), Hg fun L' hL => fun hb => r_ias (k := k4) Tryd.underlying22 ty36 (look_tc rfl hb) (look_tc rfl hb) (idx_some (condM_some hk4 hb)), Hg fun L' hL => fun hb => r_fap le_T_api_Call_Data fd36_1.fd (look_tc rfl hb) rfl rfl, Hg fun L' hL => fun hb => r_loadp ty25 (look_tc rfl hb), Hg fun L' hL => fun hb => r_b2s Tryd.underlying25 Tryd.underlying5 Tryd.underlying9 (look_tc rfl hb), Hg fun L' hL => fun hb => r_neS Tryd.underlying9 (look_tc rfl hb) (look_tc rfl hb), Hn hz1 fun L' hL => r_or (look_t rfl) (look_t rfl) (fun h => h), trivial⟩ (Qnx ?_)
    refine Qcd h (fun h=>?_) fun h=>?_
    ·refine Qsr (Qa (Qnx (Wp.ret ?_)))
     refine To.bret (To.ret ?_)
     cases h
     exact Qlv () 0
    ·refine Wp.skip (To.bnorm (To.next (Wp.reg (Q2 r_add ?_))))
     refine Qm (Sq.nil ?_)
     cases h
     exact Qrd () 0
   ·refine Wp.exit (To.exit ?_)
    cases h
    exact Qlv () 0
  ·clear hl
   rcases e1 with e1 | e1
   ·simp only [Sum.elim_inl] at h
    refine To.bexit (To.next (Qsr (Qa (Qnx (Wp.ret ?_)))))
    cases h
    exact Qe1
   ·simp only [Sum.elim_inr] at h
    refine To.bret (To.ret ?_)
    cases h
    exact Qe1
instance k11 : K2 Tryd.prog 11 _ _ _ L_ref33_Same VP.of VP.of VP.of :=
  ⟨⟨_, Tryd.func11, rfl, by kernel_rfl⟩, fun _ _ _ h => C_ref33_Same h⟩
theorem C_law33_begun   {r : Bool} (h : L_law33_begun  = some r) : MeetsL G0 Tryd.prog 12 [] (VP.of (r)) := by
 unfold L_law33_begun at h
 refine MeetsL.of Tryd.func12 rfl Tryd.ntmps12 rfl fun W A hG => Qsr (Qa (Qnr ?_))
 refine Qv (r_bsl (r := ([2#8] : List (BitVec 8))) Tryd.underlying25 ty5 zr5 rfl rfl (.cons (by simp) (look_u8 2 rfl) (.nil))) ?_
 refine Qbf h fun z1 hz1 h => Qn hz1 (r_build (b := { f_Controller := 3, f_Data := ([2#8] : List (BitVec 8)) : T_api_Call }) rfl bu36 zr36 (.cons le_T_api_Call_Controller rfl (look_int 3) rfl (.cons le_T_api_Call_Data rfl (look_t rfl) rfl (.nil)))) ?_
 refine Qbl [z1] Tryd.underlying22 ty36 zr36 ?_
 refine Qbf h fun y1 hy1 h => Qv (r_callG hG en6 (Cs_Format hy1) ⟨look_t rfl, trivial⟩) ?_
 refine Qv (r_eqS Tryd.underlying9 (look_t rfl) (look_str (ByteArray.mk #[51, 32, 48, 50, 10]))) ?_
 refine Qa (Qnx (Wp.ret ?_))
 cases h
 exact Qe1
end Go.Proofs.YtcglmhpembonmaaDoor

namespace Go.Proofs.YtcglmhpembonmaaDoor
open Go Gv
set_option linter.unusedVariables false
set_option linter.unusedSimpArgs false
set_option maxRecDepth 100000
set_option maxHeartbeats 2000000
theorem C_law33_ScriptBack {x0 : List T_api_Call} {x1 : ByteArray}  {r : Bool} (h : L_law33_ScriptBack x0 x1 = some r) : MeetsL G0 Tryd.prog 4 [VP.of (x0), VP.of (x1)] (VP.of (r)) := by
 unfold L_law33_ScriptBack at h
 refine MeetsL.of Tryd.func4 rfl Tryd.ntmps4 rfl fun W A hG => Qsr (Qa (Qnr ?_))
 refine Qm ?_
 refine Qbf h fun y1 hy1 h => Qcl en5 (C_law33_short hy1) ?_
 refine Qa (Qnr ?_)
 refine Qm ?_
 refine Qbf h fun y2 hy2 h => Qv (r_callG hG en6 (Cs_Format hy2) ⟨look_t rfl, trivial⟩) ?_
 refine Qbf h fun y3 hy3 h => Qv (r_callG hG en9 (C_script_Parse hy3) ⟨look_t rfl, trivial⟩) ?_
 refine Qm ?_
 refine Qxt ?_
 refine Qxt ?_
 refine Qxt ?_
 refine Qa ?_
 refine Qa ?_
 refine Qa (Qnr ?_)
 refine Qm ?_
 refine Qm ?_
 refine Q1 (r_lens Tryd.underlying9) ?_
 refine Q2 r_min ?_
 refine Qbf h fun y4 hy4 h => Qv (r_slcS Tryd.underlying9 (look_t rfl) .none (.some (look_t rfl)) hy4) ?_
 refine Qbf h fun y5 hy5 h => Qv (r_callG hG en9 (C_script_Parse hy5) ⟨look_t rfl, trivial⟩) ?_
 refine Qm ?_
 refine Qxt ?_
 refine Qxt ?_
 refine Qxt ?_
 refine Qa ?_
 refine Qa ?_
 refine Qa (Qns ?_)
 refine Qbf h fun y6 hy6 h => Qbf h fun y7 hy7 h => Qbf h fun y8 hy8 h => Qbf h fun z1 hz1 h => Qbf h fun y9 hy9 h => Wp.dv mixed 24 (rg 30 24) [[], [0], [1], [2], [2], [2, 3, 4], [2, 5], [6], [7], [7, 8], [7, 9], [10], [10, 11], [10], [10], [10, 14], [10, 15], [10, 13, 16], [10, 12, 17], [7, 10, 18], [7, 19], [20], [21], [21, 22]] [_, _, _, _, _, _, _, _, _, _, _, _, _, _, _, _, _, _, _, _, _, _, _, _] ⟨Hm, H2 r_eql, Hm, Hg fun L' hL => fun hb => r_move (look_t rfl), Hg fun L' hL => fun hb => r_move (look_t rfl), Hg fun L' hL => fun hb => r_call en11 (C_ref33_Same (condM_some hy6 hb)) ⟨look_tc rfl hb, look_tc rfl hb, trivial⟩, Hu fun hL => r_and (look_t rfl) (look_t rfl) (fun h => h), Hm, Hg fun L' hL => fun hb => r_move (look_t rfl), Hg fun L' hL => fun hb => r_neq (look_tc rfl hb) (look_int 0), Hg fun L' hL => fun hb => r_move (look_tc rfl hb), fun L' hL => HO.gg (fun hb => r_move (look_t rfl)) rfl rfl rfl, fun L' hL => HO.gg (fun hb => r_callG hG en6 (Cs_Format (condM_some hy7 (decide_eq_true hb))) ⟨look_tc rfl hb, trivial⟩) rfl rfl rfl, fun L' hL => HO.gg (fun hb => r_move (look_t rfl)) rfl rfl rfl, fun L' hL => HO.gg (fun hb => r_move (look_t rfl)) rfl rfl rfl, fun L' hL => HO.gg (fun hb => r_lens Tryd.underlying9 (look_tc rfl hb)) rfl rfl rfl, fun L' hL => HO.gg (fun hb => r_min (look_tc rfl hb) (look_int 100)) rfl rfl rfl, fun L' hL => HO.gg (fun hb => r_slcS Tryd.underlying9 (look_tc rfl hb) .none (.some (look_tc rfl hb)) (condM_some hy8 (decide_eq_true hb))) rfl rfl rfl, fun L' hL => HO.gg (fun hb => r_eqS Tryd.underlying9 (look_tc rfl hb) (look_tc rfl hb)) rfl rfl rfl, Hg fun L' hL => fun hb => r_or (look_tc rfl hb) (look_t rfl) (fun h => ⟨hb, h⟩), Hn hz1 fun L' hL => r_and (look_t rfl) (look_t rfl) (fun h => h), Hm, Hg fun L' hL => fun hb => r_callG hG en12 (C_law33_begun (condM_some hy9 hb)) trivial, Hu fun hL => r_and (look_t rfl) (look_t rfl) (fun h => h), trivial⟩ ?_
 refine Qa (Qnx (Wp.ret ?_))
 cases h
 exact Qe1
end Go.Proofs.YtcglmhpembonmaaDoor

