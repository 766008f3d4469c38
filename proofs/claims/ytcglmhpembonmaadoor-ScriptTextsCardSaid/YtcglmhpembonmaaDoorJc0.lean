/-
  Each function meets its functional program. Conditions: none.
-/
import Derived.Test.YtcglmhpembonmaaDoorJd
import Derived.Test.YtcglmhpembonmaaDoorJs0
namespace Go.Proofs.YtcglmhpembonmaaDoor
open Go Gv
set_option linter.unusedVariables false
set_option linter.unusedSimpArgs false
set_option maxRecDepth 100000
set_option maxHeartbeats 2000000
theorem C_law33_short {x0 : List T_api_Call}  {r : (List T_api_Call)} (h : L_law33_short x0 = some r) : Meets Tryd.prog 5 [VP.of (x0)] (VP.of (r)) := by
 unfold L_law33_short at h
 refine Meets.of Tryd.func5 rfl Tryd.ntmps5 rfl fun W A => Qsr (Qv (r_asg (look_nil (α := T_api_Call))) (Qnr ?_))
 refine Sq.bslO (α := T_api_Call) (r := ([] : List T_api_Call)) Tryd.underlying22 ty36 zr36 rfl rfl (.nil) rfl fun key1 => Qm ?_
 refine Qm ?_
 refine Q1 (r_len Tryd.underlying22) ?_
 refine Q2 r_min ?_
 refine Qbf h fun y1 hy1 h => Qv (r_slice Tryd.underlying22 ty36 (look_t rfl) .none (.some (look_t rfl)) hy1) ?_
 refine Qbf h fun y2 hy2 h => Qap 0 Tryd.underlying22 ty36 zr36 hy2 fun key2 cap1 => ?_
 refine Qa (Qns (Qsr ?_))
 refine Qm ?_
 refine Qv (r_lenO (i := 0) Tryd.underlying22 (look_t rfl) rfl rfl) ?_
 refine Qm (Qnx (Wp.block ?_))
 refine Qbf h fun e1 hl h => ?_
 refine Qlp (γ:=(Option Nat × Nat)) (δ:=(Option Nat × Nat)) hl [2, 12] (fun s1 g1 => [(0, VP.eq (slv g1.1 s1.2.length g1.2)), (13, VP.of (s1.1))]) (fun s1 g1 => [(0, ⟨g1.1, .row 36 s1.2 g1.2⟩)]) (fun q1 => Exit.exit 0) (fun q1 g1 => [(0, VP.eq (slv g1.1 q1.2.2.length g1.2)), (13, VP.of (q1.1)), (14, VP.of (q1.2.1))]) (fun q1 g1 => [(0, ⟨g1.1, .row 36 q1.2.2 g1.2⟩)]) (key2, cap1) (fun s1 r h g1 => ?_) fun g1 => ?_
 ·clear hl
  refine Qsr (Q2 r_lss (Qns ?_))
  refine Qcd h (fun h=>?_) fun h=>?_
  ·refine Qkn (Wp.seq (Wp.block (Qsr (Qm ?_))))
   refine Qa (Qnx ?_)
   refine Qbf h fun k1 hk1 h => Qbf h fun k2 hk2 h => Qbf h fun y3 hy3 h => Qbf h fun k3 hk3 h => Qwl [0, 2, 3, 12, 13, 14, 15] ?_
   refine Wp.eD mixed (Hp 16 [] [] _ :: Hp 17 [] [] _ :: Hp 18 [] [] _ :: Hp 19 [] [] _ :: Hp 20 [2, 3] [0] _ :: Hp 21 [4] [] _ :: Hp 22 [5] [0] _ :: Hp 23 [] [] _ :: Hp 24 [] [] _ :: Hp 25 [7, 8] [0] _ :: Hp 26 [9] [] _ :: Hp 27 [10] [0] _ :: Hp 28 [11] [] _ :: Hp 29 [12] [] _ :: Hp 30 [6, 13] [] _ :: Hp 31 [0, 1] [0] _ :: Hp 32 [15] [] _ :: Hs [4, 6, 9, 11, 14, 15, 16] [0] [0] (fun hd => ⟨g1.1, .row 36 (lset s1.2 k3 ({ (lget s1.2 k3) with f_Data := y3 } : T_api_Call) : List T_api_Call) g1.2⟩) :: []) ⟨Dm, Dm, Dm, Dm, Du fun hE hL => r_iaO (i := 0) (k := k1) (xs := (s1.2 : List T_api_Call)) Tryd.underlying22 ty36 (look_t (hE _ _ rfl)) (look_t (hE _ _ rfl)) (hL 0 _ rfl rfl) (idx_some hk1), D1 (r_fa fd36_1.fd), Du fun hE hL => r_loadR (i := 0) (k := k1) ((Lens.id T_api_Call).comp le_T_api_Call_Data) (r := (lget s1.2 k1).f_Data) ty25 (look_t (hE _ _ rfl)) (hL 0 _ rfl rfl) (idx_some hk1).1 rfl rfl, Dm, Dm, Du fun hE hL => r_iaO (i := 0) (k := k2) (xs := (s1.2 : List T_api_Call)) Tryd.underlying22 ty36 (look_t (hE _ _ rfl)) (look_t (hE _ _ rfl)) (hL 0 _ rfl rfl) (idx_some hk2), D1 (r_fa fd36_1.fd), Du fun hE hL => r_loadR (i := 0) (k := k2) ((Lens.id T_api_Call).comp le_T_api_Call_Data) (r := (lget s1.2 k2).f_Data) ty25 (look_t (hE _ _ rfl)) (hL 0 _ rfl rfl) (idx_some hk2).1 rfl rfl, D1 (r_len Tryd.underlying25), D2 r_min, Du fun hE hL => r_slice Tryd.underlying25 ty5 (look_t (hE _ _ rfl)) .none (.some (look_t (hE _ _ rfl))) hy3, Du fun hE hL => r_iaO (i := 0) (k := k3) (xs := (s1.2 : List T_api_Call)) Tryd.underlying22 ty36 (look_t (hE _ _ rfl)) (look_t (hE _ _ rfl)) (hL 0 _ rfl rfl) (idx_some hk3), D1 (r_fa fd36_1.fd), ?_, trivial⟩ fun hd1 => ?_
   ·intro hd E' L' hE hL
    refine Sq.storeR (i := 0) (k := k3) ((Lens.id T_api_Call).comp le_T_api_Call_Data) (v := y3) (r := (lset s1.2 k3 ({ (lget s1.2 k3) with f_Data := y3 } : T_api_Call) : List T_api_Call)) ty25 (look_t (hE _ _ rfl)) (look_t (hE _ _ rfl)) (hL 0 _ rfl rfl) (idx_some hk3).1 rfl rfl (Sq.nil ?_)
    exact To.fin (gm []) rfl rfl
   refine To.eqL (L2 := [⟨g1.1, .row 36 (lset s1.2 k3 ({ (lget s1.2 k3) with f_Data := y3 } : T_api_Call) : List T_api_Call) g1.2⟩]) rfl (To.relen (m := (lset s1.2 k3 ({ (lget s1.2 k3) with f_Data := y3 } : T_api_Call)).length) 0 rfl (lset_len rfl) (To.relen (m := (lset s1.2 k3 ({ (lget s1.2 k3) with f_Data := y3 } : T_api_Call)).length) 16 rfl (lset_len rfl) (To.relen (m := (lset s1.2 k3 ({ (lget s1.2 k3) with f_Data := y3 } : T_api_Call)).length) 18 rfl (lset_len rfl) (To.relen (m := (lset s1.2 k3 ({ (lget s1.2 k3) with f_Data := y3 } : T_api_Call)).length) 23 rfl (lset_len rfl) (Qte ?_)))))
   refine To.bnorm (To.next (Wp.reg (Q2 r_add ?_)))
   refine Qm (Sq.nil ?_)
   cases h
   exact Qrd (g1.1, g1.2) 0
  ·refine Wp.exit (To.exit ?_)
   cases h
   exact Qlv (g1.1, g1.2) 0
 ·clear hl
  refine To.bexit (To.next (Qsr (Qm ?_)))
  refine Qa (Qnx (Wp.ret ?_))
  refine To.freezeL (α := T_api_Call) 0 [2, 0, 34] ⟨rfl, rfl, rfl, trivial⟩ rfl ?_
  cases h
  exact Qe1
instance k5 : K1 Tryd.prog 5 _ _ L_law33_short VP.of VP.of :=
  ⟨⟨_, Tryd.func5, rfl, by kernel_rfl⟩, fun _ _ h => C_law33_short h⟩
theorem Cr_ref33_digits (n : Nat) : ∀ (x0 : BitVec 64)  (r : ByteArray), Lr_ref33_digits n x0 = some r → Meets Tryd.prog 30 [VP.of (x0)] (VP.of (r)) := by
  induction n with
  | zero => intro x0  r h; simp [Lr_ref33_digits] at h
  | succ n ih =>
    intro x0  r h
    simp only [Lr_ref33_digits] at h
    refine Meets.of Tryd.func30 rfl Tryd.ntmps30 rfl fun W A => Qsr (Qa (Qns (Qsr ?_)))
    refine Qm ?_
    refine Qv (r_lss64 (look_t rfl) (look_u64 10 rfl)) (Qnx ?_)
    refine Qcd h (fun h=>?_) fun h=>?_
    ·refine Qsr (Qm ?_)
     refine Qv (r_add64 (look_u64 48 rfl) (look_t rfl)) ?_
     refine Q1 (r_c64_8 Tryd.underlying65 Tryd.underlying5) ?_
     refine Qbl [((48#64) + x0).setWidth 8] Tryd.underlying25 ty5 zr5 ?_
     refine Qv (r_b2s Tryd.underlying25 Tryd.underlying5 Tryd.underlying9 (look_t rfl)) ?_
     refine Qa (Qnx (Wp.ret (To.ret ?_)))
     cases h
     exact Qe1
    ·refine Qkn (Wp.seq (Qbf h fun y1 hy1 h => Qbf h fun y2 hy2 h => Qbf h fun y3 hy3 h => Qbf h fun y4 hy4 h => ?_))
     refine Wp.dv mixed 10 (rg 10 10) [[], [0], [1], [], [3], [4], [5], [6], [7], [2, 8]] [_, _, _, _, _, _, _, _, _, _] ⟨Hm, Hu fun hL => r_quo64 (look_t rfl) (look_u64 10 rfl) (uquoM_some hy1), Hcl en30 (ih _ _ hy2), Hm, Hu fun hL => r_rem64 (look_t rfl) (look_u64 10 rfl) (uremM_some hy3), Hu fun hL => r_add64 (look_u64 48 rfl) (look_t rfl), H1 (r_c64_8 Tryd.underlying65 Tryd.underlying5), Hu fun hL => r_bsl (r := [((48#64) + y3).setWidth 8]) Tryd.underlying25 ty5 zr5 rfl rfl (.cons (by simp) (look_t rfl) (.nil)), Hu fun hL => r_b2s Tryd.underlying25 Tryd.underlying5 Tryd.underlying9 (look_t rfl), Hu fun hL => r_cat (look_t rfl) (look_t rfl) hy4, trivial⟩ ?_
     refine Qa (Qnx (Wp.ret ?_))
     cases h
     exact Qe1
theorem C_ref33_digits {x0 : BitVec 64}  {r : ByteArray} (h : L_ref33_digits x0 = some r) : Meets Tryd.prog 30 [VP.of (x0)] (VP.of (r)) := Cr_ref33_digits FUEL x0  r h
instance k30 : K1 Tryd.prog 30 _ _ L_ref33_digits VP.of VP.of :=
  ⟨⟨_, Tryd.func30, rfl, by kernel_rfl⟩, fun _ _ h => C_ref33_digits h⟩
theorem C_mcase_Mod {x0 : Int} {x1 : Int}  {r : Int} (h : L_mcase_Mod x0 x1 = some r) : Meets Tryd.prog 8 [VP.of (x0), VP.of (x1)] (VP.of (r)) := by
 unfold L_mcase_Mod at h
 refine Meets.of Tryd.func8 rfl Tryd.ntmps8 rfl fun W A => Qsr (Qa (Qns (Qsr ?_)))
 refine Qm ?_
 refine Q2 r_lss (Qnx ?_)
 refine Qcd h (fun h=>?_) fun h=>?_
 ·refine Qsr (Qa (Qnx (Wp.ret (To.ret ?_))))
  cases h
  exact Qe1
 ·refine Qkn (Qsr (Qm ?_))
  refine Qm ?_
  refine Qbf h fun y1 hy1 h => Qv (r_rem (look_t rfl) (look_t rfl) (modM_some hy1)) ?_
  refine Qm ?_
  refine Q2 r_add ?_
  refine Qm ?_
  refine Qbf h fun y2 hy2 h => Qv (r_rem (look_t rfl) (look_t rfl) (modM_some hy2)) ?_
  refine Qa (Qnx (Wp.ret ?_))
  cases h
  exact Qe1
instance k8 : K2 Tryd.prog 8 _ _ _ L_mcase_Mod VP.of VP.of VP.of :=
  ⟨⟨_, Tryd.func8, rfl, by kernel_rfl⟩, fun _ _ _ h => C_mcase_Mod h⟩
theorem C_script_Parse {x0 : ByteArray}  {r : (List T_api_Call) × Int × Int} (h : L_script_Parse x0 = some r) : MeetsL G0 Tryd.prog 9 [VP.of (x0)] (VP.tup [VP.of (r.1), VP.of (r.2.1), VP.of (r.2.2)]) := by
 unfold L_script_Parse at h
 refine MeetsL.of Tryd.func9 rfl Tryd.ntmps9 rfl fun W A hG => Qsr (Qv (r_asg (look_nil (α := T_api_Call))) ?_)
 refine Qa ?_
 refine Qa (Qnr ?_)
 refine Qm ?_
 refine Qbf h fun y1 hy1 h => Qv (r_callG hG en18 (lines_g hy1) ⟨look_t rfl, trivial⟩) ?_
 refine Qm ?_
 refine Qxt ?_
 refine Qxt ?_
 refine Qxt ?_
 refine Qa ?_
 refine Qa ?_
 refine Qa (Qns (Qsr ?_))
 refine Qm ?_
 refine Q1 r_not (Qnx ?_)
 refine Qcd h (fun h=>?_) fun h=>?_
 ·refine Qsr (Qm ?_)
  refine Qv (r_asg (look_nil (α := T_api_Call))) ?_
  refine Qa ?_
  refine Qa (Qnx (Wp.ret (To.ret ?_)))
  cases h
  exact To.end3 rfl (rv_t rfl) (rv_t rfl) (rv_t rfl)
 ·refine Qkn (Qsr (Qm ?_))
  refine Qa ?_
  refine Qa ?_
  refine Qa (Qnx (Wp.ret ?_))
  cases h
  exact To.end3 rfl (rv_t rfl) (rv_t rfl) (rv_t rfl)
theorem C_ref33_hex {x0 : BitVec 8}  {r : (BitVec 8)} (h : L_ref33_hex x0 = some r) : Meets Tryd.prog 27 [VP.of (x0)] (VP.of (r)) := by
 unfold L_ref33_hex at h
 refine Meets.of Tryd.func27 rfl Tryd.ntmps27 rfl fun W A => Qsr (Qv (r_asg (look_u8 0 rfl)) (Qns (Wp.block (Qsr ?_))))
 refine Qm ?_
 refine Qv (r_geq8 (look_t rfl) (look_u8 48 rfl)) ?_
 refine Qm ?_
 refine Qg1 r_move ?_
 refine Qg (fun hb => r_leq8 (look_tc rfl hb) (look_u8 57 rfl)) ?_
 refine Qan ?_
 refine Qa (Qnx ?_)
 refine Qcd h (fun h=>?_) fun h=>?_
 ·refine Qsr (Qm ?_)
  refine Qv (r_sub8 (look_t rfl) (look_u8 48 rfl)) ?_
  refine Qa (Qnx (Wp.ret ?_))
  refine To.bret (To.ret ?_)
  cases h
  exact Qe1
 ·refine Qsr (Qm ?_)
  refine Qv (r_geq8 (look_t rfl) (look_u8 97 rfl)) ?_
  refine Qm ?_
  refine Qg1 r_move ?_
  refine Qg (fun hb => r_leq8 (look_tc rfl hb) (look_u8 102 rfl)) ?_
  refine Qan ?_
  refine Qa (Qnx ?_)
  refine Qcd h (fun h=>?_) fun h=>?_
  ·refine Qsr (Qm ?_)
   refine Qv (r_sub8 (look_t rfl) (look_u8 97 rfl)) ?_
   refine Qv (r_add8 (look_t rfl) (look_u8 10 rfl)) ?_
   refine Qa (Qnx (Wp.ret ?_))
   refine To.bret (To.ret ?_)
   cases h
   exact Qe1
  ·refine Wp.skip (To.bnorm (To.next (Qsr (Qv (r_asg (look_u8 0 rfl)) (Qnx (Wp.ret ?_))))))
   cases h
   exact Qe1
instance k27 : K1 Tryd.prog 27 _ _ L_ref33_hex VP.of VP.of :=
  ⟨⟨_, Tryd.func27, rfl, by kernel_rfl⟩, fun _ _ h => C_ref33_hex h⟩
end Go.Proofs.YtcglmhpembonmaaDoor

namespace Go.Proofs.YtcglmhpembonmaaDoor
open Go Gv
set_option linter.unusedVariables false
set_option linter.unusedSimpArgs false
set_option maxRecDepth 100000
set_option maxHeartbeats 2000000
theorem C_ref33_Same {x0 : List T_api_Call} {x1 : List T_api_Call}  {r : Bool} (h : L_ref33_Same x0 x1 = some r) : Meets Tryd.prog 11 [VP.of (x0), VP.of (x1)] (VP.of (r)) := by
 unfold L_ref33_Same at h
 refine Meets.of Tryd.func11 rfl Tryd.ntmps11 rfl fun W A => Qsr (Qa (Qns (Qsr ?_)))
 refine Qm ?_
 refine Q1 (r_len Tryd.underlying22) ?_
 refine Qm ?_
 refine Q1 (r_len Tryd.underlying22) ?_
 refine Q2 r_neq (Qnx ?_)
 refine Qcd h (fun h=>?_) fun h=>?_
 ·refine Qsr (Qa (Qnx (Wp.ret (To.ret ?_))))
  cases h
  exact Qe1
 ·refine Qkn (Wp.seq (Qsr (Qm ?_)))
  refine Q1 (r_len Tryd.underlying22) ?_
  refine Qm (Qnx (Wp.block ?_))
  refine Qbf h fun e1 hl h => ?_
  refine Qlq hl [0, 1, 4, 10, 12] (Tup.vl [13]) (Sum.elim (Xex 0) Xrt) (Sum.elim (Tup.vl [13, 14]) (Tup.vl [5, 13, 14, 41])) (fun s1 r h => ?_) ?_
  ·clear hl
   refine Qsr (Q2 r_lss (Qns ?_))
   refine Qcd h (fun h=>?_) fun h=>?_
   ·refine Qkn (Wp.seq (Wp.block (Qsr (Qm ?_))))
    refine Qa (Qns ?_)
    refine Qbf h fun k1 hk1 h => Qbf h fun k2 hk2 h => Qbf h fun k3 hk3 h => Qbf h fun k4 hk4 h => Qbf h fun z1 hz1 h => Wp.dv mixed 26 (rg 16 26) [[], [], [0, 1], [2], [3], [], [], [5, 6], [7], [8], [4, 9], [10], [11], [11], [11, 12, 13], [11, 14], [11, 15], [11, 16], [11], [11], [11, 18, 19], [11, 20], [11, 21], [11, 22], [11, 17, 23], [11, 24]] [_, _, _, _, _, _, _, _, _, _, _, _, _, _, _, _, _, _, _, _, _, _, _, _, _, _] ⟨Hm, Hm, Hix hk1 Tryd.underlying22 ty36, Hfp le_T_api_Call_Controller fd36_0.fd, H1 (r_loadp ty3), Hm, Hm, Hix hk2 Tryd.underlying22 ty36, Hfp le_T_api_Call_Controller fd36_0.fd, H1 (r_loadp ty3), H2 r_neq, Hm, Hg fun L' hL => fun hb => r_move (look_t rfl), Hg fun L' hL => fun hb => r_move (look_t rfl), Hg fun L' hL => fun hb => r_ias (k := k3) Tryd.underlying22 ty36 (look_tc rfl hb) (look_tc rfl hb) (idx_some (condM_some hk3 hb)), Hg fun L' hL => fun hb => r_fap le_T_api_Call_Data fd36_1.fd (look_tc rfl hb) rfl rfl, Hg fun L' hL => fun hb => r_loadp ty25 (look_tc rfl hb), Hg fun L' hL => fun hb => r_b2s Tryd.underlying25 Tryd.underlying5 Tryd.underlying9 (look_tc rfl hb), Hg fun L' hL => fun hb => r_move (look_t rfl), Hg fun L' hL => fun hb => r_move (look_t rfl), Hg fun L' hL => fun hb => r_ias (k := k4) Tryd.underlying22 ty36 (look_tc rfl hb) (look_tc rfl hb) (idx_some (condM_some hk4 hb)), Hg fun L' hL => fun hb => r_fap le_T_api_Call_Data fd36_1.fd (look_tc rfl hb) rfl rfl, Hg fun L' hL => fun hb => r_loadp ty25 (look_tc rfl hb), Hg fun L' hL => fun hb => r_b2s Tryd.underlying25 Tryd.underlying5 Tryd.underlying9 (look_tc rfl hb), Hg fun L' hL => fun hb => r_neS Tryd.underlying9 (look_tc rfl hb) (look_tc rfl hb), Hn hz1 fun L' hL => r_or (look_t rfl) (look_t rfl) (fun h => h), trivial⟩ (Qnx ?_)
    refine Qcd h (fun h=>?_) fun h=>?_
    ·refine Qsr (Qa (Qnx (Wp.ret ?_)))
     refine To.bret (To.ret ?_)
     cases h
     exact Qlv () 0
    ·refine Wp.skip (To.bnorm (To.next (Wp.reg (Q2 r_add ?_))))
     refine Qm (Sq.nil ?_)
     cases h
     exact Qrd () 0
   ·refine Wp.exit (To.exit ?_)
    cases h
    exact Qlv () 0
  ·clear hl
   rcases e1 with e1 | e1
   ·simp only [Sum.elim_inl] at h
    refine To.bexit (To.next (Qsr (Qa (Qnx (Wp.ret ?_)))))
    cases h
    exact Qe1
   ·simp only [Sum.elim_inr] at h
    refine To.bret (To.ret ?_)
    cases h
    exact Qe1
instance k11 : K2 Tryd.prog 11 _ _ _ L_ref33_Same VP.of VP.of VP.of :=
  ⟨⟨_, Tryd.func11, rfl, by kernel_rfl⟩, fun _ _ _ h => C_ref33_Same h⟩
theorem C_law33_begun   {r : Bool} (h : L_law33_begun  = some r) : MeetsL G0 Tryd.prog 12 [] (VP.of (r)) := by
 unfold L_law33_begun at h
 refine MeetsL.of Tryd.func12 rfl Tryd.ntmps12 rfl fun W A hG => Qsr (Qa (Qnr ?_))
 refine Qv (r_bsl (r := ([2#8] : List (BitVec 8))) Tryd.underlying25 ty5 zr5 rfl rfl (.cons (by simp) (look_u8 2 rfl) (.nil))) ?_
 refine Qbf h fun z1 hz1 h => Qn hz1 (r_build (b := { f_Controller := 3, f_Data := ([2#8] : List (BitVec 8)) : T_api_Call }) rfl bu36 zr36 (.cons le_T_api_Call_Controller rfl (look_int 3) rfl (.cons le_T_api_Call_Data rfl (look_t rfl) rfl (.nil)))) ?_
 refine Qbl [z1] Tryd.underlying22 ty36 zr36 ?_
 refine Qbf h fun y1 hy1 h => Qv (r_callG hG en6 (Cs_Format hy1) ⟨look_t rfl, trivial⟩) ?_
 refine Qv (r_eqS Tryd.underlying9 (look_t rfl) (look_str (ByteArray.mk #[51, 32, 48, 50, 10]))) ?_
 refine Qa (Qnx (Wp.ret ?_))
 cases h
 exact Qe1
theorem C_ref33_decimal {x0 : Int}  {r : ByteArray} (h : L_ref33_decimal x0 = some r) : Meets Tryd.prog 22 [VP.of (x0)] (VP.of (r)) := by
 unfold L_ref33_decimal at h
 refine Meets.of Tryd.func22 rfl Tryd.ntmps22 rfl fun W A => Qsr (Qa (Qns (Qsr ?_)))
 refine Qm ?_
 refine Q2 r_lss (Qnx ?_)
 refine Qcd h (fun h=>?_) fun h=>?_
 ·refine Qsr (Qm ?_)
  refine Q2 r_add ?_
  refine Q1 r_neg ?_
  refine Q1 (r_ci64 Tryd.underlying3 Tryd.underlying65) ?_
  refine Qv (r_add64 (look_t rfl) (look_u64 1 rfl)) ?_
  refine Qbf h fun y1 hy1 h => Qcl en30 (C_ref33_digits hy1) ?_
  refine Qbf h fun y2 hy2 h => Qv (r_cat (look_str (ByteArray.mk #[45])) (look_t rfl) hy2) ?_
  refine Qa (Qnx (Wp.ret (To.ret ?_)))
  cases h
  exact Qe1
 ·refine Qkn (Qsr (Qm ?_))
  refine Q1 (r_ci64 Tryd.underlying3 Tryd.underlying65) ?_
  refine Qbf h fun y3 hy3 h => Qcl en30 (C_ref33_digits hy3) ?_
  refine Qa (Qnx (Wp.ret ?_))
  cases h
  exact Qe1
instance k22 : K1 Tryd.prog 22 _ _ L_ref33_decimal VP.of VP.of :=
  ⟨⟨_, Tryd.func22, rfl, by kernel_rfl⟩, fun _ _ h => C_ref33_decimal h⟩
end Go.Proofs.YtcglmhpembonmaaDoor

namespace Go.Proofs.YtcglmhpembonmaaDoor
open Go Gv
set_option linter.unusedVariables false
set_option linter.unusedSimpArgs false
set_option maxRecDepth 100000
set_option maxHeartbeats 2000000
theorem C_ref33_Line {x0 : T_api_Call}  {r : ByteArray} (h : L_ref33_Line x0 = some r) : Meets Tryd.prog 17 [VP.of (x0)] (VP.of (r)) := by
 unfold L_ref33_Line at h
 refine Meets.of Tryd.func17 rfl Tryd.ntmps17 rfl fun W A => Qsr (Qbx fun p1 => ?_)
 refine Qa (Qnr ?_)
 refine Q1 (r_fa fd36_0.fd) ?_
 refine Qld 0 le_T_api_Call_Controller ty3 ?_
 refine Qbf h fun y1 hy1 h => Qcl en22 (C_ref33_decimal hy1) ?_
 refine Qbf h fun y2 hy2 h => Qv (r_cat (look_t rfl) (look_str (ByteArray.mk #[32])) hy2) ?_
 refine Qbf h fun y3 hy3 h => Sq.s2bO Tryd.underlying9 Tryd.underlying25 Tryd.underlying5 (look_t rfl) hy3 rfl fun key1 cap1 => Qa (Qns (Qsr ?_))
 refine Q1 (r_fa fd36_1.fd) ?_
 refine Qld 1 le_T_api_Call_Data ty25 ?_
 refine Q1 (r_len Tryd.underlying25) ?_
 refine Qm (Qnx (Wp.block ?_))
 refine Qbf h fun e1 hl h => ?_
 refine Qlp (γ:=(Option Nat × Nat)) (δ:=(Option Nat × Nat)) hl [0, 1, 2, 12, 13] (fun s1 g1 => [(3, VP.eq (slv g1.1 s1.2.length g1.2)), (14, VP.of (s1.1))]) (fun s1 g1 => [(0, ⟨g1.1, .row 5 s1.2 g1.2⟩)]) (fun q1 => Exit.exit 0) (fun q1 g1 => [(3, VP.eq (slv g1.1 q1.2.2.length g1.2)), (14, VP.of (q1.1)), (15, VP.of (q1.2.1))]) (fun q1 g1 => [(0, ⟨g1.1, .row 5 q1.2.2 g1.2⟩)]) (key1, cap1) (fun s1 r h g1 => ?_) fun g1 => ?_
 ·clear hl
  refine Qsr (Q2 r_lss (Qns ?_))
  refine Qcd h (fun h=>?_) fun h=>?_
  ·refine Qkn (Wp.seq (Wp.block (Qsr (Qbf h fun k1 hk1 h => Qix hk1 Tryd.underlying25 ty5 ?_))))
   refine Q1 (r_loadp ty5) ?_
   refine Qa (Qnx ?_)
   refine Qbf h fun y4 hy4 h => Qbf h fun y5 hy5 h => ?_
   refine Wp.dv mixed 8 (rg 18 8) [[], [], [1], [2], [], [4], [5], [3, 6]] [_, _, _, _, _, _, _, _] ⟨Hm, Hm, Hu fun hL => r_shr8 (look_t rfl) (look_u64 4 rfl), Hu fun hL => r_idxs8 Tryd.underlying9 (look_str (ByteArray.mk #[48, 49, 50, 51, 52, 53, 54, 55, 56, 57, 97, 98, 99, 100, 101, 102])) (look_t rfl) hy4, Hm, Hu fun hL => r_and8 (look_t rfl) (look_u8 15 rfl), Hu fun hL => r_idxs8 Tryd.underlying9 (look_str (ByteArray.mk #[48, 49, 50, 51, 52, 53, 54, 55, 56, 57, 97, 98, 99, 100, 101, 102])) (look_t rfl) hy5, Hu fun hL => r_bsl (r := [y4, y5]) Tryd.underlying25 ty5 zr5 rfl rfl (.cons (by simp) (look_t rfl) (.cons (by simp) (look_t rfl) (.nil))), trivial⟩ ?_
   refine Qbf h fun y6 hy6 h => Qap 0 Tryd.underlying25 ty5 zr5 hy6 fun key2 cap2 => ?_
   refine Qa (Sq.nil ?_)
   refine To.bnorm (To.next (Wp.reg (Q2 r_add ?_)))
   refine Qm (Sq.nil ?_)
   cases h
   exact Qrd (key2, cap2) 0
  ·refine Wp.exit (To.exit ?_)
   cases h
   exact Qlv (g1.1, g1.2) 0
 ·clear hl
  refine To.bexit (To.next (Qsr (Qm ?_)))
  refine Qv (r_bsl (r := ([10#8] : List (BitVec 8))) Tryd.underlying25 ty5 zr5 rfl rfl (.cons (by simp) (look_u8 10 rfl) (.nil))) ?_
  refine Qbf h fun y7 hy7 h => Qap 0 Tryd.underlying25 ty5 zr5 hy7 fun key3 cap3 => ?_
  refine Sq.freeze (α := BitVec 8) 0 30 rfl rfl (Qv (r_b2s Tryd.underlying25 Tryd.underlying5 Tryd.underlying9 (look_t rfl)) ?_)
  refine Qa (Qnx (Wp.ret ?_))
  cases h
  exact Qe1
instance k17 : K1 Tryd.prog 17 _ _ L_ref33_Line VP.of VP.of :=
  ⟨⟨_, Tryd.func17, rfl, by kernel_rfl⟩, fun _ _ h => C_ref33_Line h⟩
theorem C_ref33_Format {x0 : List T_api_Call}  {r : ByteArray} (h : L_ref33_Format x0 = some r) : Meets Tryd.prog 7 [VP.of (x0)] (VP.of (r)) := by
 unfold L_ref33_Format at h
 refine Meets.of Tryd.func7 rfl Tryd.ntmps7 rfl fun W A => Qsr (Qa (Qnr ?_))
 refine Qa (Qns (Qsr ?_))
 refine Qm ?_
 refine Q1 (r_len Tryd.underlying22) ?_
 refine Qm (Qnx (Wp.block ?_))
 refine Qbf h fun e1 hl h => ?_
 refine Qlq hl [0, 2, 6, 7] (Tup.vl [3, 8]) (Xex 0) (Tup.vl [3, 8, 9]) (fun s1 r h => ?_) ?_
 ·clear hl
  refine Qsr (Q2 r_lss (Qns ?_))
  refine Qcd h (fun h=>?_) fun h=>?_
  ·refine Qkn (Wp.seq (Wp.block (Qsr (Qbf h fun k1 hk1 h => Qix hk1 Tryd.underlying22 ty36 ?_))))
   refine Q1 (r_loadp ty36) ?_
   refine Qal zr36 fun p1 => ?_
   refine Qs0 0 ty36 (Qnx (Wp.reg ?_))
   refine Qm ?_
   refine Ql0 0 ty36 ?_
   refine Qbf h fun y1 hy1 h => Qcl en17 (C_ref33_Line hy1) ?_
   refine Qbf h fun y2 hy2 h => Qv (r_cat (look_t rfl) (look_t rfl) hy2) ?_
   refine Qa (Sq.nil ?_)
   refine To.bnorm (To.next (Wp.reg (Q2 r_add ?_)))
   refine Qm (Sq.nil ?_)
   cases h
   exact Qrd () 1
  ·refine Wp.exit (To.exit ?_)
   cases h
   exact Qlv () 0
 ·clear hl
  refine To.bexit (To.next (Qsr (Qm ?_)))
  refine Qa (Qnx (Wp.ret ?_))
  cases h
  exact Qe1
instance k7 : K1 Tryd.prog 7 _ _ L_ref33_Format VP.of VP.of :=
  ⟨⟨_, Tryd.func7, rfl, by kernel_rfl⟩, fun _ _ h => C_ref33_Format h⟩
end Go.Proofs.YtcglmhpembonmaaDoor

namespace Go.Proofs.YtcglmhpembonmaaDoor
open Go Gv
set_option linter.unusedVariables false
set_option linter.unusedSimpArgs false
set_option maxRecDepth 100000
set_option maxHeartbeats 2000000
theorem C_ref33_call {x0 : ByteArray}  {r : T_api_Call} (h : L_ref33_call x0 = some r) : Meets Tryd.prog 19 [VP.of (x0)] (VP.of (r)) := by
 unfold L_ref33_call at h
 refine Meets.of Tryd.func19 rfl Tryd.ntmps19 rfl fun W A => Qsr (Qal zr36 fun p1 => Qnr ?_)
 refine Sq.allocX (z := (default : T_api_Call)) [1] zh36_1 zr36 rfl fun p2 => Sq.own (α := BitVec 8) 5 (Qnr (Qa ?_))
 refine Qa (Qns (Wp.block ?_))
 refine Qbf h fun e1 hl h => ?_
 refine Qlp (γ:=Unit) (δ:=Unit) hl [0, 2, 3] (fun s1 g1 => [(4, VP.of (s1.1)), (5, VP.of (s1.2.1))]) (fun s1 g1 => [(1, ⟨some p2, .varX s1.2.2 [(1, slv none ([] : List (BitVec 8)).length 0)]⟩)]) (fun q1 => Exit.exit 0) (fun q1 g1 => [(4, VP.of (q1.1)), (5, VP.of (q1.2.1)), (15, VP.of (q1.2.2.1))]) (fun q1 g1 => [(1, ⟨some p2, .varX q1.2.2.2 [(1, slv none ([] : List (BitVec 8)).length 0)]⟩)]) () (fun s1 r h g1 => ?_) fun g1 => ?_
 ·clear hl
  refine Wp.seq (Qsr (Qm ?_))
  refine Qm ?_
  refine Q1 (r_lens Tryd.underlying9) ?_
  refine Q2 r_lss ?_
  refine Qm ?_
  refine Qg1 r_move ?_
  refine Qg1 r_move ?_
  refine Qbf h fun y1 hy1 h => Qg (fun hb => r_idxs Tryd.underlying9 (look_tc rfl hb) (look_tc rfl hb) (condM_some hy1 hb)) ?_
  refine Qg (fun hb => r_neq8 (look_tc rfl hb) (look_u8 32 rfl)) ?_
  refine Qan (Qnx ?_)
  refine Qcd h (fun h=>?_) fun h=>?_
  ·refine Qkn (Wp.seq (Wp.block (Qsr (Qm ?_))))
   refine Qm ?_
   refine Qbf h fun y2 hy2 h => Qv (r_idxs Tryd.underlying9 (look_t rfl) (look_t rfl) hy2) ?_
   refine Qv (r_eql8 (look_t rfl) (look_u8 45 rfl)) (Qnx ?_)
   refine Qbf h fun m1 hm1 h => ?_
   refine Qcn [0, 2, 3, 5, 15, 21] [(4, VP.of (m1.1))] [(1, ⟨some p2, .varX m1.2 [(1, slv none ([] : List (BitVec 8)).length 0)]⟩)] ?_ (fun hm hc => ?_) fun hm hc => ?_
   ·clear hm1
    refine To.bnorm (To.next (Wp.reg (Qm ?_)))
    refine Q2 r_add ?_
    refine Qa (Sq.nil ?_)
    cases h
    exact Qrd () 0
   ·have h := cond_t hc hm1
    refine Wp.reg (Qa (Sq.nil ?_))
    cases h
    exact Qmt 0 (hm ())
   ·have h := cond_f hc hm1
    refine Qbf h fun y3 hy3 h => Qbf h fun y4 hy4 h => ?_
    refine Wp.dv mixed 10 (rg 22 10) [[], [0], [1], [], [], [3, 4], [5], [6], [2, 7], []] [_, _, _, _, _, _, _, _, _, _] ⟨H1 (r_fa fd36_0.fd), Hu fun hL => r_loadX (i := 1) ((Lens.id T_api_Call).comp le_T_api_Call_Controller) (r := s1.2.2.f_Controller) ty3 (look_t rfl) (hL _ _ rfl rfl) rfl rfl (by rfl), H2 r_mul, Hm, Hm, Hu fun hL => r_idxs Tryd.underlying9 (look_t rfl) (look_t rfl) hy3, Hcl en27 (C_ref33_hex hy4), H1 (r_c8i Tryd.underlying5 Tryd.underlying3), H2 r_sub, H1 (r_fa fd36_0.fd), trivial⟩ ?_
    refine Qbf h fun z1 hz1 h => ?_
    refine Sq.storeX (i := 1) ((Lens.id T_api_Call).comp le_T_api_Call_Controller) (v := (w64 ((w64 (10 * s1.2.2.f_Controller)) - (y4.toNat : Int)) : Int)) (b' := z1) ty3 (look_t rfl) (look_t rfl) rfl rfl (some_in hz1) (by rfl) ?_
    refine Sq.nil ?_
    cases h
    exact Qmt 0 (hm ())
  ·refine Wp.exit (To.exit ?_)
   cases h
   exact Qlv () 0
 ·clear hl
  refine To.bexit (To.next (Wp.seq (Qsr (Qm ?_))))
  refine Q1 r_not (Qnx ?_)
  refine Qbf h fun m2 hm2 h => ?_
  refine Qcn [0, 2, 3, 4, 5, 15, 33] [] [(1, ⟨some p2, .varX m2 [(1, slv none ([] : List (BitVec 8)).length 0)]⟩)] ?_ (fun hm hc => ?_) fun hm hc => ?_
  ·clear hm2
   refine To.next (Wp.seq (Qsr (Qm ?_)))
   refine Q2 r_add ?_
   refine Qa (Qnx (Wp.block ?_))
   refine Qbf h fun e2 hl h => ?_
   refine Qlp (γ:=(Option Nat × Nat)) (δ:=(Option Nat × Nat)) hl [0, 2, 3, 4, 15, 33] (fun s2 g4 => [(5, VP.of (s2.1))]) (fun s2 g4 => [(0, ⟨g4.1, .row 5 s2.2.1 g4.2⟩), (1, ⟨some p2, .varX s2.2.2 [(1, slv g4.1 s2.2.1.length g4.2)]⟩)]) (fun q2 => Exit.exit 2) (fun q2 g4 => [(5, VP.of (q2.1)), (44, VP.of (q2.2.1))]) (fun q2 g4 => [(0, ⟨g4.1, .row 5 q2.2.2.1 g4.2⟩), (1, ⟨some p2, .varX q2.2.2.2 [(1, slv g4.1 q2.2.2.1.length g4.2)]⟩)]) (none, 0) (fun s2 r h g4 => ?_) fun g4 => ?_
   ·clear hl
    refine Wp.seq (Qsr (Qm ?_))
    refine Q2 r_add ?_
    refine Qm ?_
    refine Q1 (r_lens Tryd.underlying9) ?_
    refine Q2 r_lss (Qnx ?_)
    refine Qcd h (fun h=>?_) fun h=>?_
    ·refine Qkn (Wp.seq (Wp.block (Qbf h fun y5 hy5 h => Qbf h fun y6 hy6 h => Qbf h fun y7 hy7 h => Qbf h fun y8 hy8 h => ?_)))
     refine Wp.dv mixed 14 (rg 47 14) [[], [0], [], [], [2, 3], [4], [5], [], [], [8], [7, 9], [10], [6, 11], [12]] [_, _, _, _, _, _, _, _, _, _, _, _, _, _] ⟨H1 (r_fa fd36_1.fd), Hu fun hL => r_loadH (i := 1) (q := 0) (β := T_api_Call) (γ := BitVec 8) ty25 (look_t rfl) (hL _ _ rfl rfl) rfl, Hm, Hm, Hu fun hL => r_idxs Tryd.underlying9 (look_t rfl) (look_t rfl) hy5, Hcl en27 (C_ref33_hex hy6), Hu fun hL => r_shl8 (look_t rfl) (look_u64 4 rfl), Hm, Hm, H2 r_add, Hu fun hL => r_idxs Tryd.underlying9 (look_t rfl) (look_t rfl) hy7, Hcl en27 (C_ref33_hex hy8), H2 r_or8, Hu fun hL => r_bsl (r := [(y6 <<< (4#64).toNat) ||| y8]) Tryd.underlying25 ty5 zr5 rfl rfl (.cons (by simp) (look_t rfl) (.nil)), trivial⟩ ?_
     refine Qbf h fun y9 hy9 h => Qap 0 Tryd.underlying25 ty5 zr5 hy9 fun key1 cap1 => ?_
     refine Q1 (r_fa fd36_1.fd) ?_
     refine Sq.storeH (i := 1) (γ := BitVec 8) (b' := ({ s2.2.2 with f_Data := [] } : T_api_Call)) (os' := [(1, slv key1 y9.length cap1)]) ((Lens.id T_api_Call).comp le_T_api_Call_Data) ty25 (look_t rfl) (look_t rfl) slv_one rfl rfl rfl rfl (Sq.nil (To.bnorm (To.next (Wp.reg (Qm ?_)))))
     refine Q2 r_add ?_
     refine Qa (Sq.nil ?_)
     cases h
     exact Qrd (key1, cap1) 0
    ·refine Wp.exit (To.exit ?_)
     cases h
     exact Qlv (g4.1, g4.2) 0
   ·clear hl
    refine To.bexit (To.next (Qsr (Sq.thaw (β := T_api_Call) (γ := BitVec 8) (b' := ({ e2.2.2.2 with f_Data := e2.2.2.1 } : T_api_Call)) ((Lens.id T_api_Call).comp le_T_api_Call_Data) 1 0 0 rfl rfl rfl rfl rfl rfl (Sq.fromX 1 rfl (Ql0 1 ty36 ?_)))))
    refine Qs0 2 ty36 (Qnx (Wp.ret ?_))
    cases h
    exact To.end1 rfl (Qrc 2 ty36)
  ·have h := cond_t hc hm2
   refine Wp.reg (Q1 (r_fa fd36_0.fd) ?_)
   refine Qlx 1 le_T_api_Call_Controller ty3 ?_
   refine Q1 r_neg ?_
   refine Q1 (r_fa fd36_0.fd) ?_
   refine Qbf h fun z2 hz2 h => ?_
   refine Sq.storeX (i := 1) ((Lens.id T_api_Call).comp le_T_api_Call_Controller) (v := (w64 (0 - e1.2.2.2.f_Controller) : Int)) (b' := z2) ty3 (look_t rfl) (look_t rfl) rfl rfl (some_in hz2) (by rfl) ?_
   refine Sq.nil ?_
   cases h
   exact Qmt 0 (hm ())
  ·have h := cond_f hc hm2
   refine Wp.skip ?_
   cases h
   exact Qmt 0 (hm ())
instance k19 : K1 Tryd.prog 19 _ _ L_ref33_call VP.of VP.of :=
  ⟨⟨_, Tryd.func19, rfl, by kernel_rfl⟩, fun _ _ h => C_ref33_call h⟩
end Go.Proofs.YtcglmhpembonmaaDoor

namespace Go.Proofs.YtcglmhpembonmaaDoor
open Go Gv
set_option linter.unusedVariables false
set_option linter.unusedSimpArgs false
set_option maxRecDepth 100000
set_option maxHeartbeats 2000000
theorem C_ref33_Parse {x0 : ByteArray}  {r : (List T_api_Call) × Int × Int} (h : L_ref33_Parse x0 = some r) : Meets Tryd.prog 10 [VP.of (x0)] (VP.tup [VP.of (r.1), VP.of (r.2.1), VP.of (r.2.2)]) := by
 unfold L_ref33_Parse at h
 refine Meets.of Tryd.func10 rfl Tryd.ntmps10 rfl fun W A => Qsr (Qv (r_asg (look_nil (α := T_api_Call))) ?_)
 refine Qa ?_
 refine Qa (Qnr ?_)
 refine Sq.own (α := T_api_Call) 36 (Qv (r_asg look_own) (Qns (Wp.block ?_)))
 refine Qbf h fun e1 hl h => ?_
 refine Qlp (γ:=(Option Nat × Nat)) (δ:=(Option Nat × Nat)) hl [2] (fun s1 g1 => [(0, VP.of (s1.1)), (3, VP.of (0 : Int)), (4, VP.of (0 : Int)), (5, VP.eq (slv g1.1 s1.2.length g1.2))]) (fun s1 g1 => [(0, ⟨g1.1, .row 36 s1.2 g1.2⟩)]) (fun q1 => Sum.elim (fun q1 => Exit.exit 0) (fun q1 => Exit.ret) q1) (fun q1 g1 => Sum.elim (fun q1 => [(0, VP.of (q1.1)), (3, VP.of (0 : Int)), (4, VP.of (0 : Int)), (5, VP.eq (slv g1.1 q1.2.2.length g1.2)), (10, VP.of (q1.2.1))]) (fun q1 => [(0, VP.of (q1.1)), (3, VP.of (q1.2.1)), (4, VP.of (q1.2.2.1)), (5, VP.eq (slv g1.1 q1.2.2.2.2.2.2.2.length g1.2)), (6, VP.of (q1.2.2.2.1)), (10, VP.of (q1.2.2.2.2.1)), (20, VP.of (q1.2.2.2.2.2.1)), (37, VP.of (q1.2.2.2.2.2.2.1))]) q1) (fun q1 g1 => Sum.elim (fun q1 => [(0, ⟨g1.1, .row 36 q1.2.2 g1.2⟩)]) (fun q1 => [(0, ⟨g1.1, .row 36 q1.2.2.2.2.2.2.2 g1.2⟩)]) q1) (none, 0) (fun s1 r h g1 => ?_) fun g1 => ?_
 ·clear hl
  refine Wp.seq (Qsr (Qm ?_))
  refine Q1 (r_lens Tryd.underlying9) ?_
  refine Q2 r_gtr (Qnx ?_)
  refine Qcd h (fun h=>?_) fun h=>?_
  ·refine Qkn (Wp.block (Qsr (Qa (Qns (Wp.block ?_)))))
   refine Qbf h fun e2 hl h => ?_
   refine Qlq hl [0, 2, 3, 4, 5, 10] (Tup.vl [6]) (Xex 2) (Tup.vl [6, 20]) (fun s2 r h => ?_) ?_
   ·clear hl
    refine Wp.seq (Qsr (Qm ?_))
    refine Qm ?_
    refine Q1 (r_lens Tryd.underlying9) ?_
    refine Q2 r_lss ?_
    refine Qm ?_
    refine Qg1 r_move ?_
    refine Qg1 r_move ?_
    refine Qbf h fun y1 hy1 h => Qg (fun hb => r_idxs Tryd.underlying9 (look_tc rfl hb) (look_tc rfl hb) (condM_some hy1 hb)) ?_
    refine Qg (fun hb => r_neq8 (look_tc rfl hb) (look_u8 10 rfl)) ?_
    refine Qan (Qnx ?_)
    refine Qcd h (fun h=>?_) fun h=>?_
    ·refine Qkn (Wp.block (Wp.reg (Qm ?_)))
     refine Q2 r_add ?_
     refine Qa (Sq.nil ?_)
     refine To.bnorm ?_
     cases h
     exact Qrd () 0
    ·refine Wp.exit (To.exit ?_)
     cases h
     exact Qlv () 0
   ·clear hl
    refine To.bexit (To.next (Qsr (Qm ?_)))
    refine Q2 r_add ?_
    refine Qm ?_
    refine Q1 (r_lens Tryd.underlying9) ?_
    refine Q2 r_min ?_
    refine Qa (Qnr ?_)
    refine Qm ?_
    refine Qm ?_
    refine Qbf h fun y2 hy2 h => Qv (r_slcS Tryd.underlying9 (look_t rfl) .none (.some (look_t rfl)) hy2) ?_
    refine Qbf h fun y3 hy3 h => Qcl en19 (C_ref33_call hy3) ?_
    refine Qal zr36 fun p1 => ?_
    refine Qs0 0 ty36 (Qns (Wp.seq ?_))
    refine Qbf h fun y4 hy4 h => Qbf h fun y5 hy5 h => Wp.dv mixed 6 (rg 32 6) [[], [0], [], [], [2, 3], [1, 4]] [_, _, _, _, _, _] ⟨Hl0 0 ty36, Hcl en17 (C_ref33_Line hy4), Hm, Hm, Hu fun hL => r_slcS Tryd.underlying9 (look_t rfl) .none (.some (look_t rfl)) hy5, Hu fun hL => r_neS Tryd.underlying9 (look_t rfl) (look_t rfl), trivial⟩ (Qnx ?_)
    refine Qcd h (fun h=>?_) fun h=>?_
    ·refine Qsr (Qm ?_)
     refine Qv (r_lenO (i := 1) Tryd.underlying22 (look_t rfl) rfl rfl) ?_
     refine Qv (r_asg (look_nil (α := T_api_Call))) ?_
     refine Qa ?_
     refine Qa (Qnx (Wp.ret (To.ret ?_)))
     refine To.bret ?_
     cases h
     exact Qlv (g1.1, g1.2) 1
    ·refine Qkn (Qbf h fun y6 hy6 h => Qbf h fun y7 hy7 h => Wp.drawE mixed 9 (bita 9 0) rfl rfl ?_)
     refine AnyS.cu (γ := (Option Nat) × Nat) [2, 3, 4, 6, 7, 10, 20, 23, 24, 25, 26, 27, 28, 29, 30, 31, 32, 33, 34, 35, 36, 37] 2 0 0 (bita 9 511) (fun gS0_40 => [(0, VP.of (y7)), (5, VP.eq (slv gS0_40.1 y6.length gS0_40.2))]) (fun gS0_40 => [vr p1 y3, ⟨gS0_40.1, .row 36 y6 gS0_40.2⟩]) (fun gS0_40 => []) (fun gS0_40 => ?_) (fun S0_40 => ?_)
     ·refine AnyS.last (by kernel_rfl) ?_
      refine To.bnorm ?_
      cases h
      exact Qrd (gS0_40.1, gS0_40.2) 1
     refine AnyS.cu (γ := (Option Nat) × Nat) [0, 2, 3, 4, 6, 7, 10, 20, 23, 24, 25, 26, 27, 28, 29, 30, 31, 32, 33, 34, 35, 36, 37] 2 0 1 (bita 9 255) (fun gS0_39 => [(5, VP.eq (slv gS0_39.1 y6.length gS0_39.2)), (46, VP.of (y7))]) (fun gS0_39 => [vr p1 y3, ⟨gS0_39.1, .row 36 y6 gS0_39.2⟩]) (fun gS0_39 => []) (fun gS0_39 => ?_) (fun S0_39 => ?_)
     ·clear h
      refine AnyS.s1 8 ?_
      ·refine Qa ?_
       exact Sq.anyA (S0_40 (gS0_39.1, gS0_39.2))
     refine AnyS.cu (γ := (Option Nat) × Nat) [0, 2, 3, 4, 6, 7, 10, 20, 23, 24, 25, 26, 27, 28, 29, 30, 31, 32, 33, 34, 35, 36, 37] 2 0 2 (bita 9 191) (fun gS0_38 => [(5, VP.eq (slv gS0_38.1 y6.length gS0_38.2)), (44, VP.of (s1.1)), (45, VP.of (min (w64 (e2.1 + 1)) (s1.1.size : Int)))]) (fun gS0_38 => [vr p1 y3, ⟨gS0_38.1, .row 36 y6 gS0_38.2⟩]) (fun gS0_38 => []) (fun gS0_38 => ?_) (fun S0_38 => ?_)
     ·clear h
      refine AnyS.s1 6 ?_
      ·refine Qv (r_slcS Tryd.underlying9 (look_t rfl) (.some (look_t rfl)) .none hy7) ?_
       exact Sq.anyA (S0_39 (gS0_38.1, gS0_38.2))
     refine AnyS.cu (γ := (Option Nat) × Nat) [0, 2, 3, 4, 6, 7, 10, 20, 23, 24, 25, 26, 27, 28, 29, 30, 31, 32, 33, 34, 35, 36, 37] 2 0 2 (bita 9 127) (fun gS0_37 => [(43, VP.eq (slv gS0_37.1 y6.length gS0_37.2)), (46, VP.of (y7))]) (fun gS0_37 => [vr p1 y3, ⟨gS0_37.1, .row 36 y6 gS0_37.2⟩]) (fun gS0_37 => []) (fun gS0_37 => ?_) (fun S0_37 => ?_)
     ·clear h
      refine AnyS.s1 7 ?_
      ·refine Qa ?_
       exact Sq.anyA (S0_39 (gS0_37.1, gS0_37.2))
     refine AnyS.cu (γ := Unit) [0, 2, 3, 4, 5, 6, 7, 10, 20, 23, 24, 25, 26, 27, 28, 29, 30, 31, 32, 33, 34, 35, 36, 37] 0 2 3 (bita 9 119) (fun gS0_36 => [(40, VP.eq (slv g1.1 s1.2.length g1.2)), (42, VP.of ([y3])), (46, VP.of (y7))]) (fun gS0_36 => []) (fun gS0_36 => []) (fun gS0_36 => ?_) (fun S0_36 => ?_)
     ·clear h
      refine AnyS.s1 3 ?_
      ·refine Qap 1 Tryd.underlying22 ty36 zr36 hy6 fun key1 cap1 => ?_
       exact Sq.anyA (S0_37 (key1, cap1))
     refine AnyS.cu (γ := (Option Nat) × Nat) [0, 2, 3, 4, 6, 7, 10, 20, 23, 24, 25, 26, 27, 28, 29, 30, 31, 32, 33, 34, 35, 36, 37] 2 0 3 (bita 9 175) (fun gS0_35 => [(5, VP.eq (slv gS0_35.1 y6.length gS0_35.2)), (45, VP.of (min (w64 (e2.1 + 1)) (s1.1.size : Int)))]) (fun gS0_35 => [vr p1 y3, ⟨gS0_35.1, .row 36 y6 gS0_35.2⟩]) (fun gS0_35 => []) (fun gS0_35 => ?_) (fun S0_35 => ?_)
     ·clear h
      refine AnyS.s1 4 ?_
      ·refine Qm ?_
       exact Sq.anyA (S0_38 (gS0_35.1, gS0_35.2))
     refine AnyS.cu (γ := (Option Nat) × Nat) [0, 2, 3, 4, 6, 7, 10, 20, 23, 24, 25, 26, 27, 28, 29, 30, 31, 32, 33, 34, 35, 36, 37] 2 0 3 (bita 9 159) (fun gS0_34 => [(5, VP.eq (slv gS0_34.1 y6.length gS0_34.2)), (44, VP.of (s1.1))]) (fun gS0_34 => [vr p1 y3, ⟨gS0_34.1, .row 36 y6 gS0_34.2⟩]) (fun gS0_34 => []) (fun gS0_34 => ?_) (fun S0_34 => ?_)
     ·clear h
      refine AnyS.s1 5 ?_
      ·refine Qm ?_
       exact Sq.anyA (S0_38 (gS0_34.1, gS0_34.2))
     refine AnyS.cu (γ := (Option Nat) × Nat) [0, 2, 3, 4, 6, 7, 10, 20, 23, 24, 25, 26, 27, 28, 29, 30, 31, 32, 33, 34, 35, 36, 37] 2 0 3 (bita 9 63) (fun gS0_33 => [(43, VP.eq (slv gS0_33.1 y6.length gS0_33.2)), (44, VP.of (s1.1)), (45, VP.of (min (w64 (e2.1 + 1)) (s1.1.size : Int)))]) (fun gS0_33 => [vr p1 y3, ⟨gS0_33.1, .row 36 y6 gS0_33.2⟩]) (fun gS0_33 => []) (fun gS0_33 => ?_) (fun S0_33 => ?_)
     ·clear h
      refine AnyS.s2 6 7 ?_ ?_
      ·refine Qv (r_slcS Tryd.underlying9 (look_t rfl) (.some (look_t rfl)) .none hy7) ?_
       exact Sq.anyA (S0_37 (gS0_33.1, gS0_33.2))
      ·refine Qa ?_
       exact Sq.anyA (S0_38 (gS0_33.1, gS0_33.2))
     refine AnyS.cu (γ := Unit) [0, 2, 3, 4, 5, 6, 7, 10, 20, 23, 24, 25, 26, 27, 28, 29, 30, 31, 32, 33, 34, 35, 36, 37] 0 2 4 (bita 9 118) (fun gS0_32 => [(42, VP.of ([y3])), (46, VP.of (y7))]) (fun gS0_32 => []) (fun gS0_32 => []) (fun gS0_32 => ?_) (fun S0_32 => ?_)
     ·clear h
      refine AnyS.s1 0 ?_
      ·refine Qm ?_
       exact Sq.anyA (S0_36 ())
     refine AnyS.cu (γ := Unit) [0, 2, 3, 4, 5, 6, 7, 10, 20, 23, 24, 25, 26, 27, 28, 29, 30, 31, 32, 33, 34, 35, 36, 37] 0 2 4 (bita 9 115) (fun gS0_31 => [(40, VP.eq (slv g1.1 s1.2.length g1.2)), (41, VP.of (y3)), (46, VP.of (y7))]) (fun gS0_31 => []) (fun gS0_31 => []) (fun gS0_31 => ?_) (fun S0_31 => ?_)
     ·clear h
      refine AnyS.s1 2 ?_
      ·refine Qbl [y3] Tryd.underlying22 ty36 zr36 ?_
       exact Sq.anyA (S0_36 ())
     refine AnyS.cu (γ := Unit) [0, 2, 3, 4, 5, 6, 7, 10, 20, 23, 24, 25, 26, 27, 28, 29, 30, 31, 32, 33, 34, 35, 36, 37] 0 2 4 (bita 9 55) (fun gS0_30 => [(40, VP.eq (slv g1.1 s1.2.length g1.2)), (42, VP.of ([y3])), (44, VP.of (s1.1)), (45, VP.of (min (w64 (e2.1 + 1)) (s1.1.size : Int)))]) (fun gS0_30 => []) (fun gS0_30 => []) (fun gS0_30 => ?_) (fun S0_30 => ?_)
     ·clear h
      refine AnyS.s2 3 6 ?_ ?_
      ·refine Qap 1 Tryd.underlying22 ty36 zr36 hy6 fun key1 cap1 => ?_
       exact Sq.anyA (S0_33 (key1, cap1))
      ·refine Qv (r_slcS Tryd.underlying9 (look_t rfl) (.some (look_t rfl)) .none hy7) ?_
       exact Sq.anyA (S0_36 ())
     refine AnyS.cu (γ := (Option Nat) × Nat) [0, 2, 3, 4, 6, 7, 10, 20, 23, 24, 25, 26, 27, 28, 29, 30, 31, 32, 33, 34, 35, 36, 37] 2 0 4 (bita 9 143) (fun gS0_29 => [(5, VP.eq (slv gS0_29.1 y6.length gS0_29.2))]) (fun gS0_29 => [vr p1 y3, ⟨gS0_29.1, .row 36 y6 gS0_29.2⟩]) (fun gS0_29 => []) (fun gS0_29 => ?_) (fun S0_29 => ?_)
     ·clear h
      refine AnyS.s2 4 5 ?_ ?_
      ·refine Qm ?_
       exact Sq.anyA (S0_34 (gS0_29.1, gS0_29.2))
      ·refine Qm ?_
       exact Sq.anyA (S0_35 (gS0_29.1, gS0_29.2))
     refine AnyS.cu (γ := (Option Nat) × Nat) [0, 2, 3, 4, 6, 7, 10, 20, 23, 24, 25, 26, 27, 28, 29, 30, 31, 32, 33, 34, 35, 36, 37] 2 0 4 (bita 9 47) (fun gS0_28 => [(43, VP.eq (slv gS0_28.1 y6.length gS0_28.2)), (45, VP.of (min (w64 (e2.1 + 1)) (s1.1.size : Int)))]) (fun gS0_28 => [vr p1 y3, ⟨gS0_28.1, .row 36 y6 gS0_28.2⟩]) (fun gS0_28 => []) (fun gS0_28 => ?_) (fun S0_28 => ?_)
     ·clear h
      refine AnyS.s2 4 7 ?_ ?_
      ·refine Qm ?_
       exact Sq.anyA (S0_33 (gS0_28.1, gS0_28.2))
      ·refine Qa ?_
       exact Sq.anyA (S0_35 (gS0_28.1, gS0_28.2))
     refine AnyS.cu (γ := (Option Nat) × Nat) [0, 2, 3, 4, 6, 7, 10, 20, 23, 24, 25, 26, 27, 28, 29, 30, 31, 32, 33, 34, 35, 36, 37] 2 0 4 (bita 9 31) (fun gS0_27 => [(43, VP.eq (slv gS0_27.1 y6.length gS0_27.2)), (44, VP.of (s1.1))]) (fun gS0_27 => [vr p1 y3, ⟨gS0_27.1, .row 36 y6 gS0_27.2⟩]) (fun gS0_27 => []) (fun gS0_27 => ?_) (fun S0_27 => ?_)
     ·clear h
      refine AnyS.s2 5 7 ?_ ?_
      ·refine Qm ?_
       exact Sq.anyA (S0_33 (gS0_27.1, gS0_27.2))
      ·refine Qa ?_
       exact Sq.anyA (S0_34 (gS0_27.1, gS0_27.2))
     refine AnyS.cu (γ := Unit) [0, 2, 3, 4, 5, 6, 7, 10, 20, 23, 24, 25, 26, 27, 28, 29, 30, 31, 32, 33, 34, 35, 36, 37] 0 2 5 (bita 9 114) (fun gS0_26 => [(41, VP.of (y3)), (46, VP.of (y7))]) (fun gS0_26 => []) (fun gS0_26 => []) (fun gS0_26 => ?_) (fun S0_26 => ?_)
     ·clear h
      refine AnyS.s2 0 2 ?_ ?_
      ·refine Qm ?_
       exact Sq.anyA (S0_31 ())
      ·refine Qbl [y3] Tryd.underlying22 ty36 zr36 ?_
       exact Sq.anyA (S0_32 ())
     refine AnyS.cu (γ := Unit) [0, 2, 3, 4, 5, 6, 7, 10, 20, 23, 24, 25, 26, 27, 28, 29, 30, 31, 32, 33, 34, 35, 36, 37] 0 2 5 (bita 9 54) (fun gS0_25 => [(42, VP.of ([y3])), (44, VP.of (s1.1)), (45, VP.of (min (w64 (e2.1 + 1)) (s1.1.size : Int)))]) (fun gS0_25 => []) (fun gS0_25 => []) (fun gS0_25 => ?_) (fun S0_25 => ?_)
     ·clear h
      refine AnyS.s2 0 6 ?_ ?_
      ·refine Qm ?_
       exact Sq.anyA (S0_30 ())
      ·refine Qv (r_slcS Tryd.underlying9 (look_t rfl) (.some (look_t rfl)) .none hy7) ?_
       exact Sq.anyA (S0_32 ())
     refine AnyS.cu (γ := Unit) [0, 2, 3, 4, 5, 6, 7, 10, 20, 23, 24, 25, 26, 27, 28, 29, 30, 31, 32, 33, 34, 35, 36, 37] 0 2 5 (bita 9 113) (fun gS0_24 => [(40, VP.eq (slv g1.1 s1.2.length g1.2)), (46, VP.of (y7))]) (fun gS0_24 => []) (fun gS0_24 => []) (fun gS0_24 => ?_) (fun S0_24 => ?_)
     ·clear h
      refine AnyS.s1 1 ?_
      ·refine Ql0 0 ty36 ?_
       exact Sq.anyA (S0_31 ())
     refine AnyS.cu (γ := Unit) [0, 2, 3, 4, 5, 6, 7, 10, 20, 23, 24, 25, 26, 27, 28, 29, 30, 31, 32, 33, 34, 35, 36, 37] 0 2 5 (bita 9 51) (fun gS0_23 => [(40, VP.eq (slv g1.1 s1.2.length g1.2)), (41, VP.of (y3)), (44, VP.of (s1.1)), (45, VP.of (min (w64 (e2.1 + 1)) (s1.1.size : Int)))]) (fun gS0_23 => []) (fun gS0_23 => []) (fun gS0_23 => ?_) (fun S0_23 => ?_)
     ·clear h
      refine AnyS.s2 2 6 ?_ ?_
      ·refine Qbl [y3] Tryd.underlying22 ty36 zr36 ?_
       exact Sq.anyA (S0_30 ())
      ·refine Qv (r_slcS Tryd.underlying9 (look_t rfl) (.some (look_t rfl)) .none hy7) ?_
       exact Sq.anyA (S0_31 ())
     refine AnyS.cu (γ := Unit) [0, 2, 3, 4, 5, 6, 7, 10, 20, 23, 24, 25, 26, 27, 28, 29, 30, 31, 32, 33, 34, 35, 36, 37] 0 2 5 (bita 9 39) (fun gS0_22 => [(40, VP.eq (slv g1.1 s1.2.length g1.2)), (42, VP.of ([y3])), (45, VP.of (min (w64 (e2.1 + 1)) (s1.1.size : Int)))]) (fun gS0_22 => []) (fun gS0_22 => []) (fun gS0_22 => ?_) (fun S0_22 => ?_)
     ·clear h
      refine AnyS.s2 3 4 ?_ ?_
      ·refine Qap 1 Tryd.underlying22 ty36 zr36 hy6 fun key1 cap1 => ?_
       exact Sq.anyA (S0_28 (key1, cap1))
      ·refine Qm ?_
       exact Sq.anyA (S0_30 ())
     refine AnyS.cu (γ := Unit) [0, 2, 3, 4, 5, 6, 7, 10, 20, 23, 24, 25, 26, 27, 28, 29, 30, 31, 32, 33, 34, 35, 36, 37] 0 2 5 (bita 9 23) (fun gS0_21 => [(40, VP.eq (slv g1.1 s1.2.length g1.2)), (42, VP.of ([y3])), (44, VP.of (s1.1))]) (fun gS0_21 => []) (fun gS0_21 => []) (fun gS0_21 => ?_) (fun S0_21 => ?_)
     ·clear h
      refine AnyS.s2 3 5 ?_ ?_
      ·refine Qap 1 Tryd.underlying22 ty36 zr36 hy6 fun key1 cap1 => ?_
       exact Sq.anyA (S0_27 (key1, cap1))
      ·refine Qm ?_
       exact Sq.anyA (S0_30 ())
     refine AnyS.cu (γ := (Option Nat) × Nat) [0, 2, 3, 4, 6, 7, 10, 20, 23, 24, 25, 26, 27, 28, 29, 30, 31, 32, 33, 34, 35, 36, 37] 2 0 5 (bita 9 15) (fun gS0_20 => [(43, VP.eq (slv gS0_20.1 y6.length gS0_20.2))]) (fun gS0_20 => [vr p1 y3, ⟨gS0_20.1, .row 36 y6 gS0_20.2⟩]) (fun gS0_20 => []) (fun gS0_20 => ?_) (fun S0_20 => ?_)
     ·clear h
      refine AnyS.stp [4, 5, 7] ⟨⟨_, rfl, ?_⟩, ⟨_, rfl, ?_⟩, ⟨_, rfl, ?_⟩, trivial⟩
      ·refine Qm ?_
       exact Sq.anyA (S0_27 (gS0_20.1, gS0_20.2))
      ·refine Qm ?_
       exact Sq.anyA (S0_28 (gS0_20.1, gS0_20.2))
      ·refine Qa ?_
       exact Sq.anyA (S0_29 (gS0_20.1, gS0_20.2))
     refine AnyS.cu (γ := Unit) [0, 2, 3, 4, 5, 6, 7, 10, 20, 23, 24, 25, 26, 27, 28, 29, 30, 31, 32, 33, 34, 35, 36, 37] 0 2 6 (bita 9 112) (fun gS0_19 => [(46, VP.of (y7))]) (fun gS0_19 => []) (fun gS0_19 => []) (fun gS0_19 => ?_) (fun S0_19 => ?_)
     ·clear h
      refine AnyS.s2 0 1 ?_ ?_
      ·refine Qm ?_
       exact Sq.anyA (S0_24 ())
      ·refine Ql0 0 ty36 ?_
       exact Sq.anyA (S0_26 ())
     refine AnyS.cu (γ := Unit) [0, 2, 3, 4, 5, 6, 7, 10, 20, 23, 24, 25, 26, 27, 28, 29, 30, 31, 32, 33, 34, 35, 36, 37] 0 2 6 (bita 9 50) (fun gS0_18 => [(41, VP.of (y3)), (44, VP.of (s1.1)), (45, VP.of (min (w64 (e2.1 + 1)) (s1.1.size : Int)))]) (fun gS0_18 => []) (fun gS0_18 => []) (fun gS0_18 => ?_) (fun S0_18 => ?_)
     ·clear h
      refine AnyS.stp [0, 2, 6] ⟨⟨_, rfl, ?_⟩, ⟨_, rfl, ?_⟩, ⟨_, rfl, ?_⟩, trivial⟩
      ·refine Qm ?_
       exact Sq.anyA (S0_23 ())
      ·refine Qbl [y3] Tryd.underlying22 ty36 zr36 ?_
       exact Sq.anyA (S0_25 ())
      ·refine Qv (r_slcS Tryd.underlying9 (look_t rfl) (.some (look_t rfl)) .none hy7) ?_
       exact Sq.anyA (S0_26 ())
     refine AnyS.cu (γ := Unit) [0, 2, 3, 4, 5, 6, 7, 10, 20, 23, 24, 25, 26, 27, 28, 29, 30, 31, 32, 33, 34, 35, 36, 37] 0 2 6 (bita 9 38) (fun gS0_17 => [(42, VP.of ([y3])), (45, VP.of (min (w64 (e2.1 + 1)) (s1.1.size : Int)))]) (fun gS0_17 => []) (fun gS0_17 => []) (fun gS0_17 => ?_) (fun S0_17 => ?_)
     ·clear h
      refine AnyS.s2 0 4 ?_ ?_
      ·refine Qm ?_
       exact Sq.anyA (S0_22 ())
      ·refine Qm ?_
       exact Sq.anyA (S0_25 ())
     refine AnyS.cu (γ := Unit) [0, 2, 3, 4, 5, 6, 7, 10, 20, 23, 24, 25, 26, 27, 28, 29, 30, 31, 32, 33, 34, 35, 36, 37] 0 2 6 (bita 9 22) (fun gS0_16 => [(42, VP.of ([y3])), (44, VP.of (s1.1))]) (fun gS0_16 => []) (fun gS0_16 => []) (fun gS0_16 => ?_) (fun S0_16 => ?_)
     ·clear h
      refine AnyS.s2 0 5 ?_ ?_
      ·refine Qm ?_
       exact Sq.anyA (S0_21 ())
      ·refine Qm ?_
       exact Sq.anyA (S0_25 ())
     refine AnyS.cu (γ := Unit) [0, 2, 3, 4, 5, 6, 7, 10, 20, 23, 24, 25, 26, 27, 28, 29, 30, 31, 32, 33, 34, 35, 36, 37] 0 2 6 (bita 9 49) (fun gS0_15 => [(40, VP.eq (slv g1.1 s1.2.length g1.2)), (44, VP.of (s1.1)), (45, VP.of (min (w64 (e2.1 + 1)) (s1.1.size : Int)))]) (fun gS0_15 => []) (fun gS0_15 => []) (fun gS0_15 => ?_) (fun S0_15 => ?_)
     ·clear h
      refine AnyS.s2 1 6 ?_ ?_
      ·refine Ql0 0 ty36 ?_
       exact Sq.anyA (S0_23 ())
      ·refine Qv (r_slcS Tryd.underlying9 (look_t rfl) (.some (look_t rfl)) .none hy7) ?_
       exact Sq.anyA (S0_24 ())
     refine AnyS.cu (γ := Unit) [0, 2, 3, 4, 5, 6, 7, 10, 20, 23, 24, 25, 26, 27, 28, 29, 30, 31, 32, 33, 34, 35, 36, 37] 0 2 6 (bita 9 35) (fun gS0_14 => [(40, VP.eq (slv g1.1 s1.2.length g1.2)), (41, VP.of (y3)), (45, VP.of (min (w64 (e2.1 + 1)) (s1.1.size : Int)))]) (fun gS0_14 => []) (fun gS0_14 => []) (fun gS0_14 => ?_) (fun S0_14 => ?_)
     ·clear h
      refine AnyS.s2 2 4 ?_ ?_
      ·refine Qbl [y3] Tryd.underlying22 ty36 zr36 ?_
       exact Sq.anyA (S0_22 ())
      ·refine Qm ?_
       exact Sq.anyA (S0_23 ())
     refine AnyS.cu (γ := Unit) [0, 2, 3, 4, 5, 6, 7, 10, 20, 23, 24, 25, 26, 27, 28, 29, 30, 31, 32, 33, 34, 35, 36, 37] 0 2 6 (bita 9 19) (fun gS0_13 => [(40, VP.eq (slv g1.1 s1.2.length g1.2)), (41, VP.of (y3)), (44, VP.of (s1.1))]) (fun gS0_13 => []) (fun gS0_13 => []) (fun gS0_13 => ?_) (fun S0_13 => ?_)
     ·clear h
      refine AnyS.s2 2 5 ?_ ?_
      ·refine Qbl [y3] Tryd.underlying22 ty36 zr36 ?_
       exact Sq.anyA (S0_21 ())
      ·refine Qm ?_
       exact Sq.anyA (S0_23 ())
     refine AnyS.cu (γ := Unit) [0, 2, 3, 4, 5, 6, 7, 10, 20, 23, 24, 25, 26, 27, 28, 29, 30, 31, 32, 33, 34, 35, 36, 37] 0 2 6 (bita 9 7) (fun gS0_12 => [(40, VP.eq (slv g1.1 s1.2.length g1.2)), (42, VP.of ([y3]))]) (fun gS0_12 => []) (fun gS0_12 => []) (fun gS0_12 => ?_) (fun S0_12 => ?_)
     ·clear h
      refine AnyS.stp [3, 4, 5] ⟨⟨_, rfl, ?_⟩, ⟨_, rfl, ?_⟩, ⟨_, rfl, ?_⟩, trivial⟩
      ·refine Qap 1 Tryd.underlying22 ty36 zr36 hy6 fun key1 cap1 => ?_
       exact Sq.anyA (S0_20 (key1, cap1))
      ·refine Qm ?_
       exact Sq.anyA (S0_21 ())
      ·refine Qm ?_
       exact Sq.anyA (S0_22 ())
     refine AnyS.cu (γ := Unit) [0, 2, 3, 4, 5, 6, 7, 10, 20, 23, 24, 25, 26, 27, 28, 29, 30, 31, 32, 33, 34, 35, 36, 37] 0 2 7 (bita 9 48) (fun gS0_11 => [(44, VP.of (s1.1)), (45, VP.of (min (w64 (e2.1 + 1)) (s1.1.size : Int)))]) (fun gS0_11 => []) (fun gS0_11 => []) (fun gS0_11 => ?_) (fun S0_11 => ?_)
     ·clear h
      refine AnyS.stp [0, 1, 6] ⟨⟨_, rfl, ?_⟩, ⟨_, rfl, ?_⟩, ⟨_, rfl, ?_⟩, trivial⟩
      ·refine Qm ?_
       exact Sq.anyA (S0_15 ())
      ·refine Ql0 0 ty36 ?_
       exact Sq.anyA (S0_18 ())
      ·refine Qv (r_slcS Tryd.underlying9 (look_t rfl) (.some (look_t rfl)) .none hy7) ?_
       exact Sq.anyA (S0_19 ())
     refine AnyS.cu (γ := Unit) [0, 2, 3, 4, 5, 6, 7, 10, 20, 23, 24, 25, 26, 27, 28, 29, 30, 31, 32, 33, 34, 35, 36, 37] 0 2 7 (bita 9 34) (fun gS0_10 => [(41, VP.of (y3)), (45, VP.of (min (w64 (e2.1 + 1)) (s1.1.size : Int)))]) (fun gS0_10 => []) (fun gS0_10 => []) (fun gS0_10 => ?_) (fun S0_10 => ?_)
     ·clear h
      refine AnyS.stp [0, 2, 4] ⟨⟨_, rfl, ?_⟩, ⟨_, rfl, ?_⟩, ⟨_, rfl, ?_⟩, trivial⟩
      ·refine Qm ?_
       exact Sq.anyA (S0_14 ())
      ·refine Qbl [y3] Tryd.underlying22 ty36 zr36 ?_
       exact Sq.anyA (S0_17 ())
      ·refine Qm ?_
       exact Sq.anyA (S0_18 ())
     refine AnyS.cu (γ := Unit) [0, 2, 3, 4, 5, 6, 7, 10, 20, 23, 24, 25, 26, 27, 28, 29, 30, 31, 32, 33, 34, 35, 36, 37] 0 2 7 (bita 9 18) (fun gS0_9 => [(41, VP.of (y3)), (44, VP.of (s1.1))]) (fun gS0_9 => []) (fun gS0_9 => []) (fun gS0_9 => ?_) (fun S0_9 => ?_)
     ·clear h
      refine AnyS.stp [0, 2, 5] ⟨⟨_, rfl, ?_⟩, ⟨_, rfl, ?_⟩, ⟨_, rfl, ?_⟩, trivial⟩
      ·refine Qm ?_
       exact Sq.anyA (S0_13 ())
      ·refine Qbl [y3] Tryd.underlying22 ty36 zr36 ?_
       exact Sq.anyA (S0_16 ())
      ·refine Qm ?_
       exact Sq.anyA (S0_18 ())
     refine AnyS.cu (γ := Unit) [0, 2, 3, 4, 5, 6, 7, 10, 20, 23, 24, 25, 26, 27, 28, 29, 30, 31, 32, 33, 34, 35, 36, 37] 0 2 7 (bita 9 6) (fun gS0_8 => [(42, VP.of ([y3]))]) (fun gS0_8 => []) (fun gS0_8 => []) (fun gS0_8 => ?_) (fun S0_8 => ?_)
     ·clear h
      refine AnyS.stp [0, 4, 5] ⟨⟨_, rfl, ?_⟩, ⟨_, rfl, ?_⟩, ⟨_, rfl, ?_⟩, trivial⟩
      ·refine Qm ?_
       exact Sq.anyA (S0_12 ())
      ·refine Qm ?_
       exact Sq.anyA (S0_16 ())
      ·refine Qm ?_
       exact Sq.anyA (S0_17 ())
     refine AnyS.cu (γ := Unit) [0, 2, 3, 4, 5, 6, 7, 10, 20, 23, 24, 25, 26, 27, 28, 29, 30, 31, 32, 33, 34, 35, 36, 37] 0 2 7 (bita 9 33) (fun gS0_7 => [(40, VP.eq (slv g1.1 s1.2.length g1.2)), (45, VP.of (min (w64 (e2.1 + 1)) (s1.1.size : Int)))]) (fun gS0_7 => []) (fun gS0_7 => []) (fun gS0_7 => ?_) (fun S0_7 => ?_)
     ·clear h
      refine AnyS.s2 1 4 ?_ ?_
      ·refine Ql0 0 ty36 ?_
       exact Sq.anyA (S0_14 ())
      ·refine Qm ?_
       exact Sq.anyA (S0_15 ())
     refine AnyS.cu (γ := Unit) [0, 2, 3, 4, 5, 6, 7, 10, 20, 23, 24, 25, 26, 27, 28, 29, 30, 31, 32, 33, 34, 35, 36, 37] 0 2 7 (bita 9 17) (fun gS0_6 => [(40, VP.eq (slv g1.1 s1.2.length g1.2)), (44, VP.of (s1.1))]) (fun gS0_6 => []) (fun gS0_6 => []) (fun gS0_6 => ?_) (fun S0_6 => ?_)
     ·clear h
      refine AnyS.s2 1 5 ?_ ?_
      ·refine Ql0 0 ty36 ?_
       exact Sq.anyA (S0_13 ())
      ·refine Qm ?_
       exact Sq.anyA (S0_15 ())
     refine AnyS.cu (γ := Unit) [0, 2, 3, 4, 5, 6, 7, 10, 20, 23, 24, 25, 26, 27, 28, 29, 30, 31, 32, 33, 34, 35, 36, 37] 0 2 7 (bita 9 3) (fun gS0_5 => [(40, VP.eq (slv g1.1 s1.2.length g1.2)), (41, VP.of (y3))]) (fun gS0_5 => []) (fun gS0_5 => []) (fun gS0_5 => ?_) (fun S0_5 => ?_)
     ·clear h
      refine AnyS.stp [2, 4, 5] ⟨⟨_, rfl, ?_⟩, ⟨_, rfl, ?_⟩, ⟨_, rfl, ?_⟩, trivial⟩
      ·refine Qbl [y3] Tryd.underlying22 ty36 zr36 ?_
       exact Sq.anyA (S0_12 ())
      ·refine Qm ?_
       exact Sq.anyA (S0_13 ())
      ·refine Qm ?_
       exact Sq.anyA (S0_14 ())
     refine AnyS.cu (γ := Unit) [0, 2, 3, 4, 5, 6, 7, 10, 20, 23, 24, 25, 26, 27, 28, 29, 30, 31, 32, 33, 34, 35, 36, 37] 0 2 8 (bita 9 32) (fun gS0_4 => [(45, VP.of (min (w64 (e2.1 + 1)) (s1.1.size : Int)))]) (fun gS0_4 => []) (fun gS0_4 => []) (fun gS0_4 => ?_) (fun S0_4 => ?_)
     ·clear h
      refine AnyS.stp [0, 1, 4] ⟨⟨_, rfl, ?_⟩, ⟨_, rfl, ?_⟩, ⟨_, rfl, ?_⟩, trivial⟩
      ·refine Qm ?_
       exact Sq.anyA (S0_7 ())
      ·refine Ql0 0 ty36 ?_
       exact Sq.anyA (S0_10 ())
      ·refine Qm ?_
       exact Sq.anyA (S0_11 ())
     refine AnyS.cu (γ := Unit) [0, 2, 3, 4, 5, 6, 7, 10, 20, 23, 24, 25, 26, 27, 28, 29, 30, 31, 32, 33, 34, 35, 36, 37] 0 2 8 (bita 9 16) (fun gS0_3 => [(44, VP.of (s1.1))]) (fun gS0_3 => []) (fun gS0_3 => []) (fun gS0_3 => ?_) (fun S0_3 => ?_)
     ·clear h
      refine AnyS.stp [0, 1, 5] ⟨⟨_, rfl, ?_⟩, ⟨_, rfl, ?_⟩, ⟨_, rfl, ?_⟩, trivial⟩
      ·refine Qm ?_
       exact Sq.anyA (S0_6 ())
      ·refine Ql0 0 ty36 ?_
       exact Sq.anyA (S0_9 ())
      ·refine Qm ?_
       exact Sq.anyA (S0_11 ())
     refine AnyS.cu (γ := Unit) [0, 2, 3, 4, 5, 6, 7, 10, 20, 23, 24, 25, 26, 27, 28, 29, 30, 31, 32, 33, 34, 35, 36, 37] 0 2 8 (bita 9 2) (fun gS0_2 => [(41, VP.of (y3))]) (fun gS0_2 => []) (fun gS0_2 => []) (fun gS0_2 => ?_) (fun S0_2 => ?_)
     ·clear h
      refine AnyS.stp [0, 2, 4, 5] ⟨⟨_, rfl, ?_⟩, ⟨_, rfl, ?_⟩, ⟨_, rfl, ?_⟩, ⟨_, rfl, ?_⟩, trivial⟩
      ·refine Qm ?_
       exact Sq.anyA (S0_5 ())
      ·refine Qbl [y3] Tryd.underlying22 ty36 zr36 ?_
       exact Sq.anyA (S0_8 ())
      ·refine Qm ?_
       exact Sq.anyA (S0_9 ())
      ·refine Qm ?_
       exact Sq.anyA (S0_10 ())
     refine AnyS.cu (γ := Unit) [0, 2, 3, 4, 5, 6, 7, 10, 20, 23, 24, 25, 26, 27, 28, 29, 30, 31, 32, 33, 34, 35, 36, 37] 0 2 8 (bita 9 1) (fun gS0_1 => [(40, VP.eq (slv g1.1 s1.2.length g1.2))]) (fun gS0_1 => []) (fun gS0_1 => []) (fun gS0_1 => ?_) (fun S0_1 => ?_)
     ·clear h
      refine AnyS.stp [1, 4, 5] ⟨⟨_, rfl, ?_⟩, ⟨_, rfl, ?_⟩, ⟨_, rfl, ?_⟩, trivial⟩
      ·refine Ql0 0 ty36 ?_
       exact Sq.anyA (S0_5 ())
      ·refine Qm ?_
       exact Sq.anyA (S0_6 ())
      ·refine Qm ?_
       exact Sq.anyA (S0_7 ())
     refine AnyS.stp [0, 1, 4, 5] ⟨⟨_, rfl, ?_⟩, ⟨_, rfl, ?_⟩, ⟨_, rfl, ?_⟩, ⟨_, rfl, ?_⟩, trivial⟩
     ·refine Qm ?_
      exact Sq.anyA (S0_1 ())
     ·refine Ql0 0 ty36 ?_
      exact Sq.anyA (S0_2 ())
     ·refine Qm ?_
      exact Sq.anyA (S0_3 ())
     ·refine Qm ?_
      exact Sq.anyA (S0_4 ())
  ·refine Wp.exit (To.exit ?_)
   cases h
   exact Qlv (g1.1, g1.2) 0
 ·clear hl
  rcases e1 with e1 | e1
  ·simp only [Sum.elim_inl] at h
   refine To.bexit (To.next (Qsr (Qm ?_)))
   refine Qa ?_
   refine Qa ?_
   refine Qa (Qnx (Wp.ret ?_))
   refine To.freezeL (α := T_api_Call) 0 [2, 5, 47] ⟨rfl, rfl, rfl, trivial⟩ rfl ?_
   cases h
   exact To.end3 rfl (rv_t rfl) (rv_t rfl) (rv_t rfl)
  ·simp only [Sum.elim_inr] at h
   refine To.bret (To.ret ?_)
   cases h
   exact To.end3 rfl (rv_t rfl) (rv_t rfl) (rv_t rfl)
instance k10 : K1 Tryd.prog 10 _ _ L_ref33_Parse VP.of (fun r => VP.tup [VP.of (r.1), VP.of (r.2.1), VP.of (r.2.2)]) :=
  ⟨⟨_, Tryd.func10, rfl, by kernel_rfl⟩, fun _ _ h => C_ref33_Parse h⟩
end Go.Proofs.YtcglmhpembonmaaDoor

namespace Go.Proofs.YtcglmhpembonmaaDoor
open Go Gv
set_option linter.unusedVariables false
set_option linter.unusedSimpArgs false
set_option maxRecDepth 100000
set_option maxHeartbeats 2000000
theorem C_law33_ScriptTexts {x0 : List T_api_Call} {x1 : ByteArray} {x2 : Int} {x3 : BitVec 8}  {r : Bool} (h : L_law33_ScriptTexts x0 x1 x2 x3 = some r) : MeetsL G0 Tryd.prog 3 [VP.of (x0), VP.of (x1), VP.of (x2), VP.of (x3)] (VP.of (r)) := by
 unfold L_law33_ScriptTexts at h
 refine MeetsL.of Tryd.func3 rfl Tryd.ntmps3 rfl fun W A hG => Qsr (Qa (Qns ?_))
 refine Qbf h fun y1 hy1 h => Qbf h fun y2 hy2 h => Wp.drawE mixed 9 (bita 9 0) rfl rfl ?_
 refine AnyS.cu (γ := Unit) [2, 3, 8] 0 0 0 (bita 9 511) (fun gS0_36 => [(0, VP.of (y1)), (1, VP.of (y2))]) (fun gS0_36 => []) (fun gS0_36 => []) (fun gS0_36 => ?_) (fun S0_36 => ?_)
 ·refine AnyS.last (by kernel_rfl) ?_
  refine To.next (Qsr (Qm ?_))
  refine Qbf h fun y3 hy3 h => Qv (r_callG hG en6 (Cs_Format hy3) ⟨look_t rfl, trivial⟩) ?_
  refine Qa (Qns (Qsr ?_))
  refine Qm ?_
  refine Qm ?_
  refine Qbf h fun y4 hy4 h => Qcl en7 (C_ref33_Format hy4) ?_
  refine Qv (r_neS Tryd.underlying9 (look_t rfl) (look_t rfl)) (Qnx ?_)
  refine Qcd h (fun h=>?_) fun h=>?_
  ·refine Qsr (Qa (Qnx (Wp.ret (To.ret ?_))))
   cases h
   exact Qe1
  ·refine Qkn (Qsr (Qm ?_))
   refine Qbf h fun y5 hy5 h => Sq.s2bO Tryd.underlying9 Tryd.underlying25 Tryd.underlying5 (look_t rfl) hy5 rfl fun key1 cap1 => Qa (Qns (Qsr ?_))
   refine Qm ?_
   refine Qv (r_lenO (i := 0) Tryd.underlying25 (look_t rfl) rfl rfl) ?_
   refine Q2 r_gtr (Qnx ?_)
   refine Qbf h fun m1 hm1 h => ?_
   refine Qcm (γ:=(Option Nat × Nat)) [0, 1, 2, 3, 8, 9, 31, 36] (fun g1 => [(10, VP.eq (slv g1.1 m1.length g1.2))]) (fun g1 => [(0, ⟨g1.1, .row 5 m1 g1.2⟩)]) (fun g1 => ?_) (fun hm hc => ?_) fun hm hc => ?_
   ·clear hm1
    refine To.next (Wp.seq (Wp.seq (Wp.freeze (α := BitVec 8) 0 10 rfl rfl (Qbf h fun y6 hy6 h => Qbf h fun y7 hy7 h => Qbf h fun y8 hy8 h => Qbf h fun y9 hy9 h => Qbf h fun y10 hy10 h => Qbf h fun z1 hz1 h => Qwl [0, 1, 2, 3, 8, 9, 10, 31, 36] ?_))))
    refine Wp.eD mixed (Hp 47 [] [] _ :: Hp 48 [] [] _ :: Hp 49 [] [] _ :: Hp 50 [2] [] _ :: Hp 51 [] [] _ :: Hp 52 [] [] _ :: Hp 53 [] [] _ :: Hp 54 [6] [] _ :: Hp 55 [7] [] _ :: Hp 56 [5, 8] [] _ :: Hp 57 [4, 9] [] _ :: Hp 58 [] [] _ :: Hp 59 [] [] _ :: Hp 60 [11, 12] [] _ :: Hp 61 [] [] _ :: Hp 62 [14] [] _ :: Hp 63 [] [] _ :: Hp 64 [16] [] _ :: Hp 65 [0, 1, 3, 10, 13, 15, 17] [] _ :: Hp 66 [18] [] _ :: Hp 67 [] [] _ :: []) ⟨Dm, Dm, Dm, Du fun hE hL => r_b2s Tryd.underlying25 Tryd.underlying5 Tryd.underlying9 (look_t (hE _ _ rfl)), Dm, Dm, Dm, D1 (r_lens Tryd.underlying9), D2 r_add, Du fun hE hL => r_call en8 (C_mcase_Mod hy6) ⟨look_t (hE _ _ rfl), look_t (hE _ _ rfl), trivial⟩, Du fun hE hL => r_slcS Tryd.underlying9 (look_t (hE _ _ rfl)) .none (.some (look_t (hE _ _ rfl))) hy7, Dm, Dm, Du fun hE hL => r_cat (look_t (hE _ _ rfl)) (look_t (hE _ _ rfl)) hy8, Dm, Du fun hE hL => r_cat (look_t (hE _ _ rfl)) (look_str (ByteArray.mk #[10])) hy9, Dm, Du fun hE hL => r_cat (look_str (ByteArray.mk #[49, 32, 10])) (look_t (hE _ _ rfl)) hy10, Du fun hE hL => (r_bsl (r := [y2, y3, strOf m1, y7, y8, y9, ByteArray.mk #[], y10, ByteArray.mk #[57, 50, 50, 51, 51, 55, 50, 48, 51, 54, 56, 53, 52, 55, 55, 53, 56, 48, 56, 32, 48, 48, 10], ByteArray.mk #[45, 57, 50, 50, 51, 51, 55, 50, 48, 51, 54, 56, 53, 52, 55, 55, 53, 56, 48, 56, 32, 48, 48, 10], ByteArray.mk #[45, 48, 32, 10], ByteArray.mk #[48, 49, 32, 48, 48, 10], ByteArray.mk #[49, 32, 48, 10], ByteArray.mk #[49, 32, 48, 65, 10]]) Tryd.underlying27 ty9 zr9 rfl rfl (.cons (by simp) (look_t (hE _ _ rfl)) (.cons (by simp) (look_t (hE _ _ rfl)) (.cons (by simp) (look_t (hE _ _ rfl)) (.cons (by simp) (look_t (hE _ _ rfl)) (.cons (by simp) (look_t (hE _ _ rfl)) (.cons (by simp) (look_t (hE _ _ rfl)) (.cons (by simp) (look_str (ByteArray.mk #[])) (.cons (by simp) (look_t (hE _ _ rfl)) (.cons (by simp) (look_str (ByteArray.mk #[57, 50, 50, 51, 51, 55, 50, 48, 51, 54, 56, 53, 52, 55, 55, 53, 56, 48, 56, 32, 48, 48, 10])) (.cons (by simp) (look_str (ByteArray.mk #[45, 57, 50, 50, 51, 51, 55, 50, 48, 51, 54, 56, 53, 52, 55, 55, 53, 56, 48, 56, 32, 48, 48, 10])) (.cons (by simp) (look_str (ByteArray.mk #[45, 48, 32, 10])) (.cons (by simp) (look_str (ByteArray.mk #[48, 49, 32, 48, 48, 10])) (.cons (by simp) (look_str (ByteArray.mk #[49, 32, 48, 10])) (.cons (by simp) (look_str (ByteArray.mk #[49, 32, 48, 65, 10])) (.nil)))))))))))))))).as (some_in hz1), D1 (r_len Tryd.underlying27), Dm, trivial⟩ fun hd1 => ?_
    refine To.eqL (L2 := [⟨none, .dead⟩]) rfl (Qte (To.next (Wp.block ?_)))
    refine Qbf h fun e1 hl h => ?_
    refine Qlq hl [0, 1, 2, 3, 8, 9, 10, 31, 36, 65, 66] (Tup.vl [67]) (Sum.elim (Xex 0) Xrt) (Sum.elim (Tup.vl [67, 68]) (Tup.vl [12, 13, 14, 15, 16, 17, 18, 67, 68, 96])) (fun s1 r h => ?_) ?_
    ·clear hl
     refine Qsr (Q2 r_lss (Qns ?_))
     refine Qcd h (fun h=>?_) fun h=>?_
     ·refine Qkn (Wp.seq (Wp.block (Qsr (Qbf h fun k1 hk1 h => Qix hk1 Tryd.underlying27 ty9 ?_))))
      refine Q1 (r_loadp ty9) ?_
      refine Qa (Qnr ?_)
      refine Qm ?_
      refine Qbf h fun y11 hy11 h => Qv (r_callG hG en9 (C_script_Parse hy11) ⟨look_t rfl, trivial⟩) ?_
      refine Qm ?_
      refine Qxt ?_
      refine Qxt ?_
      refine Qxt ?_
      refine Qa ?_
      refine Qa ?_
      refine Qa (Qnr ?_)
      refine Qm ?_
      refine Qbf h fun y12 hy12 h => Qcl en10 (C_ref33_Parse hy12) ?_
      refine Qm ?_
      refine Qxt ?_
      refine Qxt ?_
      refine Qxt ?_
      refine Qa ?_
      refine Qa ?_
      refine Qa (Qnr ?_)
      refine Qm ?_
      refine Qm ?_
      refine Q2 r_neq ?_
      refine Qm ?_
      refine Qg1 r_move ?_
      refine Qg1 r_move ?_
      refine Qg2 r_neq ?_
      refine Qor ?_
      refine Qm ?_
      refine Qg1 r_move ?_
      refine Qg1 r_move ?_
      refine Qbf h fun y13 hy13 h => Qg (fun hb => r_call en11 (C_ref33_Same (condM_some hy13 hb)) ⟨look_tc rfl hb, look_tc rfl hb, trivial⟩) ?_
      refine Qg1 r_not ?_
      refine Qor (Qnx ?_)
      refine Qcd h (fun h=>?_) fun h=>?_
      ·refine Qsr (Qa (Qnx (Wp.ret ?_)))
       refine To.bret (To.ret ?_)
       cases h
       exact Qlv () 0
      ·refine Wp.skip (To.bnorm (To.next (Wp.reg (Q2 r_add ?_))))
       refine Qm (Sq.nil ?_)
       cases h
       exact Qrd () 0
     ·refine Wp.exit (To.exit ?_)
      cases h
      exact Qlv () 0
    ·clear hl
     rcases e1 with e1 | e1
     ·simp only [Sum.elim_inl] at h
      refine To.bexit (To.next (Qsr (Qbf h fun y14 hy14 h => Qv (r_callG hG en12 (C_law33_begun hy14) trivial) ?_)))
      refine Qa (Qnx (Wp.ret ?_))
      cases h
      exact Qe1
     ·simp only [Sum.elim_inr] at h
      refine To.bret (To.ret ?_)
      cases h
      exact Qe1
   ·have h := cond_t hc hm1
    refine Wp.reg (Qm ?_)
    refine Qm ?_
    refine Qm ?_
    refine Qv (r_lenO (i := 0) Tryd.underlying25 (look_t rfl) rfl rfl) ?_
    refine Qbf h fun y15 hy15 h => Qcl en8 (C_mcase_Mod hy15) ?_
    refine Qbf h fun k2 hk2 h => Qv (r_iaO (i := 0) (k := k2) (xs := (y5 : List (BitVec 8))) Tryd.underlying25 ty5 (look_t rfl) (look_t rfl) rfl (idx_some hk2)) ?_
    refine Qv (r_loadR (i := 0) (k := k2) (Lens.id (BitVec 8)) (r := (lget y5 k2)) ty5 (look_t rfl) rfl (idx_some hk2).1 rfl rfl) ?_
    refine Qm ?_
    refine Q2 r_xor8 ?_
    refine Qbf h fun k3 hk3 h => Qv (r_iaO (i := 0) (k := k3) (xs := (y5 : List (BitVec 8))) Tryd.underlying25 ty5 (look_t rfl) (look_t rfl) rfl (idx_some hk3)) ?_
    refine Sq.storeR (i := 0) (k := k3) (Lens.id (BitVec 8)) (v := ((lget y5 k2) ^^^ x3 : BitVec 8)) (r := (lset y5 k3 ((lget y5 k2) ^^^ x3) : List (BitVec 8))) ty5 (look_t rfl) (look_t rfl) rfl (idx_some hk3).1 rfl rfl (Sq.relen (m := (lset y5 k3 ((lget y5 k2) ^^^ x3)).length) 10 rfl (lset_len rfl) (Sq.relen (m := (lset y5 k3 ((lget y5 k2) ^^^ x3)).length) 33 rfl (lset_len rfl) (Sq.relen (m := (lset y5 k3 ((lget y5 k2) ^^^ x3)).length) 34 rfl (lset_len rfl) (Sq.relen (m := (lset y5 k3 ((lget y5 k2) ^^^ x3)).length) 37 rfl (lset_len rfl) (Sq.relen (m := (lset y5 k3 ((lget y5 k2) ^^^ x3)).length) 39 rfl (lset_len rfl) (Sq.nil ?_))))))
    cases h
    exact Qmt 0 (hm (key1, cap1))
   ·have h := cond_f hc hm1
    refine Wp.skip ?_
    cases h
    exact Qmt 0 (hm (key1, cap1))
 refine AnyS.cu (γ := Unit) [1, 2, 3, 8] 0 0 1 (bita 9 255) (fun gS0_35 => [(0, VP.of (y1)), (25, VP.of (y2))]) (fun gS0_35 => []) (fun gS0_35 => []) (fun gS0_35 => ?_) (fun S0_35 => ?_)
 ·clear h
  refine AnyS.s1 8 ?_
  ·refine Qa ?_
   exact Sq.anyA (S0_36 ())
 refine AnyS.cu (γ := Unit) [1, 2, 3, 8] 0 0 2 (bita 9 191) (fun gS0_34 => [(0, VP.of (y1)), (21, VP.of (x1)), (24, VP.of (min (x1.size : Int) 60))]) (fun gS0_34 => []) (fun gS0_34 => []) (fun gS0_34 => ?_) (fun S0_34 => ?_)
 ·clear h
  refine AnyS.s1 6 ?_
  ·refine Qv (r_slcS Tryd.underlying9 (look_t rfl) .none (.some (look_t rfl)) hy2) ?_
   exact Sq.anyA (S0_35 ())
 refine AnyS.cu (γ := Unit) [0, 1, 2, 3, 8] 0 0 2 (bita 9 127) (fun gS0_33 => [(20, VP.of (y1)), (25, VP.of (y2))]) (fun gS0_33 => []) (fun gS0_33 => []) (fun gS0_33 => ?_) (fun S0_33 => ?_)
 ·clear h
  refine AnyS.s1 7 ?_
  ·refine Qa ?_
   exact Sq.anyA (S0_35 ())
 refine AnyS.cu (γ := Unit) [0, 1, 2, 3, 8] 0 0 3 (bita 9 125) (fun gS0_32 => [(19, VP.of (x0)), (25, VP.of (y2))]) (fun gS0_32 => []) (fun gS0_32 => []) (fun gS0_32 => ?_) (fun S0_32 => ?_)
 ·clear h
  refine AnyS.s1 1 ?_
  ·refine Qcl en5 (C_law33_short hy1) ?_
   exact Sq.anyA (S0_33 ())
 refine AnyS.cu (γ := Unit) [1, 2, 3, 8] 0 0 3 (bita 9 187) (fun gS0_31 => [(0, VP.of (y1)), (24, VP.of (min (x1.size : Int) 60))]) (fun gS0_31 => []) (fun gS0_31 => []) (fun gS0_31 => ?_) (fun S0_31 => ?_)
 ·clear h
  refine AnyS.s1 2 ?_
  ·refine Qm ?_
   exact Sq.anyA (S0_34 ())
 refine AnyS.cu (γ := Unit) [1, 2, 3, 8] 0 0 3 (bita 9 159) (fun gS0_30 => [(0, VP.of (y1)), (21, VP.of (x1)), (23, VP.of (x1.size : Int))]) (fun gS0_30 => []) (fun gS0_30 => []) (fun gS0_30 => ?_) (fun S0_30 => ?_)
 ·clear h
  refine AnyS.s1 5 ?_
  ·refine Q2 r_min ?_
   exact Sq.anyA (S0_34 ())
 refine AnyS.cu (γ := Unit) [0, 1, 2, 3, 8] 0 0 3 (bita 9 63) (fun gS0_29 => [(20, VP.of (y1)), (21, VP.of (x1)), (24, VP.of (min (x1.size : Int) 60))]) (fun gS0_29 => []) (fun gS0_29 => []) (fun gS0_29 => ?_) (fun S0_29 => ?_)
 ·clear h
  refine AnyS.s2 6 7 ?_ ?_
  ·refine Qv (r_slcS Tryd.underlying9 (look_t rfl) .none (.some (look_t rfl)) hy2) ?_
   exact Sq.anyA (S0_33 ())
  ·refine Qa ?_
   exact Sq.anyA (S0_34 ())
 refine AnyS.cu (γ := Unit) [0, 1, 2, 3, 8] 0 0 4 (bita 9 124) (fun gS0_28 => [(25, VP.of (y2))]) (fun gS0_28 => []) (fun gS0_28 => []) (fun gS0_28 => ?_) (fun S0_28 => ?_)
 ·clear h
  refine AnyS.s1 0 ?_
  ·refine Qm ?_
   exact Sq.anyA (S0_32 ())
 refine AnyS.cu (γ := Unit) [0, 1, 2, 3, 8] 0 0 4 (bita 9 61) (fun gS0_27 => [(19, VP.of (x0)), (21, VP.of (x1)), (24, VP.of (min (x1.size : Int) 60))]) (fun gS0_27 => []) (fun gS0_27 => []) (fun gS0_27 => ?_) (fun S0_27 => ?_)
 ·clear h
  refine AnyS.s2 1 6 ?_ ?_
  ·refine Qcl en5 (C_law33_short hy1) ?_
   exact Sq.anyA (S0_29 ())
  ·refine Qv (r_slcS Tryd.underlying9 (look_t rfl) .none (.some (look_t rfl)) hy2) ?_
   exact Sq.anyA (S0_32 ())
 refine AnyS.cu (γ := Unit) [1, 2, 3, 8] 0 0 4 (bita 9 155) (fun gS0_26 => [(0, VP.of (y1)), (23, VP.of (x1.size : Int))]) (fun gS0_26 => []) (fun gS0_26 => []) (fun gS0_26 => ?_) (fun S0_26 => ?_)
 ·clear h
  refine AnyS.s2 2 5 ?_ ?_
  ·refine Qm ?_
   exact Sq.anyA (S0_30 ())
  ·refine Q2 r_min ?_
   exact Sq.anyA (S0_31 ())
 refine AnyS.cu (γ := Unit) [0, 1, 2, 3, 8] 0 0 4 (bita 9 59) (fun gS0_25 => [(20, VP.of (y1)), (24, VP.of (min (x1.size : Int) 60))]) (fun gS0_25 => []) (fun gS0_25 => []) (fun gS0_25 => ?_) (fun S0_25 => ?_)
 ·clear h
  refine AnyS.s2 2 7 ?_ ?_
  ·refine Qm ?_
   exact Sq.anyA (S0_29 ())
  ·refine Qa ?_
   exact Sq.anyA (S0_31 ())
 refine AnyS.cu (γ := Unit) [1, 2, 3, 8] 0 0 4 (bita 9 143) (fun gS0_24 => [(0, VP.of (y1)), (21, VP.of (x1)), (22, VP.of (x1))]) (fun gS0_24 => []) (fun gS0_24 => []) (fun gS0_24 => ?_) (fun S0_24 => ?_)
 ·clear h
  refine AnyS.s1 4 ?_
  ·refine Q1 (r_lens Tryd.underlying9) ?_
   exact Sq.anyA (S0_30 ())
 refine AnyS.cu (γ := Unit) [0, 1, 2, 3, 8] 0 0 4 (bita 9 31) (fun gS0_23 => [(20, VP.of (y1)), (21, VP.of (x1)), (23, VP.of (x1.size : Int))]) (fun gS0_23 => []) (fun gS0_23 => []) (fun gS0_23 => ?_) (fun S0_23 => ?_)
 ·clear h
  refine AnyS.s2 5 7 ?_ ?_
  ·refine Q2 r_min ?_
   exact Sq.anyA (S0_29 ())
  ·refine Qa ?_
   exact Sq.anyA (S0_30 ())
 refine AnyS.cu (γ := Unit) [0, 1, 2, 3, 8] 0 0 5 (bita 9 60) (fun gS0_22 => [(21, VP.of (x1)), (24, VP.of (min (x1.size : Int) 60))]) (fun gS0_22 => []) (fun gS0_22 => []) (fun gS0_22 => ?_) (fun S0_22 => ?_)
 ·clear h
  refine AnyS.s2 0 6 ?_ ?_
  ·refine Qm ?_
   exact Sq.anyA (S0_27 ())
  ·refine Qv (r_slcS Tryd.underlying9 (look_t rfl) .none (.some (look_t rfl)) hy2) ?_
   exact Sq.anyA (S0_28 ())
 refine AnyS.cu (γ := Unit) [0, 1, 2, 3, 8] 0 0 5 (bita 9 57) (fun gS0_21 => [(19, VP.of (x0)), (24, VP.of (min (x1.size : Int) 60))]) (fun gS0_21 => []) (fun gS0_21 => []) (fun gS0_21 => ?_) (fun S0_21 => ?_)
 ·clear h
  refine AnyS.s2 1 2 ?_ ?_
  ·refine Qcl en5 (C_law33_short hy1) ?_
   exact Sq.anyA (S0_25 ())
  ·refine Qm ?_
   exact Sq.anyA (S0_27 ())
 refine AnyS.cu (γ := Unit) [0, 1, 2, 3, 8] 0 0 5 (bita 9 29) (fun gS0_20 => [(19, VP.of (x0)), (21, VP.of (x1)), (23, VP.of (x1.size : Int))]) (fun gS0_20 => []) (fun gS0_20 => []) (fun gS0_20 => ?_) (fun S0_20 => ?_)
 ·clear h
  refine AnyS.s2 1 5 ?_ ?_
  ·refine Qcl en5 (C_law33_short hy1) ?_
   exact Sq.anyA (S0_23 ())
  ·refine Q2 r_min ?_
   exact Sq.anyA (S0_27 ())
 refine AnyS.cu (γ := Unit) [1, 2, 3, 8] 0 0 5 (bita 9 139) (fun gS0_19 => [(0, VP.of (y1)), (22, VP.of (x1))]) (fun gS0_19 => []) (fun gS0_19 => []) (fun gS0_19 => ?_) (fun S0_19 => ?_)
 ·clear h
  refine AnyS.s2 2 4 ?_ ?_
  ·refine Qm ?_
   exact Sq.anyA (S0_24 ())
  ·refine Q1 (r_lens Tryd.underlying9) ?_
   exact Sq.anyA (S0_26 ())
 refine AnyS.cu (γ := Unit) [0, 1, 2, 3, 8] 0 0 5 (bita 9 27) (fun gS0_18 => [(20, VP.of (y1)), (23, VP.of (x1.size : Int))]) (fun gS0_18 => []) (fun gS0_18 => []) (fun gS0_18 => ?_) (fun S0_18 => ?_)
 ·clear h
  refine AnyS.stp [2, 5, 7] ⟨⟨_, rfl, ?_⟩, ⟨_, rfl, ?_⟩, ⟨_, rfl, ?_⟩, trivial⟩
  ·refine Qm ?_
   exact Sq.anyA (S0_23 ())
  ·refine Q2 r_min ?_
   exact Sq.anyA (S0_25 ())
  ·refine Qa ?_
   exact Sq.anyA (S0_26 ())
 refine AnyS.cu (γ := Unit) [1, 2, 3, 8] 0 0 5 (bita 9 135) (fun gS0_17 => [(0, VP.of (y1)), (21, VP.of (x1))]) (fun gS0_17 => []) (fun gS0_17 => []) (fun gS0_17 => ?_) (fun S0_17 => ?_)
 ·clear h
  refine AnyS.s1 3 ?_
  ·refine Qm ?_
   exact Sq.anyA (S0_24 ())
 refine AnyS.cu (γ := Unit) [0, 1, 2, 3, 8] 0 0 5 (bita 9 15) (fun gS0_16 => [(20, VP.of (y1)), (21, VP.of (x1)), (22, VP.of (x1))]) (fun gS0_16 => []) (fun gS0_16 => []) (fun gS0_16 => ?_) (fun S0_16 => ?_)
 ·clear h
  refine AnyS.s2 4 7 ?_ ?_
  ·refine Q1 (r_lens Tryd.underlying9) ?_
   exact Sq.anyA (S0_23 ())
  ·refine Qa ?_
   exact Sq.anyA (S0_24 ())
 refine AnyS.cu (γ := Unit) [0, 1, 2, 3, 8] 0 0 6 (bita 9 56) (fun gS0_15 => [(24, VP.of (min (x1.size : Int) 60))]) (fun gS0_15 => []) (fun gS0_15 => []) (fun gS0_15 => ?_) (fun S0_15 => ?_)
 ·clear h
  refine AnyS.s2 0 2 ?_ ?_
  ·refine Qm ?_
   exact Sq.anyA (S0_21 ())
  ·refine Qm ?_
   exact Sq.anyA (S0_22 ())
 refine AnyS.cu (γ := Unit) [0, 1, 2, 3, 8] 0 0 6 (bita 9 28) (fun gS0_14 => [(21, VP.of (x1)), (23, VP.of (x1.size : Int))]) (fun gS0_14 => []) (fun gS0_14 => []) (fun gS0_14 => ?_) (fun S0_14 => ?_)
 ·clear h
  refine AnyS.s2 0 5 ?_ ?_
  ·refine Qm ?_
   exact Sq.anyA (S0_20 ())
  ·refine Q2 r_min ?_
   exact Sq.anyA (S0_22 ())
 refine AnyS.cu (γ := Unit) [0, 1, 2, 3, 8] 0 0 6 (bita 9 25) (fun gS0_13 => [(19, VP.of (x0)), (23, VP.of (x1.size : Int))]) (fun gS0_13 => []) (fun gS0_13 => []) (fun gS0_13 => ?_) (fun S0_13 => ?_)
 ·clear h
  refine AnyS.stp [1, 2, 5] ⟨⟨_, rfl, ?_⟩, ⟨_, rfl, ?_⟩, ⟨_, rfl, ?_⟩, trivial⟩
  ·refine Qcl en5 (C_law33_short hy1) ?_
   exact Sq.anyA (S0_18 ())
  ·refine Qm ?_
   exact Sq.anyA (S0_20 ())
  ·refine Q2 r_min ?_
   exact Sq.anyA (S0_21 ())
 refine AnyS.cu (γ := Unit) [0, 1, 2, 3, 8] 0 0 6 (bita 9 13) (fun gS0_12 => [(19, VP.of (x0)), (21, VP.of (x1)), (22, VP.of (x1))]) (fun gS0_12 => []) (fun gS0_12 => []) (fun gS0_12 => ?_) (fun S0_12 => ?_)
 ·clear h
  refine AnyS.s2 1 4 ?_ ?_
  ·refine Qcl en5 (C_law33_short hy1) ?_
   exact Sq.anyA (S0_16 ())
  ·refine Q1 (r_lens Tryd.underlying9) ?_
   exact Sq.anyA (S0_20 ())
 refine AnyS.cu (γ := Unit) [1, 2, 3, 8] 0 0 6 (bita 9 131) (fun gS0_11 => [(0, VP.of (y1))]) (fun gS0_11 => []) (fun gS0_11 => []) (fun gS0_11 => ?_) (fun S0_11 => ?_)
 ·clear h
  refine AnyS.s2 2 3 ?_ ?_
  ·refine Qm ?_
   exact Sq.anyA (S0_17 ())
  ·refine Qm ?_
   exact Sq.anyA (S0_19 ())
 refine AnyS.cu (γ := Unit) [0, 1, 2, 3, 8] 0 0 6 (bita 9 11) (fun gS0_10 => [(20, VP.of (y1)), (22, VP.of (x1))]) (fun gS0_10 => []) (fun gS0_10 => []) (fun gS0_10 => ?_) (fun S0_10 => ?_)
 ·clear h
  refine AnyS.stp [2, 4, 7] ⟨⟨_, rfl, ?_⟩, ⟨_, rfl, ?_⟩, ⟨_, rfl, ?_⟩, trivial⟩
  ·refine Qm ?_
   exact Sq.anyA (S0_16 ())
  ·refine Q1 (r_lens Tryd.underlying9) ?_
   exact Sq.anyA (S0_18 ())
  ·refine Qa ?_
   exact Sq.anyA (S0_19 ())
 refine AnyS.cu (γ := Unit) [0, 1, 2, 3, 8] 0 0 6 (bita 9 7) (fun gS0_9 => [(20, VP.of (y1)), (21, VP.of (x1))]) (fun gS0_9 => []) (fun gS0_9 => []) (fun gS0_9 => ?_) (fun S0_9 => ?_)
 ·clear h
  refine AnyS.s2 3 7 ?_ ?_
  ·refine Qm ?_
   exact Sq.anyA (S0_16 ())
  ·refine Qa ?_
   exact Sq.anyA (S0_17 ())
 refine AnyS.cu (γ := Unit) [0, 1, 2, 3, 8] 0 0 7 (bita 9 24) (fun gS0_8 => [(23, VP.of (x1.size : Int))]) (fun gS0_8 => []) (fun gS0_8 => []) (fun gS0_8 => ?_) (fun S0_8 => ?_)
 ·clear h
  refine AnyS.stp [0, 2, 5] ⟨⟨_, rfl, ?_⟩, ⟨_, rfl, ?_⟩, ⟨_, rfl, ?_⟩, trivial⟩
  ·refine Qm ?_
   exact Sq.anyA (S0_13 ())
  ·refine Qm ?_
   exact Sq.anyA (S0_14 ())
  ·refine Q2 r_min ?_
   exact Sq.anyA (S0_15 ())
 refine AnyS.cu (γ := Unit) [0, 1, 2, 3, 8] 0 0 7 (bita 9 12) (fun gS0_7 => [(21, VP.of (x1)), (22, VP.of (x1))]) (fun gS0_7 => []) (fun gS0_7 => []) (fun gS0_7 => ?_) (fun S0_7 => ?_)
 ·clear h
  refine AnyS.s2 0 4 ?_ ?_
  ·refine Qm ?_
   exact Sq.anyA (S0_12 ())
  ·refine Q1 (r_lens Tryd.underlying9) ?_
   exact Sq.anyA (S0_14 ())
 refine AnyS.cu (γ := Unit) [0, 1, 2, 3, 8] 0 0 7 (bita 9 9) (fun gS0_6 => [(19, VP.of (x0)), (22, VP.of (x1))]) (fun gS0_6 => []) (fun gS0_6 => []) (fun gS0_6 => ?_) (fun S0_6 => ?_)
 ·clear h
  refine AnyS.stp [1, 2, 4] ⟨⟨_, rfl, ?_⟩, ⟨_, rfl, ?_⟩, ⟨_, rfl, ?_⟩, trivial⟩
  ·refine Qcl en5 (C_law33_short hy1) ?_
   exact Sq.anyA (S0_10 ())
  ·refine Qm ?_
   exact Sq.anyA (S0_12 ())
  ·refine Q1 (r_lens Tryd.underlying9) ?_
   exact Sq.anyA (S0_13 ())
 refine AnyS.cu (γ := Unit) [0, 1, 2, 3, 8] 0 0 7 (bita 9 5) (fun gS0_5 => [(19, VP.of (x0)), (21, VP.of (x1))]) (fun gS0_5 => []) (fun gS0_5 => []) (fun gS0_5 => ?_) (fun S0_5 => ?_)
 ·clear h
  refine AnyS.s2 1 3 ?_ ?_
  ·refine Qcl en5 (C_law33_short hy1) ?_
   exact Sq.anyA (S0_9 ())
  ·refine Qm ?_
   exact Sq.anyA (S0_12 ())
 refine AnyS.cu (γ := Unit) [0, 1, 2, 3, 8] 0 0 7 (bita 9 3) (fun gS0_4 => [(20, VP.of (y1))]) (fun gS0_4 => []) (fun gS0_4 => []) (fun gS0_4 => ?_) (fun S0_4 => ?_)
 ·clear h
  refine AnyS.stp [2, 3, 7] ⟨⟨_, rfl, ?_⟩, ⟨_, rfl, ?_⟩, ⟨_, rfl, ?_⟩, trivial⟩
  ·refine Qm ?_
   exact Sq.anyA (S0_9 ())
  ·refine Qm ?_
   exact Sq.anyA (S0_10 ())
  ·refine Qa ?_
   exact Sq.anyA (S0_11 ())
 refine AnyS.cu (γ := Unit) [0, 1, 2, 3, 8] 0 0 8 (bita 9 8) (fun gS0_3 => [(22, VP.of (x1))]) (fun gS0_3 => []) (fun gS0_3 => []) (fun gS0_3 => ?_) (fun S0_3 => ?_)
 ·clear h
  refine AnyS.stp [0, 2, 4] ⟨⟨_, rfl, ?_⟩, ⟨_, rfl, ?_⟩, ⟨_, rfl, ?_⟩, trivial⟩
  ·refine Qm ?_
   exact Sq.anyA (S0_6 ())
  ·refine Qm ?_
   exact Sq.anyA (S0_7 ())
  ·refine Q1 (r_lens Tryd.underlying9) ?_
   exact Sq.anyA (S0_8 ())
 refine AnyS.cu (γ := Unit) [0, 1, 2, 3, 8] 0 0 8 (bita 9 4) (fun gS0_2 => [(21, VP.of (x1))]) (fun gS0_2 => []) (fun gS0_2 => []) (fun gS0_2 => ?_) (fun S0_2 => ?_)
 ·clear h
  refine AnyS.s2 0 3 ?_ ?_
  ·refine Qm ?_
   exact Sq.anyA (S0_5 ())
  ·refine Qm ?_
   exact Sq.anyA (S0_7 ())
 refine AnyS.cu (γ := Unit) [0, 1, 2, 3, 8] 0 0 8 (bita 9 1) (fun gS0_1 => [(19, VP.of (x0))]) (fun gS0_1 => []) (fun gS0_1 => []) (fun gS0_1 => ?_) (fun S0_1 => ?_)
 ·clear h
  refine AnyS.stp [1, 2, 3] ⟨⟨_, rfl, ?_⟩, ⟨_, rfl, ?_⟩, ⟨_, rfl, ?_⟩, trivial⟩
  ·refine Qcl en5 (C_law33_short hy1) ?_
   exact Sq.anyA (S0_4 ())
  ·refine Qm ?_
   exact Sq.anyA (S0_5 ())
  ·refine Qm ?_
   exact Sq.anyA (S0_6 ())
 refine AnyS.stp [0, 2, 3] ⟨⟨_, rfl, ?_⟩, ⟨_, rfl, ?_⟩, ⟨_, rfl, ?_⟩, trivial⟩
 ·refine Qm ?_
  exact Sq.anyA (S0_1 ())
 ·refine Qm ?_
  exact Sq.anyA (S0_2 ())
 ·refine Qm ?_
  exact Sq.anyA (S0_3 ())
end Go.Proofs.YtcglmhpembonmaaDoor

