/-
  Each function meets its functional program. Conditions: none.
-/
import Derived.Test.YtmnggbjcnoffeaaGreatKc0
import Derived.Test.YtmnggbjcnoffeaaGreatKc2
namespace Go.Proofs.YtmnggbjcnoffeaaGreat
open Go Gv
set_option linter.unusedVariables false
set_option linter.unusedSimpArgs false
set_option maxRecDepth 100000
set_option maxHeartbeats 2000000
theorem C_trie_Trie_path_fn1 {x1 : Int} {x2 : T_api_Value} {x3 : Ref} : MeetsJ Tryz.prog 255 [VP.ptr x1, VP.ptr x2, VP.ptr x3] (fun v : Int => VP.of v) (fun {σ ε} hq step s0 => L_trie_Trie_path_fn1 (σ := σ) (ε := ε) x1 x2 x3 hq step s0) := by
 refine MeetsJ.of Tryz.func255 rfl Tryz.ntmps255 rfl ?_
 intro σ ε γ Ls Lx hq Lc hLc step s0 g0 R h W A u hY
 replace h : L_trie_Trie_path_fn1 x1 x2 x3 hq step s0 R := h
 unfold L_trie_Trie_path_fn1 at h
 refine Qsr ?_
 refine Q1 (r_loadp ty3) ?_
 refine Qm ?_
 refine Qnx ?_
 refine Wp.block ?_
 refine Wp.loopWh (σ := Int × (σ)) (ε := (Int × Bool × (σ)) ⊕ (Int × Int × Int × Bool × Bool × Bool × (ε))) (γ := γ) (δ := γ) h (fun s1 g1 => [(0, VP.eq u), (1, VP.ptr x1), (2, VP.ptr x2), (3, VP.ptr x3), (7, VP.of (x1)), (8, VP.of (s1.1))]) (fun s1 g1 => (Ls s1.2 g1)) (fun q1 => Sum.elim (fun q1 => Exit.exit 0) (fun q1 => Exit.ret) q1) (fun q1 g1 => Sum.elim (fun q1 => [(0, VP.eq u), (1, VP.ptr x1), (2, VP.ptr x2), (3, VP.ptr x3), (7, VP.of (x1)), (8, VP.of (q1.1)), (9, VP.of (q1.2.1))]) (fun q1 => [(0, VP.eq u), (1, VP.ptr x1), (2, VP.ptr x2), (3, VP.ptr x3), (5, VP.of (q1.1)), (6, VP.of (q1.2.1)), (7, VP.of (x1)), (8, VP.of (q1.2.2.1)), (9, VP.of (q1.2.2.2.1)), (19, VP.of (q1.2.2.2.2.1)), (23, VP.of (q1.2.2.2.2.2.1))]) q1) (fun q1 g1 => Sum.elim (fun q1 => (Ls q1.2.2 g1)) (fun q1 => (Lx q1.2.2.2.2.2.2 g1)) q1) g0 rfl (.same rfl (.same rfl (.same rfl (.same rfl (.same rfl (.same rfl .nil)))))) (fun s1 R h g1 => ?_) (fun e1 h g1 => ?_)
 ·refine Qsr ?_
  refine Q2 r_lss ?_
  refine Qns ?_
  refine Wp.cond (look_t rfl) (fun hc => ?_) (fun hc => ?_)
  ·replace h := wcond_t hc h
   refine Qkn ?_
   refine Wp.seq ?_
   refine Wp.block ?_
   refine Qsr ?_
   refine Qm ?_
   refine Qa ?_
   refine Qnr ?_
   refine Qa ?_
   refine Qns ?_
   refine Wp.seq ?_
   obtain ⟨o1, ho1, h⟩ := Wm.of_bind h
   obtain ⟨c1, hc1, h⟩ := Wm.of_bind h
   obtain ⟨y1, hy1, h⟩ := Wm.of_bind h
   refine Wp.draw mixed 9 [some 11, some 12, some 13, some 14, some 15, some 16, some 17, some 18, some 19] [[], [], [1], [2], [3], [4], [], [5, 6], [0, 7]] [.val _, .val _, .val _, .val _, .val _, .val _, .val _, .val _, .val _] [false, false, false, false, false, false, false, false, false] (by kernel_rfl) rfl rfl rfl (fun ps1 => ⟨H1 (r_loadp ty43), H1 (r_loadp ty321), Hv fun L' hL => r_nck (look_ref (look_t rfl) ho1), H1 (r_fa fd337_0), Hv fun L' hL => r_loadM ((Lens.id T_trie_Trie).comp le_T_trie_Trie_bits) (r := c1.f_bits) ty3 (look_t rfl) (dmem (fun i e q => hL i e q rfl) (pmemI (Ls := Ls) (s := s1.2) (g := g1) 0 rfl hLc (rds337 hc1) rfl)) rfl rfl, H2 r_sub, Hm, H2 r_sub, Hcl en196 (C_value_Bit hy1), trivial⟩) fun ps1 => ?_
   refine Qnx ?_
   obtain ⟨m1, hm1, h⟩ := Wm.of_bind h
   refine Wp.condM (γ := Unit) (fun g2 => [(0, VP.eq u), (1, VP.ptr x1), (2, VP.ptr x2), (3, VP.ptr x3), (5, VP.of (s1.1)), (6, VP.of (m1)), (7, VP.of (x1)), (8, VP.of (s1.1)), (9, VP.of (decide (s1.1 < x1))), (19, VP.of (y1))]) (fun g2 => (Ls s1.2 g1)) (look_t rfl) (fun g2 => ?_) (fun hm hc => ?_) (fun hm hc => ?_)
   ·clear hm1
    refine To.next ?_
    refine Qsr ?_
    refine Qm ?_
    refine Qm ?_
    refine Sq.yieldW (Lin := []) (Ls := Ls) (Lx := Lx) (step := step) (s := s1.2) (gg := g1) rfl hY rfl (look_t rfl) h rfl (fun s2 h g3 => ?_) (fun q2 h g3 => ?_)
    ·simp only [Sum.elim_inl] at h
     refine Sq.eqL (L2 := (Ls s2 g3)) rfl ?_
     refine Q1 r_not ?_
     refine Qnx ?_
     refine Wp.condF (look_t rfl) (by first | rfl | (rw [hb]; rfl)) ?_
     refine Wp.skip ?_
     refine To.bnorm ?_
     refine To.next ?_
     refine Wp.reg ?_
     refine Q2 r_add ?_
     refine Qm ?_
     refine Sq.nil ?_
     exact To.roundW h g3 0 rfl (.same rfl (.same rfl (.same rfl (.same rfl (.same rfl (.same rfl .nil))))))
    ·simp only [Sum.elim_inr] at h
     refine Sq.eqL (L2 := (Lx q2 g3)) rfl ?_
     refine Q1 r_not ?_
     refine Qnx ?_
     refine Wp.condT (look_t rfl) (by first | rfl | (rw [hb]; rfl)) ?_
     refine Wp.ret ?_
     refine To.bret ?_
     refine To.ret ?_
     exact To.leaveW h g3 0 rfl (by simp) rfl (.same rfl (.same rfl (.same rfl (.same rfl (.same rfl (.same rfl (.same rfl (.same rfl (.same rfl (.same rfl (.same rfl .nil)))))))))))
   ·have h := cond_t hc hm1
    refine Wp.reg ?_
    refine Qa ?_
    refine Sq.nil ?_
    obtain rfl:=some_in h
    exact Qmt 0 (hm ())
   ·have h := cond_f hc hm1
    refine Wp.skip ?_
    obtain rfl:=some_in h
    exact Qmt 0 (hm ())
  ·replace h := wcond_f hc h
   refine Wp.exit ?_
   refine To.exit ?_
   exact To.leaveW h g1 0 rfl (by simp) rfl (.same rfl (.same rfl (.same rfl (.same rfl (.same rfl (.same rfl (.same rfl .nil)))))))
 ·rcases e1 with e1 | e1
  ·simp only [Sum.elim_inl] at h
   refine To.bexit ?_
   refine To.endn ?_
   exact To.endO0 (⟨⟨(.inl e1.2.2 : σ ⊕ ε), h⟩, g1⟩ : {r // _} × _) (.refl _) rfl rfl
  ·simp only [Sum.elim_inr] at h
   refine To.bret ?_
   exact To.endO0 (⟨⟨(.inr e1.2.2.2.2.2.2 : σ ⊕ ε), h⟩, g1⟩ : {r // _} × _) (.refl _) rfl rfl
theorem Ck_trie_Trie_path_fn1 {hp : Pool Cell} {x1 : Int} {x2 : T_api_Value} {x3 : Ref} : MeetsK Tryz.prog 255 [VP.ptr x1, VP.ptr x2, VP.ptr x3] hp (fun v : Int => VP.of v) (fun {σ ε} => Lk_trie_Trie_path_fn1 (σ := σ) (ε := ε) hp x1 x2 x3) := by
 refine MeetsK.of Tryz.func255 rfl Tryz.ntmps255 rfl ?_
 intro σ ε γ Ls Lx Lc hLc step s0 g0 r h W A u hY
 replace h : Lk_trie_Trie_path_fn1 hp x1 x2 x3 step s0 = some r := h
 unfold Lk_trie_Trie_path_fn1 at h
 refine Qsr ?_
 refine Q1 (r_loadp ty3) ?_
 refine Qm ?_
 refine Qnx ?_
 refine Wp.block ?_
 obtain ⟨e1,hl,h⟩:=Qbs h
 refine Wp.loopG (σ := Int × (σ)) (ε := (Int × Bool × (σ)) ⊕ (Int × Int × Int × Bool × Bool × Bool × (ε))) (γ := γ) (δ := γ) hl (fun s1 g1 => [(0, VP.eq u), (1, VP.ptr x1), (2, VP.ptr x2), (3, VP.ptr x3), (7, VP.of (x1)), (8, VP.of (s1.1))]) (fun s1 g1 => (Ls s1.2 g1)) (fun q1 => Sum.elim (fun q1 => Exit.exit 0) (fun q1 => Exit.ret) q1) (fun q1 g1 => Sum.elim (fun q1 => [(0, VP.eq u), (1, VP.ptr x1), (2, VP.ptr x2), (3, VP.ptr x3), (7, VP.of (x1)), (8, VP.of (q1.1)), (9, VP.of (q1.2.1))]) (fun q1 => [(0, VP.eq u), (1, VP.ptr x1), (2, VP.ptr x2), (3, VP.ptr x3), (5, VP.of (q1.1)), (6, VP.of (q1.2.1)), (7, VP.of (x1)), (8, VP.of (q1.2.2.1)), (9, VP.of (q1.2.2.2.1)), (19, VP.of (q1.2.2.2.2.1)), (23, VP.of (q1.2.2.2.2.2.1))]) q1) (fun q1 g1 => Sum.elim (fun q1 => (Ls q1.2.2 g1)) (fun q1 => (Lx q1.2.2.2.2.2.2 g1)) q1) g0 rfl (.same rfl (.same rfl (.same rfl (.same rfl (.same rfl (.same rfl .nil)))))) (fun s1 r h g1 => ?_) (fun g1 => ?_)
 ·clear hl
  refine Qsr ?_
  refine Q2 r_lss ?_
  refine Qns ?_
  refine Qcd h (fun h=>?_) fun h=>?_
  ·refine Qkn ?_
   refine Wp.seq ?_
   refine Wp.block ?_
   refine Qsr ?_
   refine Qm ?_
   refine Qa ?_
   refine Qnr ?_
   refine Qa ?_
   refine Qns ?_
   refine Wp.seq ?_
   obtain ⟨o1,ho1,h⟩:=Qbs h
   obtain ⟨c1,hc1,h⟩:=Qbs h
   obtain ⟨y1,hy1,h⟩:=Qbs h
   refine Wp.draw mixed 9 [some 11, some 12, some 13, some 14, some 15, some 16, some 17, some 18, some 19] [[], [], [1], [2], [3], [4], [], [5, 6], [0, 7]] [.val _, .val _, .val _, .val _, .val _, .val _, .val _, .val _, .val _] [false, false, false, false, false, false, false, false, false] (by kernel_rfl) rfl rfl rfl (fun ps1 => ⟨H1 (r_loadp ty43), H1 (r_loadp ty321), Hv fun L' hL => r_nck (look_ref (look_t rfl) ho1), H1 (r_fa fd337_0), Hv fun L' hL => r_loadM ((Lens.id T_trie_Trie).comp le_T_trie_Trie_bits) (r := c1.f_bits) ty3 (look_t rfl) (dmem (fun i e q => hL i e q rfl) (pmemK (Ls := Ls) (s := s1.2) (g := g1) 0 rfl hLc (rds337 hc1) rfl)) rfl rfl, H2 r_sub, Hm, H2 r_sub, Hcl en196 (C_value_Bit hy1), trivial⟩) fun ps1 => ?_
   refine Qnx ?_
   obtain ⟨m1,hm1,h⟩:=Qbs h
   refine Wp.condM (γ := Unit) (fun g2 => [(0, VP.eq u), (1, VP.ptr x1), (2, VP.ptr x2), (3, VP.ptr x3), (5, VP.of (s1.1)), (6, VP.of (m1)), (7, VP.of (x1)), (8, VP.of (s1.1)), (9, VP.of (decide (s1.1 < x1))), (19, VP.of (y1))]) (fun g2 => (Ls s1.2 g1)) (look_t rfl) (fun g2 => ?_) (fun hm hc => ?_) (fun hm hc => ?_)
   ·clear hm1
    refine To.next ?_
    refine Qsr ?_
    refine Qm ?_
    refine Qm ?_
    obtain ⟨y2,hy2,h⟩:=Qbs h
    refine Sq.yield (Lin := []) (Ls := Ls) (Lx := Lx) (step := step) (s := s1.2) (gg := g1) rfl hY  rfl (look_t rfl) hy2 rfl (fun s2 hr g3 => ?_) (fun q2 hr g3 => ?_)
    ·subst hr; simp only [Sum.elim_inl] at h
     refine Sq.eqL (L2 := (Ls s2 g3)) rfl ?_
     refine Q1 r_not ?_
     refine Qnx ?_
     refine Wp.condF (look_t rfl) (by first | rfl | (rw [hb]; rfl)) ?_
     refine Wp.skip ?_
     refine To.bnorm ?_
     refine To.next ?_
     refine Wp.reg ?_
     refine Q2 r_add ?_
     refine Qm ?_
     refine Sq.nil ?_
     obtain rfl:=some_in h
     exact Qrd g3 0
    ·subst hr; simp only [Sum.elim_inr] at h
     refine Sq.eqL (L2 := (Lx q2 g3)) rfl ?_
     refine Q1 r_not ?_
     refine Qnx ?_
     refine Wp.condT (look_t rfl) (by first | rfl | (rw [hb]; rfl)) ?_
     refine Wp.ret ?_
     refine To.bret ?_
     refine To.ret ?_
     obtain rfl:=some_in h
     exact Qlv g3 0
   ·have h := cond_t hc hm1
    refine Wp.reg ?_
    refine Qa ?_
    refine Sq.nil ?_
    obtain rfl:=some_in h
    exact Qmt 0 (hm ())
   ·have h := cond_f hc hm1
    refine Wp.skip ?_
    obtain rfl:=some_in h
    exact Qmt 0 (hm ())
  ·refine Wp.exit ?_
   refine To.exit ?_
   obtain rfl:=some_in h
   exact Qlv g1 0
 ·clear hl
  rcases e1 with e1 | e1
  ·simp only [Sum.elim_inl] at h
   refine To.bexit ?_
   refine To.endn ?_
   obtain rfl:=some_in h
   exact To.endO0 g1 (.refl _) rfl rfl
  ·simp only [Sum.elim_inr] at h
   refine To.bret ?_
   obtain rfl:=some_in h
   exact To.endO0 g1 (.refl _) rfl rfl
theorem C_own_Installed {x0 : T_api_Installed}  {r : T_api_Installed} (h : L_own_Installed x0 = some r) : Meets Tryz.prog 87 [VP.of (x0)] (VP.of (r)) := by
 unfold L_own_Installed at h
 refine Meets.of Tryz.func87 rfl Tryz.ntmps87 rfl fun W A => ?_
 refine Qsr ?_
 refine Qbx fun p1 => ?_
 refine Qal zr52 fun p2 => ?_
 refine Qnr ?_
 refine Q1 (r_fa fd52_0) ?_
 refine Qld 1 le_T_api_Installed_Entry ty50 ?_
 obtain ⟨y1,hy1,h⟩:=Qbs h
 refine Qcl en122 (C_own_Entry hy1) ?_
 refine Q1 (r_fa fd52_0) ?_
 refine Qst 1 le_T_api_Installed_Entry ty50 ?_
 refine Qnr ?_
 refine Ql0 1 ty52 ?_
 refine Qs0 0 ty52 ?_
 refine Qnx ?_
 refine Wp.ret ?_
 obtain rfl:=some_in h
 exact To.end1 rfl (Qrc 0 ty52)
theorem C_index_hashed_remove {hp : Pool Cell} {x0 : T_index_hashed} {x1 : T_api_Installed}  {r : (Pool Cell)} (h : L_index_hashed_remove hp x0 x1 = some r) : MeetsO Tryz.prog 230 [VP.of (x0), VP.of (x1)] ([] ++ Ents hp) (δ := Unit) (fun d => VP.tup []) (fun d => [] ++ Ents r) := by
 unfold L_index_hashed_remove at h
 refine MeetsO.of Tryz.func230 rfl Tryz.ntmps230 rfl fun W A => ?_
 refine Qsr ?_
 refine Qbx fun p1 => ?_
 refine Qbx fun p2 => ?_
 refine Qnx ?_
 obtain ⟨y1,hy1,h⟩:=Qbs h
 refine Wp.draw mixed 5 [some 4, some 5, some 6, some 7, some 8] [[], [0], [], [2], [3]] [.val _, .val _, .val _, .val _, .val _] [false, false, false, false, false] (by kernel_rfl) rfl rfl rfl (fun ps1 => ⟨H1 (r_fa fd166_0), Hld 1 le_T_index_hashed_x ty163, H1 (r_fa fd52_0), Hld 0 le_T_api_Installed_Entry ty50, Hcl en232 (C_index_point hy1), trivial⟩) fun ps1 => ?_
 obtain ⟨y2,hy2,h⟩:=Qbs h
 refine Sq.callP 2 0 rfl en234 (C_exact_Index_Remove hy2) rfl rfl ⟨look_t rfl, look_t rfl, trivial⟩ rfl fun q1 => ?_
 refine Sq.eqL (L2 := (⟨some p2, .var (x1 : T_api_Installed)⟩ :: ⟨some p1, .var (x0 : T_index_hashed)⟩ :: Ents y2.2)) rfl ?_
 refine Sq.nil ?_
 refine To.endn ?_
 obtain rfl:=some_in h
 exact To.endO0 () (.cons _ (.cons _ (.refl _))) rfl rfl
theorem Cc1_257h2__trie_Trie_nodes {hp : Pool Cell} {x0 : Ref} {x2 : List T_trie_Prefix} {pp2 : Nat} {key02_0 : Option Nat} {cap02_0 : Nat} {r : (List T_trie_Prefix)} (h : Lc1_257h2__trie_Trie_nodes hp x0 x2 = some r) : MeetsO Tryz.prog 256 [VP.of (x0), VP.of (⟨257, some [.pointer (some ⟨pp2, 0, none⟩)]⟩ : Raw)] ([⟨some pp2, .varX ([] : List T_trie_Prefix) [(0, slv key02_0 x2.length cap02_0)]⟩, ⟨key02_0, .row 347 (x2 : List T_trie_Prefix) cap02_0⟩] ++ Ents hp) (δ := (Option Nat × Nat)) (fun d => VP.tup []) (fun d => [⟨some pp2, .varX ([] : List T_trie_Prefix) [(0, slv d.1 (r).length d.2)]⟩, ⟨d.1, .row 347 (r : List T_trie_Prefix) d.2⟩] ++ Ents hp) := by
 unfold Lc1_257h2__trie_Trie_nodes at h
 refine MeetsO.of Tryz.func256 rfl Tryz.ntmps256 rfl fun W A => ?_
 refine Qsr ?_
 refine Qm ?_
 refine Qv (r_refnnil Tryz.underlying321 (look_t rfl)) ?_
 refine Qnx ?_
 obtain ⟨m1,hm1,h⟩:=Qbs h
 refine Wp.condM (γ := (Option Nat × Nat)) (fun g1 => [(0, VP.of (x0)), (1, VP.of (⟨257, some [.pointer (some ⟨pp2, 0, none⟩)]⟩ : Raw)), (5, VP.of (x0.isSome))]) (fun g1 => (⟨some pp2, .varX ([] : List T_trie_Prefix) [(0, slv g1.1 m1.length g1.2)]⟩ :: ⟨g1.1, .row 347 (m1 : List T_trie_Prefix) g1.2⟩ :: Ents hp)) (look_t rfl) (fun g1 => ?_) (fun hm hc => ?_) (fun hm hc => ?_)
 ·clear hm1
  refine To.endn ?_
  refine To.bring 1 rfl ?_
  refine To.bring 1 rfl ?_
  obtain rfl:=some_in h
  exact To.endO0 (g1.1, g1.2) (.cons_cons _ (.cons_cons _ (.refl _))) rfl rfl
 ·have h := cond_t hc hm1
  refine Wp.reg ?_
  refine Qm ?_
  refine Qm ?_
  obtain ⟨o1,ho1,h⟩:=Qbs h
  refine Qv (r_nck (look_ref (look_t rfl) ho1)) ?_
  refine Q1 (r_fa fd337_1) ?_
  obtain ⟨c1,hc1,h⟩:=Qbs h
  refine Qv (r_loadM ((Lens.id T_trie_Trie).comp le_T_trie_Trie_root) (r := c1.f_root) ty331 (look_t rfl) (pmem (n := 2) rfl (rds337 hc1) rfl) rfl rfl) ?_
  refine Qbd bu43 zr43 (default : T_api_Value) .nil ?_
  refine Qm ?_
  obtain ⟨y1,hy1,h⟩:=Qbs h
  refine Sq.vP (OpS.callP 2 2 rfl en258 (Cc4_257h5__trie_Trie_walk hy1) rfl rfl ⟨look_t rfl, look_t rfl, look_t rfl, look_int 0, look_t rfl, trivial⟩) rfl rfl rfl fun q1 => ?_
  refine Sq.eqL (L2 := (⟨some pp2, .varX ([] : List T_trie_Prefix) [(0, slv q1.1 y1.length q1.2)]⟩ :: ⟨q1.1, .row 347 (y1 : List T_trie_Prefix) q1.2⟩ :: Ents hp)) rfl ?_
  refine Sq.nil ?_
  obtain rfl:=some_in h
  exact Qmt 0 (hm (q1.1, q1.2))
 ·have h := cond_f hc hm1
  refine Wp.skip ?_
  obtain rfl:=some_in h
  exact Qmt 0 (hm (key02_0, cap02_0))
end Go.Proofs.YtmnggbjcnoffeaaGreat

namespace Go.Proofs.YtmnggbjcnoffeaaGreat
open Go Gv
set_option linter.unusedVariables false
set_option linter.unusedSimpArgs false
set_option maxRecDepth 100000
set_option maxHeartbeats 2000000
theorem C_trie_Trie_prefix {hp : Pool Cell} {x0 : Ref} {x1 : T_api_Value} {x2 : Int}  {r : Bool} (h : L_trie_Trie_prefix hp x0 x1 x2 = some r) : MeetsO Tryz.prog 251 [VP.of (x0), VP.of (x1), VP.of (x2)] ([] ++ Ents hp) (δ := Unit) (fun _ => VP.of (r)) (fun _ => [] ++ Ents hp) := by
 unfold L_trie_Trie_prefix at h
 refine MeetsO.of Tryz.func251 rfl Tryz.ntmps251 rfl fun W A => ?_
 refine Qsr ?_
 refine Qbx fun p1 => ?_
 refine Qa ?_
 refine Qns ?_
 obtain ⟨o1,ho1,h⟩:=Qbs h
 obtain ⟨c1,hc1,h⟩:=Qbs h
 obtain ⟨o2,ho2,h⟩:=Qbs h
 obtain ⟨c2,hc2,h⟩:=Qbs h
 obtain ⟨y1,hy1,h⟩:=Qbs h
 obtain ⟨y2,hy2,h⟩:=Qbs h
 obtain ⟨z1,hz1,h⟩:=Qbs h
 refine Wp.draw mixed 26 ((some 7) :: (some 8) :: (some 9) :: (some 10) :: (some 11) :: (some 12) :: (some 13) :: (some 14) :: (some 15) :: (some 16) :: (some 17) :: (some 18) :: (some 19) :: (some 20) :: (some 21) :: (some 22) :: (some 23) :: (some 24) :: (some 25) :: (some 26) :: (some 27) :: (some 28) :: (some 29) :: (some 30) :: (some 31) :: (some 32) :: []) ([] :: [0] :: [1] :: [2] :: [2, 3] :: [2, 4] :: [5] :: [6] :: [6] :: [6, 8] :: [6, 9] :: [6, 10] :: [6, 7, 11] :: [6, 12] :: [13] :: [14] :: [14] :: [14, 16] :: [14, 17] :: [14, 18] :: [14] :: [14, 19, 20] :: [14, 15, 21] :: [14] :: [14, 22, 23] :: [14, 24] :: []) (.val _ :: .val _ :: .val _ :: .val _ :: .val _ :: .val _ :: .val _ :: .val _ :: .val _ :: .val _ :: .val _ :: .val _ :: .val _ :: .val _ :: .val _ :: .val _ :: .val _ :: .val _ :: .val _ :: .val _ :: .val _ :: .val _ :: .val _ :: .val _ :: .val _ :: .val _ :: []) (false :: false :: false :: false :: false :: false :: false :: false :: false :: false :: false :: false :: false :: false :: false :: false :: false :: false :: false :: false :: false :: false :: false :: false :: false :: false :: []) (by kernel_rfl) rfl rfl rfl (fun ps1 => ⟨Hm, Hv fun L' hL => r_refnnil Tryz.underlying321 (look_t rfl), Hm, Hg fun L' hL => fun hb => r_move (look_t rfl), Hg fun L' hL => fun hb => r_geq (look_tc rfl hb) (look_int 0), Hv fun L' hL => r_and (look_t rfl) (look_t rfl) (fun h => h), Hm, Hg fun L' hL => fun hb => r_move (look_t rfl), Hg fun L' hL => fun hb => r_move (look_t rfl), Hg fun L' hL => fun hb => r_nck (look_ref (look_tc rfl hb) (condM_some ho1 hb)), Hg fun L' hL => fun hb => r_fa fd337_0 (look_tc rfl hb), Hg fun L' hL => fun hb => r_loadM ((Lens.id T_trie_Trie).comp le_T_trie_Trie_bits) (r := c1.f_bits) ty3 (look_tc rfl hb) (dmem (fun i e q => hL i e q rfl) (pmem (n := 1) rfl (rds337 (condM_some hc1 hb)) rfl)) rfl rfl, Hg fun L' hL => fun hb => r_leq (look_tc rfl hb) (look_tc rfl hb), Hv fun L' hL => r_and (look_t rfl) (look_t rfl) (fun h => h), Hm, Hg fun L' hL => fun hb => r_load (i := 0) (Lens.id T_api_Value) (r := x1) ty43 (look_t rfl) (hL _ _ rfl rfl) rfl rfl, Hg fun L' hL => fun hb => r_move (look_t rfl), Hg fun L' hL => fun hb => r_nck (look_ref (look_tc rfl hb) (condM_some ho2 hb)), Hg fun L' hL => fun hb => r_fa fd337_0 (look_tc rfl hb), Hg fun L' hL => fun hb => r_loadM ((Lens.id T_trie_Trie).comp le_T_trie_Trie_bits) (r := c2.f_bits) ty3 (look_tc rfl hb) (dmem (fun i e q => hL i e q rfl) (pmem (n := 1) rfl (rds337 (condM_some hc2 hb)) rfl)) rfl rfl, Hg fun L' hL => fun hb => r_move (look_t rfl), Hg fun L' hL => fun hb => r_call en189 (C_value_Leading (condM_some hy1 hb)) ⟨look_tc rfl hb, look_tc rfl hb, trivial⟩, Hg fun L' hL => fun hb => r_call en148 (C_value_And (condM_some hy2 hb)) ⟨look_tc rfl hb, look_tc rfl hb, trivial⟩, Hg fun L' hL => fun hb => r_load (i := 0) (Lens.id T_api_Value) (r := x1) ty43 (look_t rfl) (hL _ _ rfl rfl) rfl rfl, Hg fun L' hL => fun hb => r_eqA eqv43 rfl eqg43 rfl (look_tc rfl hb) (look_tc rfl hb), Hn hz1 fun L' hL => r_and (look_t rfl) (look_t rfl) (fun h => h), trivial⟩) fun ps1 => ?_
 refine Qa ?_
 refine Qnx ?_
 refine Wp.ret ?_
 obtain rfl:=some_in h
 exact To.endO1 () (.cons _ (.refl _)) rfl rfl (rvo_t rfl)
theorem Cl0_own_List {x0 : List T_api_Installed} {key00 : Option Nat} {cap00 : Nat} {r : (List T_api_Installed)} (h : Ll0_own_List x0 = some r) : MeetsO Tryz.prog 269 [VP.eq (slv key00 x0.length cap00)] [⟨key00, .row 52 (x0 : List T_api_Installed) cap00⟩] (δ := Unit) (fun d => VP.of (r)) (fun d => [⟨key00, .row 52 (x0 : List T_api_Installed) cap00⟩]) := by
 unfold Ll0_own_List at h
 refine MeetsO.of Tryz.func269 rfl Tryz.ntmps269 rfl fun W A => ?_
 refine Qsr ?_
 refine Qv (r_asg (look_nil (α := T_api_Installed))) ?_
 refine Qnr ?_
 refine Sq.own (α := T_api_Installed) 52 ?_
 refine Qv (r_asg look_own) ?_
 refine Qns ?_
 refine Qsr ?_
 refine Qm ?_
 refine Qv (r_lenO (i := 1) Tryz.underlying38 (look_t rfl) rfl rfl) ?_
 refine Qm ?_
 refine Qnx ?_
 refine Wp.block ?_
 obtain ⟨e1,hl,h⟩:=Qbs h
 refine Qlp (γ:=(Option Nat × Nat)) (δ:=(Option Nat × Nat)) hl [0, 2, 6, 7] (fun s1 g1 => [(3, VP.eq (slv g1.1 s1.2.length g1.2)), (8, VP.of (s1.1))]) (fun s1 g1 => [(0, ⟨g1.1, .row 52 (s1.2 : List T_api_Installed) g1.2⟩)]) (fun q1 => Exit.exit 0) (fun q1 g1 => [(3, VP.eq (slv g1.1 q1.2.2.length g1.2)), (8, VP.of (q1.1)), (9, VP.of (q1.2.1))]) (fun q1 g1 => [(0, ⟨g1.1, .row 52 (q1.2.2 : List T_api_Installed) g1.2⟩)]) (none, 0) (fun s1 r h g1 => ?_) fun g1 => ?_
 ·clear hl
  refine Qsr ?_
  refine Q2 r_lss ?_
  refine Qns ?_
  refine Qcd h (fun h=>?_) fun h=>?_
  ·refine Qkn ?_
   refine Wp.seq ?_
   refine Wp.block ?_
   refine Qsr ?_
   obtain ⟨k1,hk1,h⟩:=Qbs h
   refine Qv (r_iaO (i := 1) (k := k1) (xs := (x0 : List T_api_Installed)) Tryz.underlying38 ty52 (look_t rfl) (look_t rfl) rfl (idx_some hk1)) ?_
   refine Qv (r_loadR (i := 1) (k := k1) (Lens.id T_api_Installed) (r := (lget x0 k1)) ty52 (look_t rfl) rfl (idx_some hk1).1 rfl rfl) ?_
   refine Qal zr52 fun p1 => ?_
   refine Qs0 0 ty52 ?_
   refine Qnx ?_
   refine Wp.reg ?_
   refine Qm ?_
   refine Ql0 0 ty52 ?_
   obtain ⟨y1,hy1,h⟩:=Qbs h
   refine Qcl en87 (C_own_Installed hy1) ?_
   refine Qbl [y1] Tryz.underlying38 ty52 zr52 ?_
   obtain ⟨y2,hy2,h⟩:=Qbs h
   refine Qap 1 Tryz.underlying38 ty52 zr52 hy2 fun key1 cap1 => ?_
   refine Qa ?_
   refine Sq.nil ?_
   refine To.bnorm ?_
   refine To.next ?_
   refine Wp.reg ?_
   refine Q2 r_add ?_
   refine Qm ?_
   refine Sq.nil ?_
   obtain rfl:=some_in h
   exact Qrd (key1, cap1) 1
  ·refine Wp.exit ?_
   refine To.exit ?_
   obtain rfl:=some_in h
   exact Qlv (g1.1, g1.2) 0
 ·clear hl
  refine To.bexit ?_
  refine To.next ?_
  refine Qsr ?_
  refine Qm ?_
  refine Qa ?_
  refine Qnx ?_
  refine Wp.ret ?_
  refine To.freezeL (α := T_api_Installed) 0 [2, 3, 18] ⟨rfl, rfl, rfl, trivial⟩ rfl ?_
  refine To.bring 1 rfl ?_
  obtain rfl:=some_in h
  exact Qo1 ()
theorem C_index_Index_entry {hp : Pool Cell} {x0 : Ref} {x1 : Int} {x2 : Bool}  {r : T_api_Installed × Bool} (h : L_index_Index_entry hp x0 x1 x2 = some r) : MeetsO Tryz.prog 72 [VP.of (x0), VP.of (x1), VP.of (x2)] ([] ++ Ents hp) (δ := Unit) (fun _ => VP.tup [VP.of (r.1), VP.of (r.2)]) (fun _ => [] ++ Ents hp) := by
 unfold L_index_Index_entry at h
 refine MeetsO.of Tryz.func72 rfl Tryz.ntmps72 rfl fun W A => ?_
 refine Qsr ?_
 refine Qal zr52 fun p1 => ?_
 refine Qa ?_
 refine Qns ?_
 refine Qsr ?_
 refine Qm ?_
 refine Q1 r_not ?_
 refine Qnx ?_
 refine Qcd h (fun h=>?_) fun h=>?_
 ·refine Qsr ?_
  refine Qbd bu52 zr52 (default : T_api_Installed) .nil ?_
  refine Qs0 0 ty52 ?_
  refine Qa ?_
  refine Qnx ?_
  refine Wp.ret ?_
  refine To.ret ?_
  obtain rfl:=some_in h
  exact To.endO2 () (.cons _ (.refl _)) rfl rfl (rvo_c (i := 0) ty52 rfl rfl) (rvo_t rfl)
 ·refine Qkn ?_
  refine Qsr ?_
  refine Qm ?_
  obtain ⟨o1,ho1,h⟩:=Qbs h
  refine Qv (r_nck (look_ref (look_t rfl) ho1)) ?_
  refine Q1 (r_fa fd135_3) ?_
  obtain ⟨c1,hc1,h⟩:=Qbs h
  refine Qv (r_loadM ((Lens.id T_index_Index).comp le_T_index_Index_entries) (r := c1.f_entries) ty133 (look_t rfl) (pmem (n := 1) rfl (rds135 hc1) rfl) rfl rfl) ?_
  refine Qm ?_
  obtain ⟨o2,ho2,h⟩:=Qbs h
  obtain ⟨c2,hc2,h⟩:=Qbs h
  obtain ⟨z1,hz1,h⟩:=Qbs h
  refine Qv (r_lookM (r := z1) Tryz.underlying133 kt3 zr52 (look_mref (look_t rfl) ho2) (look_t rfl) (pmem (n := 1) rfl (rds133 hc2) rfl) (some_in hz1)) ?_
  obtain ⟨y1,hy1,h⟩:=Qbs h
  refine Qcl en87 (C_own_Installed hy1) ?_
  refine Qs0 0 ty52 ?_
  refine Qa ?_
  refine Qnx ?_
  refine Wp.ret ?_
  obtain rfl:=some_in h
  exact To.endO2 () (.cons _ (.refl _)) rfl rfl (rvo_c (i := 0) ty52 rfl rfl) (rvo_t rfl)
theorem C_trie_Trie_All {hp : Pool Cell} {x0 : Ref}  {r : (List T_trie_Prefix)} (h : L_trie_Trie_All hp x0 = some r) : MeetsO Tryz.prog 253 [VP.of (x0)] ([] ++ Ents hp) (δ := Unit) (fun _ => VP.of (r)) (fun _ => [] ++ Ents hp) := by
 unfold L_trie_Trie_All at h
 refine MeetsO.of Tryz.func253 rfl Tryz.ntmps253 rfl fun W A => ?_
 refine Qsr ?_
 refine Qv (r_asg (look_nil (α := T_trie_Prefix))) ?_
 refine Qnr ?_
 refine Sq.allocX (z := (default : List T_trie_Prefix)) [0] zh342_0 zr342 rfl fun p1 => ?_
 refine Sq.own (α := T_trie_Prefix) 347 ?_
 refine Qnr ?_
 refine Qm ?_
 refine Qv (r_mkR (f := 257) (us := [.pointer (some ⟨p1, 0, none⟩)]) ⟨look_t rfl, trivial⟩) ?_
 refine Sq.clr (γ := T_trie_Prefix) (b' := ([] : List T_trie_Prefix)) (Lens.id (List T_trie_Prefix)) 1 0 rfl rfl rfl ?_
 refine Sq.bring 0 rfl ?_
 refine Sq.bring 1 rfl ?_
 obtain ⟨y1,hy1,h⟩:=Qbs h
 refine Sq.vP (OpS.callP 2 2 rfl en256 (Cc1_257h2__trie_Trie_nodes (key02_0 := none) (cap02_0 := 0) hy1) rfl rfl ⟨look_t rfl, look_t rfl, trivial⟩) rfl rfl rfl fun q1 => ?_
 refine Sq.eqL (L2 := (⟨some p1, .varX ([] : List T_trie_Prefix) [(0, slv q1.1 y1.length q1.2)]⟩ :: ⟨q1.1, .row 347 (y1 : List T_trie_Prefix) q1.2⟩ :: Ents hp)) rfl ?_
 refine Qnr ?_
 refine Qv (r_loadH (i := 0) (q := 0) (β := List T_trie_Prefix) (γ := T_trie_Prefix) ty342 (look_t rfl) rfl rfl) ?_
 refine Qa ?_
 refine Qnx ?_
 refine Wp.ret ?_
 refine To.thawS (β := List T_trie_Prefix) (γ := T_trie_Prefix) (b' := (y1 : List T_trie_Prefix)) (Lens.id (List T_trie_Prefix)) 0 1 0 2 rfl rfl rfl rfl rfl rfl rfl ?_
 refine To.fromX 0 rfl ?_
 obtain rfl:=some_in h
 exact To.endO1 () (.cons _ (.cons _ (.refl _))) rfl rfl (rvo_t rfl)
theorem C_index_sorted_remove {hp : Pool Cell} {x0 : T_index_sorted} {x1 : T_api_Installed}  {Q : (Pool Cell) → Prop} (h : L_index_sorted_remove hp x0 x1 Q) : MeetsO Tryz.prog 263 [VP.of (x0), VP.of (x1)] ([] ++ Ents hp) (δ := {r : (Pool Cell) // Q r} × Unit) (fun d => VP.tup []) (fun d => [] ++ Ents d.1.1) := by
 unfold L_index_sorted_remove at h
 refine MeetsO.of Tryz.func263 rfl Tryz.ntmps263 rfl fun W A => ?_
 refine Qsr ?_
 refine Qbx fun p1 => ?_
 refine Qbx fun p2 => ?_
 refine Qnx ?_
 refine Wp.reg ?_
 refine Q1 (r_fa fd173_0) ?_
 refine Qld 1 le_T_index_sorted_l ty170 ?_
 refine Q1 (r_fa fd52_1) ?_
 refine Qld 0 le_T_api_Installed_Number ty3 ?_
 obtain ⟨o1, ho1, h⟩ := Wm.of_bind h
 obtain ⟨c1, hc1, h⟩ := Wm.of_bind h
 obtain ⟨y1, hy1, h⟩ := Wm.of_bind h
 refine Sq.vP (OpS.obj 2 (fun q : Option Nat × Nat => Cell.c228 y1.2 q.1 q.2) rfl (rds228 hc1) en268 (Ch0_1_ordered_List_Remove hy1) rfl (fun _ => rfl) ⟨look_ref (look_t rfl) ho1, look_t rfl, trivial⟩) rfl rfl rfl fun q1 => ?_
 replace h := Wm.any_bind h q1
 obtain ⟨hp1, hhp1, h⟩ := Wm.of_bind h
 refine Sq.eqL (L2 := (⟨some p2, .var (x1 : T_api_Installed)⟩ :: ⟨some p1, .var (x0 : T_index_sorted)⟩ :: Ents hp1)) (by rw [← some_in hhp1]; rfl) ?_
 refine Sq.nil ?_
 refine To.endn ?_
 exact To.endO0 (⟨⟨hp1, h⟩, ()⟩ : {r // _} × _) (.cons _ (.cons _ (.refl _))) rfl rfl
end Go.Proofs.YtmnggbjcnoffeaaGreat

namespace Go.Proofs.YtmnggbjcnoffeaaGreat
open Go Gv
set_option linter.unusedVariables false
set_option linter.unusedSimpArgs false
set_option maxRecDepth 100000
set_option maxHeartbeats 2000000
theorem C_trie_Trie_Longest {hp : Pool Cell} {x0 : Ref} {x1 : T_api_Value}  {r : Int × Int × Bool} (h : L_trie_Trie_Longest hp x0 x1 = some r) : MeetsO Tryz.prog 242 [VP.of (x0), VP.of (x1)] ([] ++ Ents hp) (δ := Unit) (fun _ => VP.tup [VP.of (r.1), VP.of (r.2.1), VP.of (r.2.2)]) (fun _ => [] ++ Ents hp) := by
 unfold L_trie_Trie_Longest at h
 refine MeetsO.ofM Tryz.func242 rfl Tryz.ntmps242 rfl fun W A => ?_
 refine Qsr ?_
 refine Qbx fun p1 => ?_
 refine Qa ?_
 refine Qa ?_
 refine Qa ?_
 refine Qns ?_
 refine Wp.seq ?_
 obtain ⟨o1,ho1,h⟩:=Qbs h
 obtain ⟨c1,hc1,h⟩:=Qbs h
 obtain ⟨y1,hy1,h⟩:=Qbs h
 refine Wp.draw mixed 11 [some 14, some 15, some 16, some 17, some 18, some 19, some 20, some 21, some 22, some 23, some 24] [[], [0], [1], [2], [2], [2, 4], [2, 5], [2, 6], [2, 3, 7], [2, 8], [2, 9]] [.val _, .val _, .val _, .val _, .val _, .val _, .val _, .val _, .val _, .val _, .val _] [false, false, false, false, false, false, false, false, false, false, false] (by kernel_rfl) rfl rfl rfl (fun ps1 => ⟨Hm, Hv fun L' hL => r_refnil Tryz.underlying321 (look_t rfl), Hm, Hg fun L' hL => fun hb => r_load (i := 0) (Lens.id T_api_Value) (r := x1) ty43 (look_t rfl) (hL _ _ rfl rfl) rfl rfl, Hg fun L' hL => fun hb => r_move (look_t rfl), Hg fun L' hL => fun hb => r_nck (look_ref (look_tc rfl hb) (condM_some ho1 hb)), Hg fun L' hL => fun hb => r_fa fd337_0 (look_tc rfl hb), Hg fun L' hL => fun hb => r_loadM ((Lens.id T_trie_Trie).comp le_T_trie_Trie_bits) (r := c1.f_bits) ty3 (look_tc rfl hb) (dmem (fun i e q => hL i e q rfl) (pmem (n := 1) rfl (rds337 (condM_some hc1 hb)) rfl)) rfl rfl, Hg fun L' hL => fun hb => r_call en248 (C_value_Fits (condM_some hy1 hb)) ⟨look_tc rfl hb, look_tc rfl hb, trivial⟩, Hg fun L' hL => fun hb => r_not (look_tc rfl hb), Hv fun L' hL => r_or (look_t rfl) (look_t rfl) (fun h => h), trivial⟩) fun ps1 => ?_
 refine Qnx ?_
 refine Qcd h (fun h=>?_) fun h=>?_
 ·refine Qsr ?_
  refine Qa ?_
  refine Qa ?_
  refine Qa ?_
  refine Qnx ?_
  refine Wp.ret ?_
  refine To.ret ?_
  obtain rfl:=some_in h
  refine To.endM ?_
  exact To.endO3 () (.cons _ (.refl _)) rfl rfl (rvo_t rfl) (rvo_t rfl) (rvo_t rfl)
 ·refine Qkn ?_
  refine Qsr ?_
  refine Qal zr3 fun p2 => ?_
  refine Qal zr3 fun p3 => ?_
  refine Qal zr4 fun p4 => ?_
  refine Qs0 2 ty3 ?_
  refine Qs0 1 ty3 ?_
  refine Qs0 0 ty4 ?_
  refine Qnr ?_
  refine Qm ?_
  obtain ⟨o2,ho2,h⟩:=Qbs h
  refine Qv (r_nck (look_ref (look_t rfl) ho2)) ?_
  refine Q1 (r_fa fd337_1) ?_
  obtain ⟨c2,hc2,h⟩:=Qbs h
  refine Qv (r_loadM ((Lens.id T_trie_Trie).comp le_T_trie_Trie_root) (r := c2.f_root) ty331 (look_t rfl) (pmem (n := 4) rfl (rds337 hc2) rfl) rfl rfl) ?_
  refine Qal zr331 fun p5 => ?_
  refine Qal zr3 fun p6 => ?_
  refine Qs0 1 ty331 ?_
  refine Qs0 0 ty3 ?_
  refine Qnr ?_
  refine Qv (r_mkR (f := 249) (us := [.pointer (some ⟨p5, 0, none⟩), .pointer (some ⟨p6, 0, none⟩), .pointer (some ⟨p2, 0, none⟩), .pointer (some ⟨p3, 0, none⟩), .pointer (some ⟨p4, 0, none⟩)]) ⟨look_t rfl, look_t rfl, look_t rfl, look_t rfl, look_t rfl, trivial⟩) ?_
  refine Qal zr1 fun p7 => ?_
  refine Qs0 0 ty1 ?_
  refine Qnr ?_
  refine Ql0 0 ty1 ?_
  refine Sq.bring 3 rfl ?_
  refine Sq.bring 4 rfl ?_
  refine Sq.bring 5 rfl ?_
  refine Sq.bring 4 rfl ?_
  refine Sq.bring 5 rfl ?_
  obtain ⟨y2,hy2,h⟩:=Qbs h
  refine Sq.vP (OpS.cloP (τs := []) 7 5 rfl en249 (look_clo (look_t rfl)) (C_trie_Trie_Longest_fn1 hy2) rfl rfl trivial) rfl rfl rfl fun q1 => ?_
  refine Sq.eqL (L2 := (⟨some p5, .var (c2.f_root : Ref)⟩ :: ⟨some p6, .var (0 : Int)⟩ :: ⟨some p2, .var (y2.1 : Int)⟩ :: ⟨some p3, .var (y2.2.1 : Int)⟩ :: ⟨some p4, .var (y2.2.2 : Bool)⟩ :: ⟨some p7, .var ((⟨249, some [.pointer (some ⟨p5, 0, none⟩), .pointer (some ⟨p6, 0, none⟩), .pointer (some ⟨p2, 0, none⟩), .pointer (some ⟨p3, 0, none⟩), .pointer (some ⟨p4, 0, none⟩)]⟩ : Raw) : Raw)⟩ :: ⟨some p1, .var (x1 : T_api_Value)⟩ :: Ents hp)) rfl ?_
  refine Qns ?_
  refine Wp.seq ?_
  obtain ⟨y3,hy3,h⟩:=Qbs h
  refine Wp.draw mixed 7 [some 32, some 33, some 34, some 35, some 36, some 37, some 38] [[], [], [], [2], [3], [4], [0, 1, 5]] [.val _, .val _, .val _, .val _, .val _, .val _, .val _] [false, false, false, false, false, false, false] (by kernel_rfl) rfl rfl rfl (fun ps2 => ⟨Hm, Hl0 6 ty43, Hm, Hv fun L' hL => r_nck (look_ref (look_t rfl) ho2), H1 (r_fa fd337_0), Hv fun L' hL => r_loadM ((Lens.id T_trie_Trie).comp le_T_trie_Trie_bits) (r := c2.f_bits) ty3 (look_t rfl) (dmem (fun i e q => hL i e q rfl) (pmem (n := 7) rfl (rds337 hc2) rfl)) rfl rfl, Hcl en250 (C_trie_Trie_path hy3), trivial⟩) fun ps2 => ?_
  refine Qnx ?_
  refine Wp.block ?_
  obtain ⟨e1,hl,h⟩:=Qbs h
  refine range_wpK (hp := hp) (γ := Unit) (g0 := ()) (Ls := fun s1 g1 => (⟨some p5, .var (s1.1 : Ref)⟩ :: ⟨some p6, .var (s1.2.1 : Int)⟩ :: ⟨some p2, .var (s1.2.2.1 : Int)⟩ :: ⟨some p3, .var (s1.2.2.2.1 : Int)⟩ :: ⟨some p4, .var (s1.2.2.2.2 : Bool)⟩ :: ⟨some p7, .var ((⟨249, some [.pointer (some ⟨p5, 0, none⟩), .pointer (some ⟨p6, 0, none⟩), .pointer (some ⟨p2, 0, none⟩), .pointer (some ⟨p3, 0, none⟩), .pointer (some ⟨p4, 0, none⟩)]⟩ : Raw) : Raw)⟩ :: ⟨some p1, .var (x1 : T_api_Value)⟩ :: Ents hp)) (Lx := fun q2 g1 => (⟨some p5, .var (q2.1 : Ref)⟩ :: ⟨some p6, .var (q2.2.1 : Int)⟩ :: ⟨some p2, .var (q2.2.2.1 : Int)⟩ :: ⟨some p3, .var (q2.2.2.2.1 : Int)⟩ :: ⟨some p4, .var (q2.2.2.2.2 : Bool)⟩ :: ⟨some p7, .var ((⟨249, some [.pointer (some ⟨p5, 0, none⟩), .pointer (some ⟨p6, 0, none⟩), .pointer (some ⟨p2, 0, none⟩), .pointer (some ⟨p3, 0, none⟩), .pointer (some ⟨p4, 0, none⟩)]⟩ : Raw) : Raw)⟩ :: ⟨some p1, .var (x1 : T_api_Value)⟩ :: Ents hp)) (fun s1 g1 => [⟨some p5, .var (s1.1 : Ref)⟩, ⟨some p6, .var (s1.2.1 : Int)⟩, ⟨some p2, .var (s1.2.2.1 : Int)⟩, ⟨some p3, .var (s1.2.2.2.1 : Int)⟩, ⟨some p4, .var (s1.2.2.2.2 : Bool)⟩, ⟨some p7, .var ((⟨249, some [.pointer (some ⟨p5, 0, none⟩), .pointer (some ⟨p6, 0, none⟩), .pointer (some ⟨p2, 0, none⟩), .pointer (some ⟨p3, 0, none⟩), .pointer (some ⟨p4, 0, none⟩)]⟩ : Raw) : Raw)⟩, ⟨some p1, .var (x1 : T_api_Value)⟩]) (fun q2 => .exit 0) rfl en255 rfl Ck_trie_Trie_path_fn1 hl (fun _ _ => rfl) rfl rfl (fun vx1 s1 r h g1 W0' X' A0' l D rec hrs => ?_) (fun s1 hr g1 D => ?_) (fun q2 hr g1 D => ?_)
  ·clear hl
   refine Wp.reg ?_
   refine Qa ?_
   refine Sq.nil ?_
   refine To.begin 0 rfl hrs ?_
   refine Wp.block ?_
   refine Wp.seq ?_
   refine Qsr ?_
   refine Ql0 2 ty331 ?_
   refine Qv (r_refnil Tryz.underlying331 (look_t rfl)) ?_
   refine Qnx ?_
   refine Qcd h (fun h=>?_) fun h=>?_
   ·refine Wp.exit ?_
    refine To.exit ?_
    refine To.bother rfl ?_
    obtain rfl:=some_in h
    exact To.rleave () 0 rfl rfl rfl
   ·refine Qkn ?_
    refine Wp.seq ?_
    obtain ⟨o3,ho3,h⟩:=Qbs h
    obtain ⟨k1,hk1,h⟩:=Qbs h
    obtain ⟨c3,hc3,h⟩:=Qbs h
    refine Qwl [0, 1, 3, 4, 5, 6, 7, 8, 9, 10, 11, 12, 13, 14, 15, 16, 17, 18, 19, 20, 21, 22, 23, 24, 25, 26, 27, 28, 29, 30, 31, 32, 33, 34, 35, 36, 37, 38, 39, 40, 41] ?_
    refine Wp.drawQ 9 mixed (Hp 42 [] (2 :: []) _ :: Hp 43 [] [] _ :: Hp 44 (0 :: []) [] _ :: Hp 45 (2 :: []) [] _ :: Hp 46 (1 :: 3 :: []) [] _ :: ⟨some 47, (4 :: []), [], [], fun _ => VP.of (vget c3.f_children k1), fun _ _ => ⟨none, .dead⟩⟩ :: Hp 48 [] (3 :: []) _ :: Hp 49 (6 :: []) [] _ :: ⟨none, (0 :: 5 :: []), (2 :: []), (2 :: []), fun _ => VP.any, fun hd _ => ⟨some p5, .var (vget c3.f_children k1 : Ref)⟩⟩ :: ⟨none, (6 :: 7 :: []), (3 :: []), (3 :: []), fun _ => VP.any, fun hd _ => ⟨some p6, .var (w64 (s1.2.1 + 1) : Int)⟩⟩ :: []) _ (0 :: 1 :: 3 :: 4 :: 5 :: 6 :: 7 :: 8 :: 9 :: 10 :: 11 :: 12 :: 13 :: 14 :: 15 :: 16 :: 17 :: 18 :: 19 :: 20 :: 21 :: 22 :: 23 :: 24 :: 25 :: 26 :: 27 :: 28 :: 29 :: 30 :: 31 :: 32 :: 33 :: 34 :: 35 :: 36 :: 37 :: 38 :: 39 :: 40 :: 41 :: []) rfl rfl (by kernel_rfl) (by kernel_rfl) ⟨HeadD.q (Dl0 2 ty331), HeadD.q (Dm), HeadD.q (Dv fun hd E' L' hE hL => r_nck (look_ref (look_t (hE _ _ rfl)) ho3)), HeadD.q (D1 (r_fa fd335_0)), HeadD.q (Dv fun hd E' L' hE hL => r_ia (k := k1) ar333 (look_t (hE _ _ rfl)) (look_t (hE _ _ rfl)) (idx_some hk1)), ?_, HeadD.q (Dl0 3 ty3), HeadD.q (D2 r_add), ?_, ?_, trivial⟩ fun hd1 => ?_
    ·intro hd E' L' hE hL hP
     refine Qv (r_loadM (((Lens.id T_trie_node).comp le_T_trie_node_children).comp (Lens.idx (α := Ref) 2 k1 (idx_some hk1).1)) (r := vget c3.f_children k1) ty331 (look_t (hE _ _ rfl)) (pmem (n := 9) (hP.trans rfl) (rds335 hc3) rfl) rfl rfl) ?_
     refine Sq.nil ?_
     exact To.fin (gm []) rfl rfl
    ·intro hd E' L' hE hL hP
     refine Sq.store (i := 2) (Lens.id Ref) (v := (vget c3.f_children k1 : Ref)) (b' := (vget c3.f_children k1 : Ref)) ty331 (look_t (hE _ _ rfl)) (look_t (hE _ _ rfl)) (hL 2 _ rfl rfl) rfl rfl ?_
     refine Sq.nil ?_
     exact To.fin (gm []) rfl rfl
    ·intro hd E' L' hE hL hP
     refine Sq.store (i := 3) (Lens.id Int) (v := (w64 (s1.2.1 + 1) : Int)) (b' := (w64 (s1.2.1 + 1) : Int)) ty3 (look_t (hE _ _ rfl)) (look_t (hE _ _ rfl)) (hL 3 _ rfl rfl) rfl rfl ?_
     refine Sq.nil ?_
     exact To.fin (gm []) rfl rfl
    refine To.eqL (L2 := (⟨some l, .is (.loop { rec with state := .busy })⟩ :: ⟨some D, .dfr⟩ :: ⟨some p5, .var (vget c3.f_children k1 : Ref)⟩ :: ⟨some p6, .var (w64 (s1.2.1 + 1) : Int)⟩ :: ⟨some p2, .var (s1.2.2.1 : Int)⟩ :: ⟨some p3, .var (s1.2.2.2.1 : Int)⟩ :: ⟨some p4, .var (s1.2.2.2.2 : Bool)⟩ :: ⟨some p7, .var ((⟨249, some [.pointer (some ⟨p5, 0, none⟩), .pointer (some ⟨p6, 0, none⟩), .pointer (some ⟨p2, 0, none⟩), .pointer (some ⟨p3, 0, none⟩), .pointer (some ⟨p4, 0, none⟩)]⟩ : Raw) : Raw)⟩ :: ⟨some p1, .var (x1 : T_api_Value)⟩ :: Ents hp)) rfl ?_
    refine Qtl [0, 1, 3, 4, 5, 6, 7, 8, 9, 10, 11, 12, 13, 14, 15, 16, 17, 18, 19, 20, 21, 22, 23, 24, 25, 26, 27, 28, 29, 30, 31, 32, 33, 34, 35, 36, 37, 38, 39, 40, 41, 42, 43, 44, 45, 46, 47, 48, 49] ?_
    refine To.next ?_
    refine Wp.reg ?_
    refine Ql0 7 ty1 ?_
    refine Sq.bring 6 rfl ?_
    refine Sq.bring 6 rfl ?_
    refine Sq.bring 6 rfl ?_
    refine Sq.bring 6 rfl ?_
    refine Sq.bring 6 rfl ?_
    obtain ⟨y4,hy4,h⟩:=Qbs h
    refine Sq.vP (OpS.cloP (τs := []) 9 5 rfl en249 (look_clo (look_t rfl)) (C_trie_Trie_Longest_fn1 hy4) rfl rfl trivial) rfl rfl rfl fun q3 => ?_
    refine Sq.eqL (L2 := (⟨some p5, .var (vget c3.f_children k1 : Ref)⟩ :: ⟨some p6, .var (w64 (s1.2.1 + 1) : Int)⟩ :: ⟨some p2, .var (y4.1 : Int)⟩ :: ⟨some p3, .var (y4.2.1 : Int)⟩ :: ⟨some p4, .var (y4.2.2 : Bool)⟩ :: ⟨some l, .is (.loop { rec with state := .busy })⟩ :: ⟨some D, .dfr⟩ :: ⟨some p7, .var ((⟨249, some [.pointer (some ⟨p5, 0, none⟩), .pointer (some ⟨p6, 0, none⟩), .pointer (some ⟨p2, 0, none⟩), .pointer (some ⟨p3, 0, none⟩), .pointer (some ⟨p4, 0, none⟩)]⟩ : Raw) : Raw)⟩ :: ⟨some p1, .var (x1 : T_api_Value)⟩ :: Ents hp)) rfl ?_
    refine Sq.nil ?_
    refine To.bnorm ?_
    refine To.bring 6 rfl ?_
    refine To.bring 6 rfl ?_
    obtain rfl:=some_in h
    exact To.rnd () 0 rfl
  ·clear hl; subst hr; simp only [Sum.elim_inl] at h
   refine To.eqL (L2 := (⟨some D, .dfr⟩ :: ⟨some p5, .var (s1.1 : Ref)⟩ :: ⟨some p6, .var (s1.2.1 : Int)⟩ :: ⟨some p2, .var (s1.2.2.1 : Int)⟩ :: ⟨some p3, .var (s1.2.2.2.1 : Int)⟩ :: ⟨some p4, .var (s1.2.2.2.2 : Bool)⟩ :: ⟨some p7, .var ((⟨249, some [.pointer (some ⟨p5, 0, none⟩), .pointer (some ⟨p6, 0, none⟩), .pointer (some ⟨p2, 0, none⟩), .pointer (some ⟨p3, 0, none⟩), .pointer (some ⟨p4, 0, none⟩)]⟩ : Raw) : Raw)⟩ :: ⟨some p1, .var (x1 : T_api_Value)⟩ :: Ents hp)) rfl ?_
   refine To.bnorm ?_
   refine To.next ?_
   refine Wp.seq ?_
   refine Qwl [0, 1, 3, 6, 7, 8, 9, 10, 11, 12, 14, 15, 16, 17, 18, 19, 20, 21, 22, 23, 24, 25, 26, 27, 28, 29, 30, 31, 32, 33, 34, 35, 36, 37, 38] ?_
   refine Wp.draw mixed 5 [some 52, some 53, some 54, some 4, some 5] [[], [], [], [0], [1]] [.val _, .val _, .val _, .val _, .val _] [false, false, false, false, false] (by kernel_rfl) rfl rfl rfl (fun ps3 => ⟨Hl0 3 ty3, Hl0 4 ty3, Hl0 5 ty4, Ha, Ha, trivial⟩) fun ps3 => ?_
   refine Qa ?_
   refine Qnx ?_
   refine Wp.ret ?_
   obtain rfl:=some_in h
   refine To.endD 0 rfl rfl ?_
   exact To.endO3 () (.cons _ (.cons _ (.cons _ (.cons _ (.cons _ (.cons _ (.cons _ (.cons _ (.refl _))))))))) rfl rfl (rvo_t rfl) (rvo_t rfl) (rvo_t rfl)
  ·clear hl; subst hr; simp only [Sum.elim_inr] at h
   refine Wp.exit ?_
   refine To.eqL (L2 := (⟨some D, .dfr⟩ :: ⟨some p5, .var (q2.1 : Ref)⟩ :: ⟨some p6, .var (q2.2.1 : Int)⟩ :: ⟨some p2, .var (q2.2.2.1 : Int)⟩ :: ⟨some p3, .var (q2.2.2.2.1 : Int)⟩ :: ⟨some p4, .var (q2.2.2.2.2 : Bool)⟩ :: ⟨some p7, .var ((⟨249, some [.pointer (some ⟨p5, 0, none⟩), .pointer (some ⟨p6, 0, none⟩), .pointer (some ⟨p2, 0, none⟩), .pointer (some ⟨p3, 0, none⟩), .pointer (some ⟨p4, 0, none⟩)]⟩ : Raw) : Raw)⟩ :: ⟨some p1, .var (x1 : T_api_Value)⟩ :: Ents hp)) rfl ?_
   refine To.bexit ?_
   refine To.next ?_
   refine Wp.seq ?_
   refine Qwl [0, 1, 3, 6, 7, 8, 9, 10, 11, 12, 14, 15, 16, 17, 18, 19, 20, 21, 22, 23, 24, 25, 26, 27, 28, 29, 30, 31, 32, 33, 34, 35, 36, 37, 38] ?_
   refine Wp.draw mixed 5 [some 52, some 53, some 54, some 4, some 5] [[], [], [], [0], [1]] [.val _, .val _, .val _, .val _, .val _] [false, false, false, false, false] (by kernel_rfl) rfl rfl rfl (fun ps4 => ⟨Hl0 3 ty3, Hl0 4 ty3, Hl0 5 ty4, Ha, Ha, trivial⟩) fun ps4 => ?_
   refine Qa ?_
   refine Qnx ?_
   refine Wp.ret ?_
   obtain rfl:=some_in h
   refine To.endD 0 rfl rfl ?_
   exact To.endO3 () (.cons _ (.cons _ (.cons _ (.cons _ (.cons _ (.cons _ (.cons _ (.cons _ (.refl _))))))))) rfl rfl (rvo_t rfl) (rvo_t rfl) (rvo_t rfl)
end Go.Proofs.YtmnggbjcnoffeaaGreat

namespace Go.Proofs.YtmnggbjcnoffeaaGreat
open Go Gv
set_option linter.unusedVariables false
set_option linter.unusedSimpArgs false
set_option maxRecDepth 100000
set_option maxHeartbeats 2000000
theorem C_trie_Trie_find {hp : Pool Cell} {x0 : Ref} {x1 : T_api_Value} {x2 : Int}  {r : Ref} (h : L_trie_Trie_find hp x0 x1 x2 = some r) : MeetsO Tryz.prog 247 [VP.of (x0), VP.of (x1), VP.of (x2)] ([] ++ Ents hp) (δ := Unit) (fun _ => VP.of (r)) (fun _ => [] ++ Ents hp) := by
 unfold L_trie_Trie_find at h
 refine MeetsO.ofM Tryz.func247 rfl Tryz.ntmps247 rfl fun W A => ?_
 refine Qsr ?_
 refine Qbx fun p1 => ?_
 refine Qal zr331 fun p2 => ?_
 refine Qns ?_
 refine Qsr ?_
 refine Qm ?_
 refine Ql0 1 ty43 ?_
 refine Qm ?_
 obtain ⟨y1,hy1,h⟩:=Qbs h
 refine Sq.vS (HS.callQ 2 rfl en251 (C_trie_Trie_prefix hy1) ⟨look_t rfl, look_t rfl, look_t rfl, trivial⟩) rfl rfl rfl ?_
 refine Q1 r_not ?_
 refine Qnx ?_
 refine Qcd h (fun h=>?_) fun h=>?_
 ·refine Qsr ?_
  refine Sq.store (i := 0) (Lens.id Ref) (v := ((none : Ref) : Ref)) (b' := ((none : Ref) : Ref)) ty331 (look_t rfl) (look_nilref) rfl rfl rfl ?_
  refine Qnx ?_
  refine Wp.ret ?_
  refine To.ret ?_
  obtain rfl:=some_in h
  refine To.endM ?_
  exact To.endO1 () (.cons _ (.cons _ (.refl _))) rfl rfl (rvo_c (i := 0) ty331 rfl rfl)
 ·refine Qkn ?_
  refine Qsr ?_
  refine Qm ?_
  obtain ⟨o1,ho1,h⟩:=Qbs h
  refine Qv (r_nck (look_ref (look_t rfl) ho1)) ?_
  refine Q1 (r_fa fd337_1) ?_
  obtain ⟨c1,hc1,h⟩:=Qbs h
  refine Qv (r_loadM ((Lens.id T_trie_Trie).comp le_T_trie_Trie_root) (r := c1.f_root) ty331 (look_t rfl) (pmem (n := 2) rfl (rds337 hc1) rfl) rfl rfl) ?_
  refine Qal zr331 fun p3 => ?_
  refine Qs0 0 ty331 ?_
  refine Qns ?_
  refine Qsr ?_
  refine Qm ?_
  refine Ql0 2 ty43 ?_
  refine Qm ?_
  obtain ⟨y2,hy2,h⟩:=Qbs h
  refine Qcl en250 (C_trie_Trie_path hy2) ?_
  refine Qnx ?_
  refine Wp.block ?_
  obtain ⟨e1,hl,h⟩:=Qbs h
  refine range_wpK (hp := hp) (γ := Unit) (g0 := ()) (Ls := fun s1 g1 => (⟨some p3, .var (s1 : Ref)⟩ :: ⟨some p2, .var ((default : Ref) : Ref)⟩ :: ⟨some p1, .var (x1 : T_api_Value)⟩ :: Ents hp)) (Lx := fun q1 g1 => (⟨some p3, .var (q1.1 : Ref)⟩ :: ⟨some p2, .var (q1.2 : Ref)⟩ :: ⟨some p1, .var (x1 : T_api_Value)⟩ :: Ents hp)) (fun s1 g1 => [⟨some p3, .var (s1 : Ref)⟩, ⟨some p2, .var ((default : Ref) : Ref)⟩, ⟨some p1, .var (x1 : T_api_Value)⟩]) (fun q1 => .ret) rfl en255 rfl Ck_trie_Trie_path_fn1 hl (fun _ _ => rfl) rfl rfl (fun vx1 s1 r h g1 W0' X' A0' l D rec hrs => ?_) (fun s1 hr g1 D => ?_) (fun q1 hr g1 D => ?_)
  ·clear hl
   refine Wp.reg ?_
   refine Qa ?_
   refine Sq.nil ?_
   refine To.begin 0 rfl hrs ?_
   refine Wp.block ?_
   refine Wp.seq ?_
   refine Qsr ?_
   refine Ql0 2 ty331 ?_
   refine Qv (r_refnil Tryz.underlying331 (look_t rfl)) ?_
   refine Qnx ?_
   refine Qcd h (fun h=>?_) fun h=>?_
   ·refine Qsr ?_
    refine Sq.store (i := 3) (Lens.id Ref) (v := ((none : Ref) : Ref)) (b' := ((none : Ref) : Ref)) ty331 (look_t rfl) (look_nilref) rfl rfl rfl ?_
    refine Qnx ?_
    refine Wp.ret ?_
    refine To.ret ?_
    refine To.bret ?_
    obtain rfl:=some_in h
    exact To.rleave () 0 rfl rfl rfl
   ·refine Qkn ?_
    refine Wp.reg ?_
    refine Ql0 2 ty331 ?_
    refine Qm ?_
    obtain ⟨o2,ho2,h⟩:=Qbs h
    refine Qv (r_nck (look_ref (look_t rfl) ho2)) ?_
    refine Q1 (r_fa fd335_0) ?_
    obtain ⟨k1,hk1,h⟩:=Qbs h
    refine Qv (r_ia (k := k1) ar333 (look_t rfl) (look_t rfl) (idx_some hk1)) ?_
    obtain ⟨c2,hc2,h⟩:=Qbs h
    refine Qv (r_loadM (((Lens.id T_trie_node).comp le_T_trie_node_children).comp (Lens.idx (α := Ref) 2 k1 (idx_some hk1).1)) (r := vget c2.f_children k1) ty331 (look_t rfl) (pmem (n := 5) rfl (rds335 hc2) rfl) rfl rfl) ?_
    refine Qs0 2 ty331 ?_
    refine Sq.nil ?_
    refine To.bnorm ?_
    obtain rfl:=some_in h
    exact To.rnd () 0 rfl
  ·clear hl; subst hr; simp only [Sum.elim_inl] at h
   refine To.eqL (L2 := (⟨some D, .dfr⟩ :: ⟨some p3, .var (s1 : Ref)⟩ :: ⟨some p2, .var ((default : Ref) : Ref)⟩ :: ⟨some p1, .var (x1 : T_api_Value)⟩ :: Ents hp)) rfl ?_
   refine To.bnorm ?_
   refine To.next ?_
   refine Qsr ?_
   refine Ql0 1 ty331 ?_
   refine Qs0 2 ty331 ?_
   refine Qnx ?_
   refine Wp.ret ?_
   obtain rfl:=some_in h
   refine To.endD 0 rfl rfl ?_
   exact To.endO1 () (.cons _ (.cons _ (.cons _ (.cons _ (.refl _))))) rfl rfl (rvo_c (i := 2) ty331 rfl rfl)
  ·clear hl; subst hr; simp only [Sum.elim_inr] at h
   refine Wp.ret ?_
   refine To.eqL (L2 := (⟨some D, .dfr⟩ :: ⟨some p3, .var (q1.1 : Ref)⟩ :: ⟨some p2, .var (q1.2 : Ref)⟩ :: ⟨some p1, .var (x1 : T_api_Value)⟩ :: Ents hp)) rfl ?_
   refine To.bret ?_
   refine To.ret ?_
   obtain rfl:=some_in h
   refine To.endD 0 rfl rfl ?_
   exact To.endO1 () (.cons _ (.cons _ (.cons _ (.cons _ (.refl _))))) rfl rfl (rvo_c (i := 2) ty331 rfl rfl)
theorem Ch0_1_ordered_List_All {x0 : T_ordered_List} {pp0 : Nat} {key00_0 : Option Nat} {cap00_0 : Nat} {r : (List T_api_Installed)} (h : Lh0_1_ordered_List_All x0 = some r) : MeetsO Tryz.prog 264 [VP.eq (.pointer (some ⟨pp0, 0, none⟩))] [⟨some pp0, .varX (({ x0 with f_l := [] } : T_ordered_List) : T_ordered_List) [(10, slv key00_0 x0.f_l.length cap00_0)]⟩, ⟨key00_0, .row 52 (x0.f_l : List T_api_Installed) cap00_0⟩] (δ := Unit) (fun d => VP.of (r)) (fun d => [⟨some pp0, .varX (({ x0 with f_l := [] } : T_ordered_List) : T_ordered_List) [(10, slv key00_0 (x0.f_l).length cap00_0)]⟩, ⟨key00_0, .row 52 (x0.f_l : List T_api_Installed) cap00_0⟩]) := by
 unfold Lh0_1_ordered_List_All at h
 refine MeetsO.of Tryz.func264 rfl Tryz.ntmps264 rfl fun W A => ?_
 refine Qsr ?_
 refine Qv (r_asg (look_nil (α := T_api_Installed))) ?_
 refine Qns ?_
 refine Qsr ?_
 refine Qm ?_
 refine Qv (r_pnil Tryz.underlying170 (look_t rfl)) ?_
 refine Qnx ?_
 refine Wp.condF (look_t rfl) rfl ?_
 refine Qkn ?_
 refine Qsr ?_
 refine Qm ?_
 refine Q1 r_nck ?_
 refine Q1 (r_fa fd228_1) ?_
 refine Qv (r_loadH (i := 0) (q := 0) (β := T_ordered_List) (γ := T_api_Installed) ty38 (look_t rfl) rfl rfl) ?_
 obtain ⟨y1,hy1,h⟩:=Qbs h
 refine Sq.vS (HS.call [1] en269 (Cl0_own_List hy1) ⟨look_t rfl, trivial⟩ rfl ⟨rfl, trivial⟩ rfl) rfl rfl rfl ?_
 refine Qa ?_
 refine Qnx ?_
 refine Wp.ret ?_
 refine To.bring 1 rfl ?_
 refine To.bring 1 rfl ?_
 obtain rfl:=some_in h
 exact Qo1 ()
theorem C_trie_Trie_Len {hp : Pool Cell} {x0 : Ref}  {r : Int} (h : L_trie_Trie_Len hp x0 = some r) : MeetsO Tryz.prog 246 [VP.of (x0)] ([] ++ Ents hp) (δ := Unit) (fun _ => VP.of (r)) (fun _ => [] ++ Ents hp) := by
 unfold L_trie_Trie_Len at h
 refine MeetsO.of Tryz.func246 rfl Tryz.ntmps246 rfl fun W A => ?_
 refine Qsr ?_
 refine Qa ?_
 refine Qnr ?_
 refine Qm ?_
 obtain ⟨y1,hy1,h⟩:=Qbs h
 refine Sq.vS (HS.callQ 0 rfl en253 (C_trie_Trie_All hy1) ⟨look_t rfl, trivial⟩) rfl rfl rfl ?_
 refine Q1 (r_len Tryz.underlying342) ?_
 refine Qa ?_
 refine Qnx ?_
 refine Wp.ret ?_
 obtain rfl:=some_in h
 exact To.endO1 () (.refl _) rfl rfl (rvo_t rfl)
theorem C_index_prefixed_lookup {hp : Pool Cell} {x0 : T_index_prefixed} {x1 : Vector T_api_Value 4}  {r : Int × Bool} (h : L_index_prefixed_lookup hp x0 x1 = some r) : MeetsO Tryz.prog 236 [VP.of (x0), VP.of (x1)] ([] ++ Ents hp) (δ := Unit) (fun _ => VP.tup [VP.of (r.1), VP.of (r.2)]) (fun _ => [] ++ Ents hp) := by
 unfold L_index_prefixed_lookup at h
 refine MeetsO.of Tryz.func236 rfl Tryz.ntmps236 rfl fun W A => ?_
 refine Qsr ?_
 refine Qbx fun p1 => ?_
 refine Qbx fun p2 => ?_
 refine Qa ?_
 refine Qa ?_
 refine Qnr ?_
 refine Ql0 1 ty169 ?_
 refine Ql0 0 ty45 ?_
 obtain ⟨y1,hy1,h⟩:=Qbs h
 refine Qcl en241 (C_index_prefixed_split hy1) ?_
 refine Qm ?_
 refine Qxt ?_
 refine Qxt ?_
 refine Qal zr320 fun p3 => ?_
 refine Qal zr43 fun p4 => ?_
 refine Qs0 1 ty320 ?_
 refine Qs0 0 ty43 ?_
 refine Qns ?_
 obtain ⟨o1,ho1,h⟩:=Qbs h
 obtain ⟨c1,hc1,h⟩:=Qbs h
 obtain ⟨z1,hz1,h⟩:=Qbs h
 obtain ⟨y2,hy2,h⟩:=Qbs h
 obtain ⟨y3,hy3,h⟩:=Qbs h
 obtain ⟨y4,hy4,h⟩:=Qbs h
 refine Qwl [0, 1, 2, 3, 4, 5, 6, 7, 11, 12, 13, 14, 15, 16] ?_
 refine Wp.drawQ 4 mixed (Hp 18 [] [] _ :: Hp 19 (0 :: []) (3 :: []) _ :: Hp 20 [] (1 :: []) _ :: ⟨some 21, (1 :: 2 :: []), [], [], fun _ => VP.of (z1), fun _ _ => ⟨none, .dead⟩⟩ :: Hp 22 [] (0 :: []) _ :: Hp 23 [] [] _ :: Hp 24 (5 :: []) (3 :: []) _ :: Hp 25 (6 :: []) [] _ :: Hp 26 (4 :: 7 :: []) [] _ :: ⟨some 27, (3 :: 8 :: []), [], [], fun _ => VP.tup [VP.of (y4.1), VP.of (y4.2.1), VP.of (y4.2.2)], fun _ _ => ⟨none, .dead⟩⟩ :: Hp 17 (9 :: []) [] _ :: Hp 28 (10 :: []) [] _ :: Hp 29 (10 :: []) [] _ :: Hp 30 (10 :: []) [] _ :: Hp 8 (11 :: []) [] _ :: Hp 9 (12 :: []) [] _ :: Hp 10 (13 :: []) [] _ :: []) _ (0 :: 1 :: 2 :: 3 :: 4 :: 5 :: 6 :: 7 :: 11 :: 12 :: 13 :: 14 :: 15 :: 16 :: []) rfl rfl (by kernel_rfl) (by kernel_rfl) ⟨HeadD.q (D1 (r_fa fd169_2)), HeadD.q (Dld 3 le_T_index_prefixed_tries ty167), HeadD.q (Dl0 1 ty320), ?_, HeadD.q (Dl0 0 ty43), HeadD.q (D1 (r_fa fd169_1)), HeadD.q (Dld 3 le_T_index_prefixed_bits ty3), HeadD.q (Dv fun hd E' L' hE hL => r_call en188 (C_value_Ones hy2) ⟨look_t (hE _ _ rfl), trivial⟩), HeadD.q (Dv fun hd E' L' hE hL => r_call en148 (C_value_And hy3) ⟨look_t (hE _ _ rfl), look_t (hE _ _ rfl), trivial⟩), ?_, HeadD.q (Dm), HeadD.q (Dv fun hd E' L' hE hL => r_ext (look_t (hE _ _ rfl)) rfl), HeadD.q (Dv fun hd E' L' hE hL => r_ext (look_t (hE _ _ rfl)) rfl), HeadD.q (Dv fun hd E' L' hE hL => r_ext (look_t (hE _ _ rfl)) rfl), HeadD.q (Dv fun hd E' L' hE hL => r_asg (look_t (hE _ _ rfl))), HeadD.q (Dv fun hd E' L' hE hL => r_asg (look_t (hE _ _ rfl))), HeadD.q (Dv fun hd E' L' hE hL => r_asg (look_t (hE _ _ rfl))), trivial⟩ fun hd1 => ?_
 ·intro hd E' L' hE hL hP
  refine Qv (r_lookM (r := z1) Tryz.underlying167 kt320 zr321 (look_mref (look_t (hE _ _ rfl)) ho1) (look_t (hE _ _ rfl)) (pmem (n := 4) (hP.trans rfl) (rds167 hc1) rfl) (some_in hz1)) ?_
  refine Sq.nil ?_
  exact To.fin (gm []) rfl rfl
 ·intro hd E' L' hE hL hP
  refine Sq.vS (HS.callQ 4 (hP.trans rfl) en242 (C_trie_Trie_Longest hy4) ⟨look_t (hE _ _ rfl), look_t (hE _ _ rfl), trivial⟩) rfl rfl rfl ?_
  refine Sq.nil ?_
  exact To.fin (gm []) rfl rfl
 refine To.eqL (L2 := (⟨some p4, .var (y1.2 : T_api_Value)⟩ :: ⟨some p3, .var (y1.1 : Vector T_api_Value 4)⟩ :: ⟨some p2, .var (x1 : Vector T_api_Value 4)⟩ :: ⟨some p1, .var (x0 : T_index_prefixed)⟩ :: Ents hp)) rfl ?_
 refine Qtl [0, 1, 2, 3, 4, 5, 6, 7, 8, 9, 10, 11, 12, 13, 14, 15, 16, 17, 18, 19, 20, 21, 22, 23, 24, 25, 26, 27, 28, 29, 30] ?_
 refine To.next ?_
 refine Qsr ?_
 refine Qm ?_
 refine Qm ?_
 refine Qa ?_
 refine Qa ?_
 refine Qnx ?_
 refine Wp.ret ?_
 obtain rfl:=some_in h
 exact To.endO2 () (.cons _ (.cons _ (.cons _ (.cons _ (.refl _))))) rfl rfl (rvo_t rfl) (rvo_t rfl)
end Go.Proofs.YtmnggbjcnoffeaaGreat

namespace Go.Proofs.YtmnggbjcnoffeaaGreat
open Go Gv
set_option linter.unusedVariables false
set_option linter.unusedSimpArgs false
set_option maxRecDepth 100000
set_option maxHeartbeats 2000000
theorem C_trie_Trie_Get {hp : Pool Cell} {x0 : Ref} {x1 : T_api_Value} {x2 : Int}  {r : Int × Bool} (h : L_trie_Trie_Get hp x0 x1 x2 = some r) : MeetsO Tryz.prog 240 [VP.of (x0), VP.of (x1), VP.of (x2)] ([] ++ Ents hp) (δ := Unit) (fun _ => VP.tup [VP.of (r.1), VP.of (r.2)]) (fun _ => [] ++ Ents hp) := by
 unfold L_trie_Trie_Get at h
 refine MeetsO.of Tryz.func240 rfl Tryz.ntmps240 rfl fun W A => ?_
 refine Qsr ?_
 refine Qbx fun p1 => ?_
 refine Qa ?_
 refine Qa ?_
 refine Qnr ?_
 refine Qm ?_
 refine Ql0 0 ty43 ?_
 refine Qm ?_
 obtain ⟨y1,hy1,h⟩:=Qbs h
 refine Sq.vS (HS.callQ 1 rfl en247 (C_trie_Trie_find hy1) ⟨look_t rfl, look_t rfl, look_t rfl, trivial⟩) rfl rfl rfl ?_
 refine Qa ?_
 refine Qns ?_
 refine Qsr ?_
 refine Qm ?_
 refine Qv (r_refnil Tryz.underlying331 (look_t rfl)) ?_
 refine Qm ?_
 refine Qg1 r_move ?_
 obtain ⟨o1,ho1,h⟩:=Qbs h
 refine Qg (fun hb => r_nck (look_ref (look_tc rfl hb) (condM_some ho1 hb))) ?_
 refine Qg1 (r_fa fd335_1) ?_
 obtain ⟨c1,hc1,h⟩:=Qbs h
 refine Qg (fun hb => r_loadM ((Lens.id T_trie_node).comp le_T_trie_node_used) (r := c1.f_used) ty4 (look_tc rfl hb) (pmem (n := 1) rfl (rds335 (condM_some hc1 hb)) rfl) rfl rfl) ?_
 refine Qg1 r_not ?_
 refine Qor ?_
 refine Qnx ?_
 refine Qcd h (fun h=>?_) fun h=>?_
 ·refine Qsr ?_
  refine Qa ?_
  refine Qa ?_
  refine Qnx ?_
  refine Wp.ret ?_
  refine To.ret ?_
  obtain rfl:=some_in h
  exact To.endO2 () (.cons _ (.refl _)) rfl rfl (rvo_t rfl) (rvo_t rfl)
 ·refine Qkn ?_
  refine Qsr ?_
  refine Qm ?_
  obtain ⟨o2,ho2,h⟩:=Qbs h
  refine Qv (r_nck (look_ref (look_t rfl) ho2)) ?_
  refine Q1 (r_fa fd335_2) ?_
  obtain ⟨c2,hc2,h⟩:=Qbs h
  refine Qv (r_loadM ((Lens.id T_trie_node).comp le_T_trie_node_id) (r := c2.f_id) ty3 (look_t rfl) (pmem (n := 1) rfl (rds335 hc2) rfl) rfl rfl) ?_
  refine Qa ?_
  refine Qa ?_
  refine Qnx ?_
  refine Wp.ret ?_
  obtain rfl:=some_in h
  exact To.endO2 () (.cons _ (.refl _)) rfl rfl (rvo_t rfl) (rvo_t rfl)
theorem C_index_sorted_find {hp : Pool Cell} {x0 : T_index_sorted} {x1 : T_api_Entry}  {r : Int × Bool} (h : L_index_sorted_find hp x0 x1 = some r) : MeetsO Tryz.prog 260 [VP.of (x0), VP.of (x1)] ([] ++ Ents hp) (δ := Unit) (fun _ => VP.tup [VP.of (r.1), VP.of (r.2)]) (fun _ => [] ++ Ents hp) := by
 unfold L_index_sorted_find at h
 refine MeetsO.of Tryz.func260 rfl Tryz.ntmps260 rfl fun W A => ?_
 refine Qsr ?_
 refine Qbx fun p1 => ?_
 refine Qbx fun p2 => ?_
 refine Qa ?_
 refine Qa ?_
 refine Qns ?_
 refine Qsr ?_
 refine Q1 (r_fa fd173_0) ?_
 refine Qld 1 le_T_index_sorted_l ty170 ?_
 obtain ⟨o1,ho1,h⟩:=Qbs h
 obtain ⟨c1,hc1,h⟩:=Qbs h
 obtain ⟨y1,hy1,h⟩:=Qbs h
 refine Sq.vS (HS.obj 2 rfl (rds228 hc1) en264 (Ch0_1_ordered_List_All hy1) rfl ⟨look_ref (look_t rfl) ho1, trivial⟩) rfl rfl rfl ?_
 refine Q1 (r_len Tryz.underlying38) ?_
 refine Qm ?_
 refine Qnx ?_
 refine Wp.block ?_
 obtain ⟨e1,hl,h⟩:=Qbs h
 refine Wp.loopG (σ := Int) (ε := (Int × Bool) ⊕ (Int × Bool × Int × Bool × Bool)) (γ := Unit) (δ := Unit) hl (fun s1 g1 => [(0, VP.of (x0)), (1, VP.of (x1)), (2, VP.eq (.pointer (some ⟨p1, 0, none⟩))), (3, VP.eq (.pointer (some ⟨p2, 0, none⟩))), (4, VP.of (0 : Int)), (5, VP.of (false)), (10, VP.of (y1)), (11, VP.of (y1.length : Int)), (12, VP.of (s1))]) (fun s1 g1 => (⟨some p2, .var (x1 : T_api_Entry)⟩ :: ⟨some p1, .var (x0 : T_index_sorted)⟩ :: Ents hp)) (fun q1 => Sum.elim (fun q1 => Exit.exit 0) (fun q1 => Exit.ret) q1) (fun q1 g1 => Sum.elim (fun q1 => [(0, VP.of (x0)), (1, VP.of (x1)), (2, VP.eq (.pointer (some ⟨p1, 0, none⟩))), (3, VP.eq (.pointer (some ⟨p2, 0, none⟩))), (4, VP.of (0 : Int)), (5, VP.of (false)), (10, VP.of (y1)), (11, VP.of (y1.length : Int)), (12, VP.of (q1.1)), (13, VP.of (q1.2))]) (fun q1 => [(0, VP.of (x0)), (1, VP.of (x1)), (2, VP.eq (.pointer (some ⟨p1, 0, none⟩))), (3, VP.eq (.pointer (some ⟨p2, 0, none⟩))), (4, VP.of (q1.1)), (5, VP.of (q1.2.1)), (10, VP.of (y1)), (11, VP.of (y1.length : Int)), (12, VP.of (q1.2.2.1)), (13, VP.of (q1.2.2.2.1)), (19, VP.of (q1.2.2.2.2))]) q1) (fun q1 g1 => Sum.elim (fun q1 => (⟨some p2, .var (x1 : T_api_Entry)⟩ :: ⟨some p1, .var (x0 : T_index_sorted)⟩ :: Ents hp)) (fun q1 => (⟨some p2, .var (x1 : T_api_Entry)⟩ :: ⟨some p1, .var (x0 : T_index_sorted)⟩ :: Ents hp)) q1) () rfl (.same rfl (.same rfl (.same rfl (.same rfl (.same rfl (.same rfl (.same rfl (.same rfl (.same rfl .nil))))))))) (fun s1 r h g1 => ?_) (fun g1 => ?_)
 ·clear hl
  refine Qsr ?_
  refine Q2 r_lss ?_
  refine Qns ?_
  refine Qcd h (fun h=>?_) fun h=>?_
  ·refine Qkn ?_
   refine Wp.seq ?_
   refine Wp.block ?_
   refine Qsr ?_
   obtain ⟨k1,hk1,h⟩:=Qbs h
   refine Qix hk1 Tryz.underlying38 ty52 ?_
   refine Q1 (r_loadp ty52) ?_
   refine Qal zr52 fun p3 => ?_
   refine Qs0 0 ty52 ?_
   refine Qnr ?_
   refine Q1 (r_fa fd52_0) ?_
   refine Qld 0 le_T_api_Installed_Entry ty50 ?_
   refine Ql0 1 ty50 ?_
   obtain ⟨y2,hy2,h⟩:=Qbs h
   refine Qcl en265 (C_entry_SameKey hy2) ?_
   refine Qnx ?_
   refine Qcd h (fun h=>?_) fun h=>?_
   ·refine Qsr ?_
    refine Q1 (r_fa fd52_1) ?_
    refine Qld 0 le_T_api_Installed_Number ty3 ?_
    refine Qa ?_
    refine Qa ?_
    refine Qnx ?_
    refine Wp.ret ?_
    refine To.bret ?_
    refine To.ret ?_
    obtain rfl:=some_in h
    exact Qlv () 1
   ·refine Wp.skip ?_
    refine To.bnorm ?_
    refine To.next ?_
    refine Wp.reg ?_
    refine Q2 r_add ?_
    refine Qm ?_
    refine Sq.nil ?_
    obtain rfl:=some_in h
    exact Qrd () 1
  ·refine Wp.exit ?_
   refine To.exit ?_
   obtain rfl:=some_in h
   exact Qlv () 0
 ·clear hl
  rcases e1 with e1 | e1
  ·simp only [Sum.elim_inl] at h
   refine To.bexit ?_
   refine To.next ?_
   refine Qsr ?_
   refine Qa ?_
   refine Qa ?_
   refine Qnx ?_
   refine Wp.ret ?_
   obtain rfl:=some_in h
   exact To.endO2 () (.cons _ (.cons _ (.refl _))) rfl rfl (rvo_t rfl) (rvo_t rfl)
  ·simp only [Sum.elim_inr] at h
   refine To.bret ?_
   refine To.ret ?_
   obtain rfl:=some_in h
   exact To.endO2 () (.cons _ (.cons _ (.refl _))) rfl rfl (rvo_t rfl) (rvo_t rfl)
end Go.Proofs.YtmnggbjcnoffeaaGreat

namespace Go.Proofs.YtmnggbjcnoffeaaGreat
open Go Gv
set_option linter.unusedVariables false
set_option linter.unusedSimpArgs false
set_option maxRecDepth 100000
set_option maxHeartbeats 2000000
theorem Cf0_ordered_List_order {x0 : T_ordered_List} {x1 : T_api_Installed} {x2 : T_api_Installed}  {r : Int} (h : Lf0_ordered_List_order x0 x1 x2 = some r) : Meets Tryz.prog 273 [VP.ptr x0, VP.of (x1), VP.of (x2)] (VP.of (r)) := by
 unfold Lf0_ordered_List_order at h
 refine Meets.of Tryz.func273 rfl Tryz.ntmps273 rfl fun W A => ?_
 refine Qsr ?_
 refine Qbx fun p1 => ?_
 refine Qbx fun p2 => ?_
 refine Qa ?_
 refine Qns ?_
 refine Wp.block ?_
 refine Wp.seq ?_
 obtain ⟨y1,hy1,h⟩:=Qbs h
 refine Wp.draw mixed 7 [some 8, some 9, some 10, some 11, some 12, some 13, some 14] [[], [0], [1], [2], [], [], [3, 4, 5]] [.val _, .val _, .val _, .val _, .val _, .val _, .val _] [false, false, false, false, false, false, false] (by kernel_rfl) rfl rfl rfl (fun ps1 => ⟨Hm, H1 r_nckp, Hfp le_T_ordered_List_schema fd228_0, H1 (r_loadp ty33), Hl0 1 ty52, Hl0 0 ty52, Hcl en150 (C_entry_Beats hy1), trivial⟩) fun ps1 => ?_
 refine Qa ?_
 refine Qnx ?_
 refine Qcd h (fun h=>?_) fun h=>?_
 ·refine Qsr ?_
  refine Qa ?_
  refine Qnx ?_
  refine Wp.ret ?_
  refine To.bret ?_
  refine To.ret ?_
  obtain rfl:=some_in h
  exact Qe1
 ·refine Wp.seq ?_
  obtain ⟨y2,hy2,h⟩:=Qbs h
  refine Wp.draw mixed 7 [some 16, some 17, some 18, some 19, some 20, some 21, some 22] [[], [0], [1], [2], [], [], [3, 4, 5]] [.val _, .val _, .val _, .val _, .val _, .val _, .val _] [false, false, false, false, false, false, false] (by kernel_rfl) rfl rfl rfl (fun ps2 => ⟨Hm, H1 r_nckp, Hfp le_T_ordered_List_schema fd228_0, H1 (r_loadp ty33), Hl0 0 ty52, Hl0 1 ty52, Hcl en150 (C_entry_Beats hy2), trivial⟩) fun ps2 => ?_
  refine Qa ?_
  refine Qnx ?_
  refine Qcd h (fun h=>?_) fun h=>?_
  ·refine Qsr ?_
   refine Qa ?_
   refine Qnx ?_
   refine Wp.ret ?_
   refine To.bret ?_
   refine To.ret ?_
   obtain rfl:=some_in h
   exact Qe1
  ·refine Wp.skip ?_
   refine To.bnorm ?_
   refine To.next ?_
   refine Qsr ?_
   refine Qa ?_
   refine Qnx ?_
   refine Wp.ret ?_
   obtain rfl:=some_in h
   exact Qe1
theorem C_law14_begun {hp : Pool Cell}  {Q : Bool × (Pool Cell) → Prop} (h : L_law14_begun hp Q) : MeetsO Tryz.prog 23 [] ([] ++ Ents hp) (δ := {r : Bool × (Pool Cell) // Q r} × Unit) (fun d => VP.of (d.1.1.1)) (fun d => [] ++ Ents d.1.1.2) := by
 unfold L_law14_begun at h
 refine MeetsO.of Tryz.func23 rfl Tryz.ntmps23 rfl fun W A => ?_
 refine Qsr ?_
 refine Qa ?_
 refine Qnr ?_
 obtain ⟨y1, hy1, h⟩ := Wm.of_bind h
 refine QcO 0 en15 (C_mcase_New hy1) fun q1 => ?_
 refine Sq.bring 0 rfl ?_
 obtain ⟨y2, hy2, h⟩ := Wm.of_bind h
 refine QcO 1 en16 (C_mcase_Codes_Schema hy2) fun q2 => ?_
 refine Qal zr33 fun p1 => ?_
 refine Qs0 0 ty33 ?_
 refine Qnr ?_
 refine Ql0 0 ty33 ?_
 refine Sq.callP 2 0 rfl en39 (C_index_New h) rfl rfl ⟨look_t rfl, look_int 1, trivial⟩ rfl fun ⟨⟨y3, h⟩, q3⟩ => ?_
 refine Sq.eqL (L2 := (⟨some p1, .var (y2.1 : T_api_Schema)⟩ :: ⟨some q1, .var (y2.2 : T_mcase_Codes)⟩ :: Ents y3.2)) rfl ?_
 obtain ⟨y4, hy4, h⟩ := Wm.of_bind h
 refine Sq.vS (HS.callQ 2 rfl en42 (C_index_Index_Kind hy4) ⟨look_t rfl, trivial⟩) rfl rfl rfl ?_
 refine Q2 r_eql ?_
 refine Qm ?_
 refine Qg (fun hb => r_load (i := 0) (Lens.id T_api_Schema) (r := y2.1) ty33 (look_t rfl) rfl rfl rfl) ?_
 refine Sq.gW (γ := Unit) h (fun y => VP.of (y.1)) (fun y g => (⟨some p1, .var (y2.1 : T_api_Schema)⟩ :: ⟨some q1, .var (y2.2 : T_mcase_Codes)⟩ :: Ents y.2)) () rfl rfl rfl rfl rfl rfl (fun hb hm => by refine OpS.to ?_ (OpS.callP 2 0 rfl en39 (C_index_New hm) rfl rfl ?_); exact fun _ => rfl; exact ⟨look_tc rfl hb, look_int 2, trivial⟩) fun y5 q4 h => ?_
 obtain ⟨y7, hy7, h⟩ := Wm.of_bind h
 refine Sq.gS (fun hb => HS.callQ 2 rfl en42 (C_index_Index_Kind (condM_some hy7 hb)) ⟨look_tc rfl hb, trivial⟩) rfl rfl rfl rfl rfl ?_
 refine Qg2 r_eql ?_
 refine Qan ?_
 refine Qm ?_
 refine Qg (fun hb => r_load (i := 0) (Lens.id T_api_Schema) (r := y2.1) ty33 (look_t rfl) rfl rfl rfl) ?_
 refine Sq.gW (γ := Unit) h (fun y => VP.of (y.1)) (fun y g => (⟨some p1, .var (y2.1 : T_api_Schema)⟩ :: ⟨some q1, .var (y2.2 : T_mcase_Codes)⟩ :: Ents y.2)) () rfl rfl rfl rfl rfl rfl (fun hb hm => by refine OpS.to ?_ (OpS.callP 2 0 rfl en39 (C_index_New hm) rfl rfl ?_); exact fun _ => rfl; exact ⟨look_tc rfl hb, look_int 3, trivial⟩) fun y8 q5 h => ?_
 obtain ⟨y10, hy10, h⟩ := Wm.of_bind h
 refine Sq.gS (fun hb => HS.callQ 2 rfl en42 (C_index_Index_Kind (condM_some hy10 hb)) ⟨look_tc rfl hb, trivial⟩) rfl rfl rfl rfl rfl ?_
 refine Qg2 r_eql ?_
 refine Qan ?_
 refine Qm ?_
 refine Qg (fun hb => r_load (i := 0) (Lens.id T_api_Schema) (r := y2.1) ty33 (look_t rfl) rfl rfl rfl) ?_
 refine Sq.gW (γ := Unit) h (fun y => VP.of (y.1)) (fun y g => (⟨some p1, .var (y2.1 : T_api_Schema)⟩ :: ⟨some q1, .var (y2.2 : T_mcase_Codes)⟩ :: Ents y.2)) () rfl rfl rfl rfl rfl rfl (fun hb hm => by refine OpS.to ?_ (OpS.callP 2 0 rfl en39 (C_index_New hm) rfl rfl ?_); exact fun _ => rfl; exact ⟨look_tc rfl hb, look_int 4, trivial⟩) fun y11 q6 h => ?_
 obtain ⟨y13, hy13, h⟩ := Wm.of_bind h
 refine Sq.gS (fun hb => HS.callQ 2 rfl en42 (C_index_Index_Kind (condM_some hy13 hb)) ⟨look_tc rfl hb, trivial⟩) rfl rfl rfl rfl rfl ?_
 refine Qg2 r_eql ?_
 refine Qan ?_
 refine Qm ?_
 refine Qg (fun hb => r_load (i := 0) (Lens.id T_api_Schema) (r := y2.1) ty33 (look_t rfl) rfl rfl rfl) ?_
 refine Sq.gW (γ := Unit) h (fun y => VP.of (y.1)) (fun y g => (⟨some p1, .var (y2.1 : T_api_Schema)⟩ :: ⟨some q1, .var (y2.2 : T_mcase_Codes)⟩ :: Ents y.2)) () rfl rfl rfl rfl rfl rfl (fun hb hm => by refine OpS.to ?_ (OpS.callP 2 0 rfl en39 (C_index_New hm) rfl rfl ?_); exact fun _ => rfl; exact ⟨look_tc rfl hb, look_int 9, trivial⟩) fun y14 q7 h => ?_
 refine Qg (fun hb => r_refnil Tryz.underlying37 (look_tc rfl hb)) ?_
 obtain ⟨z1, hz1, h⟩ := Wm.of_bind h
 refine Qn hz1 (r_and (look_t rfl) (look_t rfl) (fun h => h)) ?_
 refine Qa ?_
 refine Qnx ?_
 refine Wp.ret ?_
 exact To.endO1 (⟨⟨(z1, y14.2), h⟩, ()⟩ : {r // _} × _) (.cons _ (.cons _ (.refl _))) rfl rfl (rvo_t rfl)
theorem C_index_prefixed_find {hp : Pool Cell} {x0 : T_index_prefixed} {x1 : T_api_Entry}  {r : Int × Bool} (h : L_index_prefixed_find hp x0 x1 = some r) : MeetsO Tryz.prog 235 [VP.of (x0), VP.of (x1)] ([] ++ Ents hp) (δ := Unit) (fun _ => VP.tup [VP.of (r.1), VP.of (r.2)]) (fun _ => [] ++ Ents hp) := by
 unfold L_index_prefixed_find at h
 refine MeetsO.of Tryz.func235 rfl Tryz.ntmps235 rfl fun W A => ?_
 refine Qsr ?_
 refine Qbx fun p1 => ?_
 refine Qbx fun p2 => ?_
 refine Qa ?_
 refine Qa ?_
 refine Qnr ?_
 refine Ql0 1 ty169 ?_
 refine Ql0 0 ty50 ?_
 obtain ⟨y1,hy1,h⟩:=Qbs h
 refine Qcl en239 (C_index_prefixed_prefix hy1) ?_
 refine Qm ?_
 refine Qxt ?_
 refine Qxt ?_
 refine Qxt ?_
 refine Qal zr320 fun p3 => ?_
 refine Qal zr43 fun p4 => ?_
 refine Qs0 1 ty320 ?_
 refine Qs0 0 ty43 ?_
 refine Qa ?_
 refine Qns ?_
 obtain ⟨o1,ho1,h⟩:=Qbs h
 obtain ⟨c1,hc1,h⟩:=Qbs h
 obtain ⟨z1,hz1,h⟩:=Qbs h
 obtain ⟨y2,hy2,h⟩:=Qbs h
 refine Qwl [0, 1, 2, 3, 6, 7, 8, 9, 10, 11, 12, 13, 14, 15] ?_
 refine Wp.drawQ 4 mixed (Hp 16 [] [] _ :: Hp 17 (0 :: []) (3 :: []) _ :: Hp 18 [] (1 :: []) _ :: ⟨some 19, (1 :: 2 :: []), [], [], fun _ => VP.of (z1), fun _ _ => ⟨none, .dead⟩⟩ :: Hp 20 [] (0 :: []) _ :: Hp 21 [] [] _ :: ⟨some 22, (3 :: 4 :: 5 :: []), [], [], fun _ => VP.tup [VP.of (y2.1), VP.of (y2.2)], fun _ _ => ⟨none, .dead⟩⟩ :: Hp 23 (6 :: []) [] _ :: Hp 24 (6 :: []) [] _ :: Hp 4 (7 :: []) [] _ :: Hp 5 (8 :: []) [] _ :: []) _ (0 :: 1 :: 2 :: 3 :: 6 :: 7 :: 8 :: 9 :: 10 :: 11 :: 12 :: 13 :: 14 :: 15 :: []) rfl rfl (by kernel_rfl) (by kernel_rfl) ⟨HeadD.q (D1 (r_fa fd169_2)), HeadD.q (Dld 3 le_T_index_prefixed_tries ty167), HeadD.q (Dl0 1 ty320), ?_, HeadD.q (Dl0 0 ty43), HeadD.q (Dm), ?_, HeadD.q (Dv fun hd E' L' hE hL => r_ext (look_t (hE _ _ rfl)) rfl), HeadD.q (Dv fun hd E' L' hE hL => r_ext (look_t (hE _ _ rfl)) rfl), HeadD.q (Dv fun hd E' L' hE hL => r_asg (look_t (hE _ _ rfl))), HeadD.q (Dv fun hd E' L' hE hL => r_asg (look_t (hE _ _ rfl))), trivial⟩ fun hd1 => ?_
 ·intro hd E' L' hE hL hP
  refine Qv (r_lookM (r := z1) Tryz.underlying167 kt320 zr321 (look_mref (look_t (hE _ _ rfl)) ho1) (look_t (hE _ _ rfl)) (pmem (n := 4) (hP.trans rfl) (rds167 hc1) rfl) (some_in hz1)) ?_
  refine Sq.nil ?_
  exact To.fin (gm []) rfl rfl
 ·intro hd E' L' hE hL hP
  refine Sq.vS (HS.callQ 4 (hP.trans rfl) en240 (C_trie_Trie_Get hy2) ⟨look_t (hE _ _ rfl), look_t (hE _ _ rfl), look_t (hE _ _ rfl), trivial⟩) rfl rfl rfl ?_
  refine Sq.nil ?_
  exact To.fin (gm []) rfl rfl
 refine To.eqL (L2 := (⟨some p4, .var (y1.2.1 : T_api_Value)⟩ :: ⟨some p3, .var (y1.1 : Vector T_api_Value 4)⟩ :: ⟨some p2, .var (x1 : T_api_Entry)⟩ :: ⟨some p1, .var (x0 : T_index_prefixed)⟩ :: Ents hp)) rfl ?_
 refine Qtl [0, 1, 2, 3, 4, 5, 6, 7, 8, 9, 10, 11, 12, 13, 14, 15, 16, 17, 18, 19, 20, 21, 22, 23, 24] ?_
 refine To.next ?_
 refine Wp.ret ?_
 obtain rfl:=some_in h
 exact To.endO2 () (.cons _ (.cons _ (.cons _ (.cons _ (.refl _))))) rfl rfl (rvo_t rfl) (rvo_t rfl)
end Go.Proofs.YtmnggbjcnoffeaaGreat

namespace Go.Proofs.YtmnggbjcnoffeaaGreat
open Go Gv
set_option linter.unusedVariables false
set_option linter.unusedSimpArgs false
set_option maxRecDepth 100000
set_option maxHeartbeats 2000000
theorem Ch1_1_ordered_List_matching_fn1 {x1 : T_ordered_List} {x2 : Vector T_api_Value 4} {pp1 : Nat} {key01_0 : Option Nat} {cap01_0 : Nat} : MeetsI Tryz.prog 277 [VP.pv (VP.eq (.pointer (some ⟨pp1, 0, none⟩))), VP.ptr x2] [⟨some pp1, .varX (({ x1 with f_l := [] } : T_ordered_List) : T_ordered_List) [(10, slv key01_0 x1.f_l.length cap01_0)]⟩, ⟨key01_0, .row 52 (x1.f_l : List T_api_Installed) cap01_0⟩] (fun v : T_api_Installed => VP.of v) (fun {σ ε} => Lh1_1_ordered_List_matching_fn1 (σ := σ) (ε := ε) x1 x2) := by
 refine MeetsI.of Tryz.func277 rfl Tryz.ntmps277 rfl ?_
 intro σ ε γ Ls Lx step s0 g0 r h W A u hY
 replace h : Lh1_1_ordered_List_matching_fn1 x1 x2 step s0 = some r := h
 unfold Lh1_1_ordered_List_matching_fn1 at h
 refine Qsr ?_
 refine Qv (r_loadF Tryz.underlying170 rfl (look_t rfl)) ?_
 refine Q1 r_nck ?_
 refine Q1 (r_fa fd228_1) ?_
 refine Qv (r_loadH (i := 0) (q := 0) (β := T_ordered_List) (γ := T_api_Installed) ty38 (look_t rfl) rfl rfl) ?_
 refine Qv (r_lenO (i := 1) Tryz.underlying38 (look_t rfl) rfl rfl) ?_
 refine Qm ?_
 refine Qnx ?_
 refine Wp.block ?_
 obtain ⟨e1,hl,h⟩:=Qbs h
 refine Wp.loopG (σ := Int × (σ)) (ε := (Int × Bool × (σ)) ⊕ (Int × Bool × Bool × (ε))) (γ := γ) (δ := γ) hl (fun s1 g1 => [(0, VP.eq u), (1, VP.pv (VP.eq (.pointer (some ⟨pp1, 0, none⟩)))), (2, VP.ptr x2), (9, VP.eq (slv key01_0 x1.f_l.length cap01_0)), (10, VP.of (x1.f_l.length : Int)), (11, VP.of (s1.1))]) (fun s1 g1 => (⟨some pp1, .varX (({ x1 with f_l := [] } : T_ordered_List) : T_ordered_List) [(10, slv key01_0 x1.f_l.length cap01_0)]⟩ :: ⟨key01_0, .row 52 (x1.f_l : List T_api_Installed) cap01_0⟩ :: Ls s1.2 g1)) (fun q1 => Sum.elim (fun q1 => Exit.exit 0) (fun q1 => Exit.ret) q1) (fun q1 g1 => Sum.elim (fun q1 => [(0, VP.eq u), (1, VP.pv (VP.eq (.pointer (some ⟨pp1, 0, none⟩)))), (2, VP.ptr x2), (9, VP.eq (slv key01_0 x1.f_l.length cap01_0)), (10, VP.of (x1.f_l.length : Int)), (11, VP.of (q1.1)), (12, VP.of (q1.2.1))]) (fun q1 => [(0, VP.eq u), (1, VP.pv (VP.eq (.pointer (some ⟨pp1, 0, none⟩)))), (2, VP.ptr x2), (9, VP.eq (slv key01_0 x1.f_l.length cap01_0)), (10, VP.of (x1.f_l.length : Int)), (11, VP.of (q1.1)), (12, VP.of (q1.2.1)), (28, VP.of (q1.2.2.1))]) q1) (fun q1 g1 => Sum.elim (fun q1 => (⟨some pp1, .varX (({ x1 with f_l := [] } : T_ordered_List) : T_ordered_List) [(10, slv key01_0 x1.f_l.length cap01_0)]⟩ :: ⟨key01_0, .row 52 (x1.f_l : List T_api_Installed) cap01_0⟩ :: Ls q1.2.2 g1)) (fun q1 => (⟨some pp1, .varX (({ x1 with f_l := [] } : T_ordered_List) : T_ordered_List) [(10, slv key01_0 x1.f_l.length cap01_0)]⟩ :: ⟨key01_0, .row 52 (x1.f_l : List T_api_Installed) cap01_0⟩ :: Lx q1.2.2.2 g1)) q1) g0 rfl (.same rfl (.same rfl (.same rfl (.same rfl (.same rfl (.same rfl .nil)))))) (fun s1 r h g1 => ?_) (fun g1 => ?_)
 ·clear hl
  refine Qsr ?_
  refine Q2 r_lss ?_
  refine Qns ?_
  refine Qcd h (fun h=>?_) fun h=>?_
  ·refine Qkn ?_
   refine Wp.seq ?_
   refine Wp.block ?_
   refine Qsr ?_
   obtain ⟨k1,hk1,h⟩:=Qbs h
   refine Qv (r_iaO (i := 1) (k := k1) (xs := (x1.f_l : List T_api_Installed)) Tryz.underlying38 ty52 (look_t rfl) (look_t rfl) rfl (idx_some hk1)) ?_
   refine Qv (r_loadR (i := 1) (k := k1) (Lens.id T_api_Installed) (r := (lget x1.f_l k1)) ty52 (look_t rfl) rfl (idx_some hk1).1 rfl rfl) ?_
   refine Qal zr52 fun p1 => ?_
   refine Qs0 0 ty52 ?_
   refine Qns ?_
   obtain ⟨y1,hy1,h⟩:=Qbs h
   refine Wp.draw mixed 11 [some 15, some 16, some 17, some 18, some 19, some 20, some 21, some 22, some 23, some 24, some 25] [[], [0], [1], [2], [], [4], [], [3, 5, 6], [7], [8], [8]] [.val _, .val _, .val _, .val _, .val _, .val _, .val _, .val _, .val _, .val _, .val _] [false, false, false, false, false, false, false, false, false, false, false] (by kernel_rfl) rfl rfl rfl (fun ps1 => ⟨Hv fun L' hL => r_loadF Tryz.underlying170 rfl (look_t rfl), H1 r_nck, H1 (r_fa fd228_0), Hv fun L' hL => r_loadX (i := 1) ((Lens.id T_ordered_List).comp le_T_ordered_List_schema) (r := x1.f_schema) ty33 (look_t rfl) (hL _ _ rfl rfl) rfl rfl (by rfl), H1 (r_fa fd52_0), Hld 0 le_T_api_Installed_Entry ty50, H1 (r_loadp ty45), Hcl en278 (C_entry_Matches hy1), Hm, Hg fun L' hL => fun hb => r_move (look_t rfl), Hg fun L' hL => fun hb => r_load (i := 0) (Lens.id T_api_Installed) (r := (lget x1.f_l k1)) ty52 (look_t rfl) (hL _ _ rfl rfl) rfl rfl, trivial⟩) fun ps1 => ?_
   refine Sq.cases y1 (fun hb => ?_) (fun hb => ?_)
   ·replace h := cond_t hb h
    obtain ⟨y2,hy2,h⟩:=Qbs h
    refine Sq.yieldT (Lin := [⟨some p1, .var ((lget x1.f_l k1) : T_api_Installed)⟩, ⟨some pp1, .varX (({ x1 with f_l := [] } : T_ordered_List) : T_ordered_List) [(10, slv key01_0 x1.f_l.length cap01_0)]⟩, ⟨key01_0, .row 52 (x1.f_l : List T_api_Installed) cap01_0⟩]) (Ls := Ls) (Lx := Lx) (step := step) (s := s1.2) (gg := g1) rfl hY hb rfl rfl rfl (look_tc rfl hb) hy2 rfl (fun s2 hr g2 => ?_) (fun q2 hr g2 => ?_)
    ·subst hr; simp only [Sum.elim_inl] at h
     refine Sq.eqL (L2 := (⟨some p1, .var ((lget x1.f_l k1) : T_api_Installed)⟩ :: ⟨some pp1, .varX (({ x1 with f_l := [] } : T_ordered_List) : T_ordered_List) [(10, slv key01_0 x1.f_l.length cap01_0)]⟩ :: ⟨key01_0, .row 52 (x1.f_l : List T_api_Installed) cap01_0⟩ :: Ls s2 g2)) rfl ?_
     refine Qg1 r_not ?_
     refine Qan ?_
     refine Qnx ?_
     refine Wp.condF (look_t rfl) (by first | rfl | (rw [hb]; rfl)) ?_
     refine Wp.skip ?_
     refine To.bnorm ?_
     refine To.next ?_
     refine Wp.reg ?_
     refine Q2 r_add ?_
     refine Qm ?_
     refine Sq.nil ?_
     obtain rfl:=some_in h
     exact Qrd g2 1
    ·subst hr; simp only [Sum.elim_inr] at h
     refine Sq.eqL (L2 := (⟨some p1, .var ((lget x1.f_l k1) : T_api_Installed)⟩ :: ⟨some pp1, .varX (({ x1 with f_l := [] } : T_ordered_List) : T_ordered_List) [(10, slv key01_0 x1.f_l.length cap01_0)]⟩ :: ⟨key01_0, .row 52 (x1.f_l : List T_api_Installed) cap01_0⟩ :: Lx q2 g2)) rfl ?_
     refine Qg1 r_not ?_
     refine Qan ?_
     refine Qnx ?_
     refine Wp.condT (look_t rfl) (by first | rfl | (rw [hb]; rfl)) ?_
     refine Wp.ret ?_
     refine To.bret ?_
     refine To.ret ?_
     obtain rfl:=some_in h
     exact Qlv g2 1
   ·replace h := cond_f hb h
    refine Sq.skipG (.of false) hb rfl rfl rfl rfl rfl ?_
    refine Qg1 r_not ?_
    refine Qan ?_
    refine Qnx ?_
    refine Wp.condF (look_t rfl) (by first | rfl | (rw [hb]; rfl)) ?_
    refine Wp.skip ?_
    refine To.bnorm ?_
    refine To.next ?_
    refine Wp.reg ?_
    refine Q2 r_add ?_
    refine Qm ?_
    refine Sq.nil ?_
    obtain rfl:=some_in h
    exact Qrd g1 1
  ·refine Wp.exit ?_
   refine To.exit ?_
   obtain rfl:=some_in h
   exact Qlv g1 0
 ·clear hl
  rcases e1 with e1 | e1
  ·simp only [Sum.elim_inl] at h
   refine To.bexit ?_
   refine To.endn ?_
   refine To.bring 1 rfl ?_
   refine To.bring 1 rfl ?_
   obtain rfl:=some_in h
   exact To.endO0 g1 (.cons_cons _ (.cons_cons _ (.refl _))) rfl rfl
  ·simp only [Sum.elim_inr] at h
   refine To.bret ?_
   refine To.bring 1 rfl ?_
   refine To.bring 1 rfl ?_
   obtain rfl:=some_in h
   exact To.endO0 g1 (.cons_cons _ (.cons_cons _ (.refl _))) rfl rfl
end Go.Proofs.YtmnggbjcnoffeaaGreat

namespace Go.Proofs.YtmnggbjcnoffeaaGreat
open Go Gv
set_option linter.unusedVariables false
set_option linter.unusedSimpArgs false
set_option maxRecDepth 100000
set_option maxHeartbeats 2000000
theorem Ch0_1_ordered_List_Lookup {x0 : T_ordered_List} {x1 : Vector T_api_Value 4} {pp0 : Nat} {key00_0 : Option Nat} {cap00_0 : Nat} {r : T_api_Installed × Bool} (h : Lh0_1_ordered_List_Lookup x0 x1 = some r) : MeetsO Tryz.prog 266 [VP.eq (.pointer (some ⟨pp0, 0, none⟩)), VP.of (x1)] [⟨some pp0, .varX (({ x0 with f_l := [] } : T_ordered_List) : T_ordered_List) [(10, slv key00_0 x0.f_l.length cap00_0)]⟩, ⟨key00_0, .row 52 (x0.f_l : List T_api_Installed) cap00_0⟩] (δ := Unit) (fun d => VP.tup [VP.of (r.1), VP.of (r.2)]) (fun d => [⟨some pp0, .varX (({ x0 with f_l := [] } : T_ordered_List) : T_ordered_List) [(10, slv key00_0 (x0.f_l).length cap00_0)]⟩, ⟨key00_0, .row 52 (x0.f_l : List T_api_Installed) cap00_0⟩]) := by
 unfold Lh0_1_ordered_List_Lookup at h
 refine MeetsO.ofM Tryz.func266 rfl Tryz.ntmps266 rfl fun W A => ?_
 refine Qsr ?_
 refine Qbx fun p1 => ?_
 refine Qal zr52 fun p2 => ?_
 refine Qal zr4 fun p3 => ?_
 refine Qns ?_
 refine Qsr ?_
 refine Qm ?_
 refine Qv (r_pnil Tryz.underlying170 (look_t rfl)) ?_
 refine Qnx ?_
 refine Wp.condF (look_t rfl) rfl ?_
 refine Qkn ?_
 refine Wp.seq ?_
 refine Qsr ?_
 refine Qm ?_
 refine Ql0 2 ty45 ?_
 obtain ⟨y1,hy1,h⟩:=Qbs h
 refine Qcl en271 (C_ordered_List_matching hy1) ?_
 refine Qnx ?_
 refine Wp.block ?_
 refine Wp.bring 4 rfl ?_
 refine Wp.bring 4 rfl ?_
 obtain ⟨e1,hl,h⟩:=Qbs h
 refine range_wp (γ := Unit) (g0 := ()) (Lin := [⟨some pp0, .varX (({ x0 with f_l := [] } : T_ordered_List) : T_ordered_List) [(10, slv key00_0 x0.f_l.length cap00_0)]⟩, ⟨key00_0, .row 52 (x0.f_l : List T_api_Installed) cap00_0⟩]) (Ls := fun s1 g1 => [⟨some p3, .var ((default : Bool) : Bool)⟩, ⟨some p2, .var ((default : T_api_Installed) : T_api_Installed)⟩, ⟨some p1, .var (x1 : Vector T_api_Value 4)⟩]) (Lx := fun q1 g1 => [⟨some p3, .var (q1.1 : Bool)⟩, ⟨some p2, .var (q1.2 : T_api_Installed)⟩, ⟨some p1, .var (x1 : Vector T_api_Value 4)⟩]) (fun q1 => .ret) rfl en277 rfl Ch1_1_ordered_List_matching_fn1 hl rfl rfl (fun vx1 s1 r h g1 W0' X' A0' l D rec hrs => ?_) (fun s1 hr g1 D => ?_) (fun q1 hr g1 D => ?_)
 ·clear hl
  refine Wp.reg ?_
  refine Qal zr52 fun p4 => ?_
  refine Qs0 0 ty52 ?_
  refine Sq.nil ?_
  refine To.begin 1 rfl hrs ?_
  refine Wp.block ?_
  refine Qsr ?_
  refine Ql0 0 ty52 ?_
  obtain ⟨y2,hy2,h⟩:=Qbs h
  refine Qcl en87 (C_own_Installed hy2) ?_
  refine Qs0 4 ty52 ?_
  refine Qs0 3 ty4 ?_
  refine Qnx ?_
  refine Wp.ret ?_
  refine To.bret ?_
  obtain rfl:=some_in h
  exact To.rleave () 1 rfl rfl rfl
 ·clear hl; subst hr; simp only [Sum.elim_inl] at h
  refine To.eqL (L2 := [⟨some D, .dfr⟩, ⟨some pp0, .varX (({ x0 with f_l := [] } : T_ordered_List) : T_ordered_List) [(10, slv key00_0 x0.f_l.length cap00_0)]⟩, ⟨key00_0, .row 52 (x0.f_l : List T_api_Installed) cap00_0⟩, ⟨some p3, .var ((default : Bool) : Bool)⟩, ⟨some p2, .var ((default : T_api_Installed) : T_api_Installed)⟩, ⟨some p1, .var (x1 : Vector T_api_Value 4)⟩]) rfl ?_
  refine To.bnorm ?_
  refine To.next ?_
  refine Qsr ?_
  refine Qbd bu52 zr52 (default : T_api_Installed) .nil ?_
  refine Qs0 4 ty52 ?_
  refine Qs0 3 ty4 ?_
  refine Qnx ?_
  refine Wp.ret ?_
  refine To.bring 2 rfl ?_
  refine To.bring 2 rfl ?_
  obtain rfl:=some_in h
  refine To.endD 2 rfl rfl ?_
  exact To.endO2 () (.cons_cons _ (.cons_cons _ (List.nil_sublist _))) rfl rfl (rvo_c (i := 4) ty52 rfl rfl) (rvo_c (i := 3) ty4 rfl rfl)
 ·clear hl; subst hr; simp only [Sum.elim_inr] at h
  refine Wp.ret ?_
  refine To.eqL (L2 := [⟨some D, .dfr⟩, ⟨some pp0, .varX (({ x0 with f_l := [] } : T_ordered_List) : T_ordered_List) [(10, slv key00_0 x0.f_l.length cap00_0)]⟩, ⟨key00_0, .row 52 (x0.f_l : List T_api_Installed) cap00_0⟩, ⟨some p3, .var (q1.1 : Bool)⟩, ⟨some p2, .var (q1.2 : T_api_Installed)⟩, ⟨some p1, .var (x1 : Vector T_api_Value 4)⟩]) rfl ?_
  refine To.bret ?_
  refine To.ret ?_
  refine To.bring 2 rfl ?_
  refine To.bring 2 rfl ?_
  obtain rfl:=some_in h
  refine To.endD 2 rfl rfl ?_
  exact To.endO2 () (.cons_cons _ (.cons_cons _ (List.nil_sublist _))) rfl rfl (rvo_c (i := 4) ty52 rfl rfl) (rvo_c (i := 3) ty4 rfl rfl)
end Go.Proofs.YtmnggbjcnoffeaaGreat

