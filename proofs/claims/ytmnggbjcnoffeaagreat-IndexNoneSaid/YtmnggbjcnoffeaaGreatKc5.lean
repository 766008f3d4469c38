/-
  Each function meets its functional program. Conditions: none.
-/
import Derived.Test.YtmnggbjcnoffeaaGreatKc0
import Derived.Test.YtmnggbjcnoffeaaGreatKc3
namespace Go.Proofs.YtmnggbjcnoffeaaGreat
open Go Gv
set_option linter.unusedVariables false
set_option linter.unusedSimpArgs false
set_option maxRecDepth 100000
set_option maxHeartbeats 2000000
theorem C_trie_Trie_Put {hp : Pool Cell} {x0 : Ref} {x1 : T_api_Value} {x2 : Int} {x3 : Int}  {Q : Bool × (Pool Cell) → Prop} (h : L_trie_Trie_Put hp x0 x1 x2 x3 Q) : MeetsO Tryz.prog 244 [VP.of (x0), VP.of (x1), VP.of (x2), VP.of (x3)] ([] ++ Ents hp) (δ := {r : Bool × (Pool Cell) // Q r} × Unit) (fun d => VP.of (d.1.1.1)) (fun d => [] ++ Ents d.1.1.2) := by
 unfold L_trie_Trie_Put at h
 refine MeetsO.ofM Tryz.func244 rfl Tryz.ntmps244 rfl fun W A => ?_
 refine Qsr ?_
 refine Qbx fun p1 => ?_
 refine Qa ?_
 refine Qns ?_
 refine Qsr ?_
 refine Qm ?_
 refine Ql0 0 ty43 ?_
 refine Qm ?_
 obtain ⟨y1, hy1, h⟩ := Wm.of_bind h
 refine Sq.vS (HS.callQ 1 rfl en251 (C_trie_Trie_prefix hy1) ⟨look_t rfl, look_t rfl, look_t rfl, trivial⟩) rfl rfl rfl ?_
 refine Q1 r_not ?_
 refine Qnx ?_
 refine Wp.cond (look_t rfl) (fun hc => ?_) (fun hc => ?_)
 ·replace h := wcond_t hc h
  refine Qsr ?_
  refine Qa ?_
  refine Qnx ?_
  refine Wp.ret ?_
  refine To.ret ?_
  refine To.endM ?_
  exact To.endO1 (⟨⟨(false, hp), h⟩, ()⟩ : {r // _} × _) (.cons _ (.refl _)) rfl rfl (rvo_t rfl)
 ·replace h := wcond_f hc h
  refine Qkn ?_
  refine Wp.seq ?_
  refine Qsr ?_
  refine Qm ?_
  refine Ql0 0 ty43 ?_
  refine Qm ?_
  obtain ⟨y2, hy2, h⟩ := Wm.of_bind h
  refine Sq.vS (HS.callQ 1 rfl en247 (C_trie_Trie_find hy2) ⟨look_t rfl, look_t rfl, look_t rfl, trivial⟩) rfl rfl rfl ?_
  refine Qa ?_
  refine Qnr ?_
  refine Qm ?_
  refine Qv (r_refnnil Tryz.underlying331 (look_t rfl)) ?_
  refine Qm ?_
  refine Qg1 r_move ?_
  obtain ⟨o1, ho1, h⟩ := Wm.of_bind h
  refine Qg (fun hb => r_nck (look_ref (look_tc rfl hb) (condM_some ho1 hb))) ?_
  refine Qg1 (r_fa fd335_1) ?_
  obtain ⟨c1, hc1, h⟩ := Wm.of_bind h
  refine Qg (fun hb => r_loadM ((Lens.id T_trie_node).comp le_T_trie_node_used) (r := c1.f_used) ty4 (look_tc rfl hb) (pmem (n := 1) rfl (rds335 (condM_some hc1 hb)) rfl) rfl rfl) ?_
  refine Qan ?_
  refine Qnx ?_
  refine Wp.cond (look_t rfl) (fun hc => ?_) (fun hc => ?_)
  ·replace h := wcond_t hc h
   refine Qsr ?_
   refine Qa ?_
   refine Qnx ?_
   refine Wp.ret ?_
   refine To.ret ?_
   refine To.endM ?_
   exact To.endO1 (⟨⟨(false, hp), h⟩, ()⟩ : {r // _} × _) (.cons _ (.refl _)) rfl rfl (rvo_t rfl)
  ·replace h := wcond_f hc h
   refine Qkn ?_
   refine Wp.seq ?_
   refine Qsr ?_
   refine Qm ?_
   obtain ⟨o2, ho2, h⟩ := Wm.of_bind h
   refine Qv (r_nck (look_ref (look_t rfl) ho2)) ?_
   refine Q1 (r_fa fd337_1) ?_
   obtain ⟨c2, hc2, h⟩ := Wm.of_bind h
   refine Qv (r_loadM ((Lens.id T_trie_Trie).comp le_T_trie_Trie_root) (r := c2.f_root) ty331 (look_t rfl) (pmem (n := 1) rfl (rds337 hc2) rfl) rfl rfl) ?_
   refine Qv (r_refnil Tryz.underlying331 (look_t rfl)) ?_
   refine Qnx ?_
   refine Wp.condWh (γ := Unit) h (fun m1 g1 => [(0, VP.of (x0)), (1, VP.of (x1)), (2, VP.of (x2)), (3, VP.of (x3)), (5, VP.eq (.pointer (some ⟨p1, 0, none⟩))), (8, VP.of (false)), (9, VP.of (y2)), (16, VP.of (!y1)), (28, VP.of (y2.isSome && c1.f_used)), (33, VP.of (c2.f_root.isNone))]) (fun m1 g1 => (⟨some p1, .var (x1 : T_api_Value)⟩ :: Ents m1)) (look_t rfl) (fun m1 g1 h => ?_) (fun hm hc h => ?_) (fun hm hc h => ?_)
   ·refine To.next ?_
    refine Qsr ?_
    refine Qm ?_
    refine Qv (r_nck (look_ref (look_t rfl) ho2)) ?_
    refine Q1 (r_fa fd337_1) ?_
    obtain ⟨c3, hc3, h⟩ := Wm.of_bind h
    refine Qv (r_loadM ((Lens.id T_trie_Trie).comp le_T_trie_Trie_root) (r := c3.f_root) ty331 (look_t rfl) (pmem (n := 1) rfl (rds337 hc3) rfl) rfl rfl) ?_
    refine Qal zr331 fun p2 => ?_
    refine Qs0 0 ty331 ?_
    refine Qns ?_
    refine Qsr ?_
    refine Qm ?_
    refine Ql0 1 ty43 ?_
    refine Qm ?_
    obtain ⟨y3, hy3, h⟩ := Wm.of_bind h
    refine Qcl en250 (C_trie_Trie_path hy3) ?_
    refine Qnx ?_
    refine Wp.block ?_
    refine range_wpJ (σ := Ref × (Pool Cell)) (ε := Empty) (γ := Unit) (g0 := ()) (Ls := fun s2 g3 => (⟨some p2, .var (s2.1 : Ref)⟩ :: ⟨some p1, .var (x1 : T_api_Value)⟩ :: Ents s2.2)) (Lx := fun q2 g3 => Empty.elim q2) (hq := fun s2 => s2.2) (fun s2 g3 => [⟨some p2, .var (s2.1 : Ref)⟩, ⟨some p1, .var (x1 : T_api_Value)⟩]) (fun q2 => Empty.elim q2) rfl en255 rfl C_trie_Trie_path_fn1 h (fun _ _ => rfl) rfl rfl (fun vx2 s2 R h g3 W0' X' A0' l D rec hrs => ?_) (fun s2 h g3 D => ?_) (fun q2 h g3 D => ?_)
    ·refine Wp.reg ?_
     refine Qa ?_
     refine Sq.nil ?_
     refine To.begin 0 rfl hrs ?_
     refine Wp.block ?_
     refine Wp.seq ?_
     refine Qsr ?_
     refine Ql0 2 ty331 ?_
     refine Qm ?_
     obtain ⟨o3, ho3, h⟩ := Wm.of_bind h
     refine Qv (r_nck (look_ref (look_t rfl) ho3)) ?_
     refine Q1 (r_fa fd335_0) ?_
     obtain ⟨k1, hk1, h⟩ := Wm.of_bind h
     refine Qv (r_ia (k := k1) ar333 (look_t rfl) (look_t rfl) (idx_some hk1)) ?_
     obtain ⟨c4, hc4, h⟩ := Wm.of_bind h
     refine Qv (r_loadM (((Lens.id T_trie_node).comp le_T_trie_node_children).comp (Lens.idx (α := Ref) 2 k1 (idx_some hk1).1)) (r := vget c4.f_children k1) ty331 (look_t rfl) (pmem (n := 4) rfl (rds335 hc4) rfl) rfl rfl) ?_
     refine Qv (r_refnil Tryz.underlying331 (look_t rfl)) ?_
     refine Qnx ?_
     refine Wp.condWh (γ := Unit) h (fun m2 g4 => [(0, VP.of (x0)), (1, VP.of (x1)), (2, VP.of (x2)), (3, VP.of (x3)), (5, VP.eq (.pointer (some ⟨p1, 0, none⟩))), (8, VP.of (false)), (9, VP.of (y2)), (10, VP.eq (.pointer (some ⟨p2, 0, none⟩))), (11, VP.of (vx2)), (16, VP.of (!y1)), (28, VP.of (y2.isSome && c1.f_used)), (33, VP.of (c2.f_root.isNone)), (46, VP.clo 255 [VP.ptr y3.1, VP.ptr y3.2.1, VP.ptr y3.2.2]), (47, VP.of (vx2)), (54, VP.of ((vget c4.f_children k1).isNone))]) (fun m2 g4 => (⟨some l, .is (.loop { rec with state := .busy })⟩ :: ⟨some D, .dfr⟩ :: ⟨some p2, .var (s2.1 : Ref)⟩ :: ⟨some p1, .var (x1 : T_api_Value)⟩ :: Ents m2)) (look_t rfl) (fun m2 g4 h => ?_) (fun hm hc h => ?_) (fun hm hc h => ?_)
     ·refine To.next ?_
      refine Wp.reg ?_
      refine Ql0 2 ty331 ?_
      refine Qm ?_
      refine Qv (r_nck (look_ref (look_t rfl) ho3)) ?_
      refine Q1 (r_fa fd335_0) ?_
      obtain ⟨k2, hk2, h⟩ := Wm.of_bind h
      refine Qv (r_ia (k := k2) ar333 (look_t rfl) (look_t rfl) (idx_some hk2)) ?_
      obtain ⟨c5, hc5, h⟩ := Wm.of_bind h
      refine Qv (r_loadM (((Lens.id T_trie_node).comp le_T_trie_node_children).comp (Lens.idx (α := Ref) 2 k2 (idx_some hk2).1)) (r := vget c5.f_children k2) ty331 (look_t rfl) (pmem (n := 4) rfl (rds335 hc5) rfl) rfl rfl) ?_
      refine Qs0 2 ty331 ?_
      refine Sq.nil ?_
      refine To.bnorm ?_
      exact To.rndW h () 0 rfl
     ·refine Wp.reg ?_
      refine Ql0 2 ty331 ?_
      refine Qm ?_
      refine Qbd bu335 zr335 (default : T_trie_node) .nil ?_
      refine Sq.boxQ 4 rfl (Cell.c335 (default : T_trie_node)) (fun _ => rfl) (look_t rfl) rfl fun a1 ha1 => ?_
      replace h := Wm.mk_bind h a1 ha1
      refine Qv (r_nck (look_ref (look_t rfl) ho3)) ?_
      refine Q1 (r_fa fd335_0) ?_
      obtain ⟨k3, hk3, h⟩ := Wm.of_bind h
      refine Qv (r_ia (k := k3) ar333 (look_t rfl) (look_t rfl) (idx_some hk3)) ?_
      obtain ⟨c6, hc6, h⟩ := Wm.of_bind h
      obtain ⟨hp1, hhp1, h⟩ := Wm.of_bind h
      refine Sq.storeQ (k' := Cell.c335 ({ c6 with f_children := vset c6.f_children k3 (some a1.1 : Ref) } : T_trie_node)) 4 rfl (((Lens.id T_trie_node).comp le_T_trie_node_children).comp (Lens.idx (α := Ref) 2 k3 (idx_some hk3).1)) (v := ((some a1.1 : Ref) : Ref)) ty331 (look_t rfl) (look_t rfl) (rds335 hc6) rfl rfl rfl rfl (some_in hhp1) ?_
      refine Sq.nil ?_
      exact Qmt 0 (hm hp1 () h)
     ·refine Wp.skip ?_
      exact Qmt 0 (hm s2.2 () h)
    ·simp only [Sum.elim_inl] at h
     refine To.eqL (L2 := (⟨some D, .dfr⟩ :: ⟨some p2, .var (s2.1 : Ref)⟩ :: ⟨some p1, .var (x1 : T_api_Value)⟩ :: Ents s2.2)) rfl ?_
     refine To.bnorm ?_
     refine To.next ?_
     refine Wp.seq ?_
     obtain ⟨o6, ho6, h⟩ := Wm.of_bind h
     obtain ⟨c7, hc7, h⟩ := Wm.of_bind h
     obtain ⟨hp2, hhp2, h⟩ := Wm.of_bind h
     refine Wp.drawE mixed 9 (Array.mk (false :: false :: false :: false :: false :: false :: false :: false :: false :: [])) rfl rfl ?_
     refine AnyS.cut (γ := Unit) 3 (Array.mk (true :: true :: true :: true :: true :: true :: false :: false :: false :: [])) (fun gS0_19 => [(0, VP.of (x0)), (1, VP.of (x1)), (2, VP.of (x2)), (3, VP.of (x3)), (5, VP.eq (.pointer (some ⟨p1, 0, none⟩))), (8, VP.of (false)), (9, VP.of (y2)), (10, VP.eq (.pointer (some ⟨p2, 0, none⟩))), (16, VP.of (!y1)), (28, VP.of (y2.isSome && c1.f_used)), (33, VP.of (c2.f_root.isNone)), (39, VP.of (x0)), (40, VP.eq (.pointer (some ⟨o2, 0, none⟩))), (41, VP.eq (.pointer (some ⟨o2, 0 + 1, none⟩))), (42, VP.of (c3.f_root)), (43, VP.of (x0)), (44, VP.of (x1)), (45, VP.of (x2)), (46, VP.clo 255 [VP.ptr y3.1, VP.ptr y3.2.1, VP.ptr y3.2.2]), (68, VP.of (s2.1)), (69, VP.of (s2.1)), (70, VP.of (x3)), (71, VP.eq (.pointer (some ⟨o6, 0, none⟩))), (72, VP.eq (.pointer (some ⟨o6, 0 + 2, none⟩)))]) (fun gS0_19 => (⟨some D, .dfr⟩ :: ⟨some p2, .var (s2.1 : Ref)⟩ :: ⟨some p1, .var (x1 : T_api_Value)⟩ :: Ents hp2)) (fun gS0_19 => ?_) (fun S0_19 => ?_)
     ·refine AnyS.tail 6 rfl (by kernel_rfl) ?_
      obtain ⟨o7, ho7, h⟩ := Wm.of_bind h
      refine Qv (r_nck (look_ref (look_t rfl) ho7)) ?_
      refine Q1 (r_fa fd335_2) ?_
      obtain ⟨c8, hc8, h⟩ := Wm.of_bind h
      obtain ⟨hp3, hhp3, h⟩ := Wm.of_bind h
      refine Sq.storeQ (k' := Cell.c335 ({ c8 with f_id := x3 } : T_trie_node)) 3 rfl ((Lens.id T_trie_node).comp le_T_trie_node_id) (v := (x3 : Int)) ty3 (look_t rfl) (look_t rfl) (rds335 hc8) rfl rfl rfl rfl (some_in hhp3) ?_
      refine Qnr ?_
      refine Qa ?_
      refine Qnx ?_
      refine Wp.ret ?_
      refine To.endD 0 rfl rfl ?_
      exact To.endO1 (⟨⟨(true, hp3), h⟩, ()⟩ : {r // _} × _) (.cons _ (.cons _ (.cons _ (.refl _)))) rfl rfl (rvo_t rfl)
     refine AnyS.cut (γ := Unit) 4 (Array.mk (true :: false :: true :: true :: true :: true :: false :: false :: false :: [])) (fun gS0_18 => [(0, VP.of (x0)), (1, VP.of (x1)), (2, VP.of (x2)), (3, VP.of (x3)), (5, VP.eq (.pointer (some ⟨p1, 0, none⟩))), (8, VP.of (false)), (9, VP.of (y2)), (10, VP.eq (.pointer (some ⟨p2, 0, none⟩))), (16, VP.of (!y1)), (28, VP.of (y2.isSome && c1.f_used)), (33, VP.of (c2.f_root.isNone)), (39, VP.of (x0)), (40, VP.eq (.pointer (some ⟨o2, 0, none⟩))), (41, VP.eq (.pointer (some ⟨o2, 0 + 1, none⟩))), (42, VP.of (c3.f_root)), (43, VP.of (x0)), (44, VP.of (x1)), (45, VP.of (x2)), (46, VP.clo 255 [VP.ptr y3.1, VP.ptr y3.2.1, VP.ptr y3.2.2]), (68, VP.of (s2.1)), (70, VP.of (x3)), (71, VP.eq (.pointer (some ⟨o6, 0, none⟩))), (72, VP.eq (.pointer (some ⟨o6, 0 + 2, none⟩)))]) (fun gS0_18 => (⟨some D, .dfr⟩ :: ⟨some p2, .var (s2.1 : Ref)⟩ :: ⟨some p1, .var (x1 : T_api_Value)⟩ :: Ents hp2)) (fun gS0_18 => ?_) (fun S0_18 => ?_)
     ·clear h
      refine AnyS.step [1] (by kernel_rfl) rfl ⟨⟨_, rfl, ?_⟩, trivial⟩
      ·refine Ql0 1 ty331 ?_
       refine Sq.nil ?_
       exact To.any rfl (AnyS.le (.same rfl (.same rfl (.same rfl (.same rfl (.same rfl (.same rfl (.same rfl (.same rfl (.same rfl (.same rfl (.same rfl (.same rfl (.same rfl (.same rfl (.same rfl (.same rfl (.same rfl (.same rfl (.same rfl (.same rfl (.same rfl (.same rfl (.same rfl (.same rfl .nil)))))))))))))))))))))))) (S0_19 ()))
     refine AnyS.cut (γ := Unit) 4 (Array.mk (true :: true :: false :: true :: true :: true :: false :: false :: false :: [])) (fun gS0_17 => [(0, VP.of (x0)), (1, VP.of (x1)), (2, VP.of (x2)), (3, VP.of (x3)), (5, VP.eq (.pointer (some ⟨p1, 0, none⟩))), (8, VP.of (false)), (9, VP.of (y2)), (10, VP.eq (.pointer (some ⟨p2, 0, none⟩))), (16, VP.of (!y1)), (28, VP.of (y2.isSome && c1.f_used)), (33, VP.of (c2.f_root.isNone)), (39, VP.of (x0)), (40, VP.eq (.pointer (some ⟨o2, 0, none⟩))), (41, VP.eq (.pointer (some ⟨o2, 0 + 1, none⟩))), (42, VP.of (c3.f_root)), (43, VP.of (x0)), (44, VP.of (x1)), (45, VP.of (x2)), (46, VP.clo 255 [VP.ptr y3.1, VP.ptr y3.2.1, VP.ptr y3.2.2]), (68, VP.of (s2.1)), (69, VP.of (s2.1)), (71, VP.eq (.pointer (some ⟨o6, 0, none⟩))), (72, VP.eq (.pointer (some ⟨o6, 0 + 2, none⟩)))]) (fun gS0_17 => (⟨some D, .dfr⟩ :: ⟨some p2, .var (s2.1 : Ref)⟩ :: ⟨some p1, .var (x1 : T_api_Value)⟩ :: Ents hp2)) (fun gS0_17 => ?_) (fun S0_17 => ?_)
     ·clear h
      refine AnyS.step [2] (by kernel_rfl) rfl ⟨⟨_, rfl, ?_⟩, trivial⟩
      ·refine Qm ?_
       refine Sq.nil ?_
       exact To.any rfl (AnyS.le (.same rfl (.same rfl (.same rfl (.same rfl (.same rfl (.same rfl (.same rfl (.same rfl (.same rfl (.same rfl (.same rfl (.same rfl (.same rfl (.same rfl (.same rfl (.same rfl (.same rfl (.same rfl (.same rfl (.same rfl (.same rfl (.same rfl (.same rfl (.same rfl .nil)))))))))))))))))))))))) (S0_19 ()))
     refine AnyS.cut (γ := Unit) 4 (Array.mk (true :: true :: true :: true :: true :: false :: false :: false :: false :: [])) (fun gS0_16 => [(0, VP.of (x0)), (1, VP.of (x1)), (2, VP.of (x2)), (3, VP.of (x3)), (5, VP.eq (.pointer (some ⟨p1, 0, none⟩))), (8, VP.of (false)), (9, VP.of (y2)), (10, VP.eq (.pointer (some ⟨p2, 0, none⟩))), (16, VP.of (!y1)), (28, VP.of (y2.isSome && c1.f_used)), (33, VP.of (c2.f_root.isNone)), (39, VP.of (x0)), (40, VP.eq (.pointer (some ⟨o2, 0, none⟩))), (41, VP.eq (.pointer (some ⟨o2, 0 + 1, none⟩))), (42, VP.of (c3.f_root)), (43, VP.of (x0)), (44, VP.of (x1)), (45, VP.of (x2)), (46, VP.clo 255 [VP.ptr y3.1, VP.ptr y3.2.1, VP.ptr y3.2.2]), (68, VP.of (s2.1)), (69, VP.of (s2.1)), (70, VP.of (x3)), (71, VP.eq (.pointer (some ⟨o6, 0, none⟩))), (72, VP.eq (.pointer (some ⟨o6, 0 + 2, none⟩)))]) (fun gS0_16 => (⟨some D, .dfr⟩ :: ⟨some p2, .var (s2.1 : Ref)⟩ :: ⟨some p1, .var (x1 : T_api_Value)⟩ :: Ents s2.2)) (fun gS0_16 => ?_) (fun S0_16 => ?_)
     ·clear h
      refine AnyS.step [5] (by kernel_rfl) rfl ⟨⟨_, rfl, ?_⟩, trivial⟩
      ·refine Sq.storeQ (k' := Cell.c335 ({ c7 with f_used := true } : T_trie_node)) 3 rfl ((Lens.id T_trie_node).comp le_T_trie_node_used) (v := (true : Bool)) ty4 (look_t rfl) (look_bool true) (rds335 hc7) rfl rfl rfl rfl (some_in hhp2) ?_
       refine Sq.nil ?_
       exact To.any rfl (AnyS.le (.same rfl (.same rfl (.same rfl (.same rfl (.same rfl (.same rfl (.same rfl (.same rfl (.same rfl (.same rfl (.same rfl (.same rfl (.same rfl (.same rfl (.same rfl (.same rfl (.same rfl (.same rfl (.same rfl (.same rfl (.same rfl (.same rfl (.same rfl (.same rfl .nil)))))))))))))))))))))))) (S0_19 ()))
     refine AnyS.cut (γ := Unit) 5 (Array.mk (true :: false :: false :: true :: true :: true :: false :: false :: false :: [])) (fun gS0_15 => [(0, VP.of (x0)), (1, VP.of (x1)), (2, VP.of (x2)), (3, VP.of (x3)), (5, VP.eq (.pointer (some ⟨p1, 0, none⟩))), (8, VP.of (false)), (9, VP.of (y2)), (10, VP.eq (.pointer (some ⟨p2, 0, none⟩))), (16, VP.of (!y1)), (28, VP.of (y2.isSome && c1.f_used)), (33, VP.of (c2.f_root.isNone)), (39, VP.of (x0)), (40, VP.eq (.pointer (some ⟨o2, 0, none⟩))), (41, VP.eq (.pointer (some ⟨o2, 0 + 1, none⟩))), (42, VP.of (c3.f_root)), (43, VP.of (x0)), (44, VP.of (x1)), (45, VP.of (x2)), (46, VP.clo 255 [VP.ptr y3.1, VP.ptr y3.2.1, VP.ptr y3.2.2]), (68, VP.of (s2.1)), (71, VP.eq (.pointer (some ⟨o6, 0, none⟩))), (72, VP.eq (.pointer (some ⟨o6, 0 + 2, none⟩)))]) (fun gS0_15 => (⟨some D, .dfr⟩ :: ⟨some p2, .var (s2.1 : Ref)⟩ :: ⟨some p1, .var (x1 : T_api_Value)⟩ :: Ents hp2)) (fun gS0_15 => ?_) (fun S0_15 => ?_)
     ·clear h
      refine AnyS.step [1, 2] (by kernel_rfl) rfl ⟨⟨_, rfl, ?_⟩, ⟨_, rfl, ?_⟩, trivial⟩
      ·refine Ql0 1 ty331 ?_
       refine Sq.nil ?_
       exact To.any rfl (AnyS.le (.same rfl (.same rfl (.same rfl (.same rfl (.same rfl (.same rfl (.same rfl (.same rfl (.same rfl (.same rfl (.same rfl (.same rfl (.same rfl (.same rfl (.same rfl (.same rfl (.same rfl (.same rfl (.same rfl (.same rfl (.same rfl (.same rfl (.same rfl .nil))))))))))))))))))))))) (S0_17 ()))
      ·refine Qm ?_
       refine Sq.nil ?_
       exact To.any rfl (AnyS.le (.same rfl (.same rfl (.same rfl (.same rfl (.same rfl (.same rfl (.same rfl (.same rfl (.same rfl (.same rfl (.same rfl (.same rfl (.same rfl (.same rfl (.same rfl (.same rfl (.same rfl (.same rfl (.same rfl (.same rfl (.same rfl (.same rfl (.same rfl .nil))))))))))))))))))))))) (S0_18 ()))
     refine AnyS.cut (γ := Unit) 5 (Array.mk (true :: false :: true :: true :: true :: false :: false :: false :: false :: [])) (fun gS0_14 => [(0, VP.of (x0)), (1, VP.of (x1)), (2, VP.of (x2)), (3, VP.of (x3)), (5, VP.eq (.pointer (some ⟨p1, 0, none⟩))), (8, VP.of (false)), (9, VP.of (y2)), (10, VP.eq (.pointer (some ⟨p2, 0, none⟩))), (16, VP.of (!y1)), (28, VP.of (y2.isSome && c1.f_used)), (33, VP.of (c2.f_root.isNone)), (39, VP.of (x0)), (40, VP.eq (.pointer (some ⟨o2, 0, none⟩))), (41, VP.eq (.pointer (some ⟨o2, 0 + 1, none⟩))), (42, VP.of (c3.f_root)), (43, VP.of (x0)), (44, VP.of (x1)), (45, VP.of (x2)), (46, VP.clo 255 [VP.ptr y3.1, VP.ptr y3.2.1, VP.ptr y3.2.2]), (68, VP.of (s2.1)), (70, VP.of (x3)), (71, VP.eq (.pointer (some ⟨o6, 0, none⟩))), (72, VP.eq (.pointer (some ⟨o6, 0 + 2, none⟩)))]) (fun gS0_14 => (⟨some D, .dfr⟩ :: ⟨some p2, .var (s2.1 : Ref)⟩ :: ⟨some p1, .var (x1 : T_api_Value)⟩ :: Ents s2.2)) (fun gS0_14 => ?_) (fun S0_14 => ?_)
     ·clear h
      refine AnyS.step [1, 5] (by kernel_rfl) rfl ⟨⟨_, rfl, ?_⟩, ⟨_, rfl, ?_⟩, trivial⟩
      ·refine Ql0 1 ty331 ?_
       refine Sq.nil ?_
       exact To.any rfl (AnyS.le (.same rfl (.same rfl (.same rfl (.same rfl (.same rfl (.same rfl (.same rfl (.same rfl (.same rfl (.same rfl (.same rfl (.same rfl (.same rfl (.same rfl (.same rfl (.same rfl (.same rfl (.same rfl (.same rfl (.same rfl (.same rfl (.same rfl (.same rfl (.same rfl .nil)))))))))))))))))))))))) (S0_16 ()))
      ·refine Sq.storeQ (k' := Cell.c335 ({ c7 with f_used := true } : T_trie_node)) 3 rfl ((Lens.id T_trie_node).comp le_T_trie_node_used) (v := (true : Bool)) ty4 (look_t rfl) (look_bool true) (rds335 hc7) rfl rfl rfl rfl (some_in hhp2) ?_
       refine Sq.nil ?_
       exact To.any rfl (AnyS.le (.same rfl (.same rfl (.same rfl (.same rfl (.same rfl (.same rfl (.same rfl (.same rfl (.same rfl (.same rfl (.same rfl (.same rfl (.same rfl (.same rfl (.same rfl (.same rfl (.same rfl (.same rfl (.same rfl (.same rfl (.same rfl (.same rfl (.same rfl .nil))))))))))))))))))))))) (S0_18 ()))
     refine AnyS.cut (γ := Unit) 5 (Array.mk (true :: true :: false :: true :: true :: false :: false :: false :: false :: [])) (fun gS0_13 => [(0, VP.of (x0)), (1, VP.of (x1)), (2, VP.of (x2)), (3, VP.of (x3)), (5, VP.eq (.pointer (some ⟨p1, 0, none⟩))), (8, VP.of (false)), (9, VP.of (y2)), (10, VP.eq (.pointer (some ⟨p2, 0, none⟩))), (16, VP.of (!y1)), (28, VP.of (y2.isSome && c1.f_used)), (33, VP.of (c2.f_root.isNone)), (39, VP.of (x0)), (40, VP.eq (.pointer (some ⟨o2, 0, none⟩))), (41, VP.eq (.pointer (some ⟨o2, 0 + 1, none⟩))), (42, VP.of (c3.f_root)), (43, VP.of (x0)), (44, VP.of (x1)), (45, VP.of (x2)), (46, VP.clo 255 [VP.ptr y3.1, VP.ptr y3.2.1, VP.ptr y3.2.2]), (68, VP.of (s2.1)), (69, VP.of (s2.1)), (71, VP.eq (.pointer (some ⟨o6, 0, none⟩))), (72, VP.eq (.pointer (some ⟨o6, 0 + 2, none⟩)))]) (fun gS0_13 => (⟨some D, .dfr⟩ :: ⟨some p2, .var (s2.1 : Ref)⟩ :: ⟨some p1, .var (x1 : T_api_Value)⟩ :: Ents s2.2)) (fun gS0_13 => ?_) (fun S0_13 => ?_)
     ·clear h
      refine AnyS.step [2, 5] (by kernel_rfl) rfl ⟨⟨_, rfl, ?_⟩, ⟨_, rfl, ?_⟩, trivial⟩
      ·refine Qm ?_
       refine Sq.nil ?_
       exact To.any rfl (AnyS.le (.same rfl (.same rfl (.same rfl (.same rfl (.same rfl (.same rfl (.same rfl (.same rfl (.same rfl (.same rfl (.same rfl (.same rfl (.same rfl (.same rfl (.same rfl (.same rfl (.same rfl (.same rfl (.same rfl (.same rfl (.same rfl (.same rfl (.same rfl (.same rfl .nil)))))))))))))))))))))))) (S0_16 ()))
      ·refine Sq.storeQ (k' := Cell.c335 ({ c7 with f_used := true } : T_trie_node)) 3 rfl ((Lens.id T_trie_node).comp le_T_trie_node_used) (v := (true : Bool)) ty4 (look_t rfl) (look_bool true) (rds335 hc7) rfl rfl rfl rfl (some_in hhp2) ?_
       refine Sq.nil ?_
       exact To.any rfl (AnyS.le (.same rfl (.same rfl (.same rfl (.same rfl (.same rfl (.same rfl (.same rfl (.same rfl (.same rfl (.same rfl (.same rfl (.same rfl (.same rfl (.same rfl (.same rfl (.same rfl (.same rfl (.same rfl (.same rfl (.same rfl (.same rfl (.same rfl (.same rfl .nil))))))))))))))))))))))) (S0_17 ()))
     refine AnyS.cut (γ := Unit) 5 (Array.mk (true :: true :: true :: true :: false :: false :: false :: false :: false :: [])) (fun gS0_12 => [(0, VP.of (x0)), (1, VP.of (x1)), (2, VP.of (x2)), (3, VP.of (x3)), (5, VP.eq (.pointer (some ⟨p1, 0, none⟩))), (8, VP.of (false)), (9, VP.of (y2)), (10, VP.eq (.pointer (some ⟨p2, 0, none⟩))), (16, VP.of (!y1)), (28, VP.of (y2.isSome && c1.f_used)), (33, VP.of (c2.f_root.isNone)), (39, VP.of (x0)), (40, VP.eq (.pointer (some ⟨o2, 0, none⟩))), (41, VP.eq (.pointer (some ⟨o2, 0 + 1, none⟩))), (42, VP.of (c3.f_root)), (43, VP.of (x0)), (44, VP.of (x1)), (45, VP.of (x2)), (46, VP.clo 255 [VP.ptr y3.1, VP.ptr y3.2.1, VP.ptr y3.2.2]), (68, VP.of (s2.1)), (69, VP.of (s2.1)), (70, VP.of (x3)), (71, VP.eq (.pointer (some ⟨o6, 0, none⟩)))]) (fun gS0_12 => (⟨some D, .dfr⟩ :: ⟨some p2, .var (s2.1 : Ref)⟩ :: ⟨some p1, .var (x1 : T_api_Value)⟩ :: Ents s2.2)) (fun gS0_12 => ?_) (fun S0_12 => ?_)
     ·clear h
      refine AnyS.step [4] (by kernel_rfl) rfl ⟨⟨_, rfl, ?_⟩, trivial⟩
      ·refine Q1 (r_fa fd335_1) ?_
       refine Sq.nil ?_
       exact To.any rfl (AnyS.le (.same rfl (.same rfl (.same rfl (.same rfl (.same rfl (.same rfl (.same rfl (.same rfl (.same rfl (.same rfl (.same rfl (.same rfl (.same rfl (.same rfl (.same rfl (.same rfl (.same rfl (.same rfl (.same rfl (.same rfl (.same rfl (.same rfl (.same rfl (.same rfl .nil)))))))))))))))))))))))) (S0_16 ()))
     refine AnyS.cut (γ := Unit) 6 (Array.mk (true :: false :: false :: true :: true :: false :: false :: false :: false :: [])) (fun gS0_11 => [(0, VP.of (x0)), (1, VP.of (x1)), (2, VP.of (x2)), (3, VP.of (x3)), (5, VP.eq (.pointer (some ⟨p1, 0, none⟩))), (8, VP.of (false)), (9, VP.of (y2)), (10, VP.eq (.pointer (some ⟨p2, 0, none⟩))), (16, VP.of (!y1)), (28, VP.of (y2.isSome && c1.f_used)), (33, VP.of (c2.f_root.isNone)), (39, VP.of (x0)), (40, VP.eq (.pointer (some ⟨o2, 0, none⟩))), (41, VP.eq (.pointer (some ⟨o2, 0 + 1, none⟩))), (42, VP.of (c3.f_root)), (43, VP.of (x0)), (44, VP.of (x1)), (45, VP.of (x2)), (46, VP.clo 255 [VP.ptr y3.1, VP.ptr y3.2.1, VP.ptr y3.2.2]), (68, VP.of (s2.1)), (71, VP.eq (.pointer (some ⟨o6, 0, none⟩))), (72, VP.eq (.pointer (some ⟨o6, 0 + 2, none⟩)))]) (fun gS0_11 => (⟨some D, .dfr⟩ :: ⟨some p2, .var (s2.1 : Ref)⟩ :: ⟨some p1, .var (x1 : T_api_Value)⟩ :: Ents s2.2)) (fun gS0_11 => ?_) (fun S0_11 => ?_)
     ·clear h
      refine AnyS.step [1, 2, 5] (by kernel_rfl) rfl ⟨⟨_, rfl, ?_⟩, ⟨_, rfl, ?_⟩, ⟨_, rfl, ?_⟩, trivial⟩
      ·refine Ql0 1 ty331 ?_
       refine Sq.nil ?_
       exact To.any rfl (AnyS.le (.same rfl (.same rfl (.same rfl (.same rfl (.same rfl (.same rfl (.same rfl (.same rfl (.same rfl (.same rfl (.same rfl (.same rfl (.same rfl (.same rfl (.same rfl (.same rfl (.same rfl (.same rfl (.same rfl (.same rfl (.same rfl (.same rfl (.same rfl .nil))))))))))))))))))))))) (S0_13 ()))
      ·refine Qm ?_
       refine Sq.nil ?_
       exact To.any rfl (AnyS.le (.same rfl (.same rfl (.same rfl (.same rfl (.same rfl (.same rfl (.same rfl (.same rfl (.same rfl (.same rfl (.same rfl (.same rfl (.same rfl (.same rfl (.same rfl (.same rfl (.same rfl (.same rfl (.same rfl (.same rfl (.same rfl (.same rfl (.same rfl .nil))))))))))))))))))))))) (S0_14 ()))
      ·refine Sq.storeQ (k' := Cell.c335 ({ c7 with f_used := true } : T_trie_node)) 3 rfl ((Lens.id T_trie_node).comp le_T_trie_node_used) (v := (true : Bool)) ty4 (look_t rfl) (look_bool true) (rds335 hc7) rfl rfl rfl rfl (some_in hhp2) ?_
       refine Sq.nil ?_
       exact To.any rfl (AnyS.le (.same rfl (.same rfl (.same rfl (.same rfl (.same rfl (.same rfl (.same rfl (.same rfl (.same rfl (.same rfl (.same rfl (.same rfl (.same rfl (.same rfl (.same rfl (.same rfl (.same rfl (.same rfl (.same rfl (.same rfl (.same rfl (.same rfl .nil)))))))))))))))))))))) (S0_15 ()))
     refine AnyS.cut (γ := Unit) 6 (Array.mk (true :: false :: true :: true :: false :: false :: false :: false :: false :: [])) (fun gS0_10 => [(0, VP.of (x0)), (1, VP.of (x1)), (2, VP.of (x2)), (3, VP.of (x3)), (5, VP.eq (.pointer (some ⟨p1, 0, none⟩))), (8, VP.of (false)), (9, VP.of (y2)), (10, VP.eq (.pointer (some ⟨p2, 0, none⟩))), (16, VP.of (!y1)), (28, VP.of (y2.isSome && c1.f_used)), (33, VP.of (c2.f_root.isNone)), (39, VP.of (x0)), (40, VP.eq (.pointer (some ⟨o2, 0, none⟩))), (41, VP.eq (.pointer (some ⟨o2, 0 + 1, none⟩))), (42, VP.of (c3.f_root)), (43, VP.of (x0)), (44, VP.of (x1)), (45, VP.of (x2)), (46, VP.clo 255 [VP.ptr y3.1, VP.ptr y3.2.1, VP.ptr y3.2.2]), (68, VP.of (s2.1)), (70, VP.of (x3)), (71, VP.eq (.pointer (some ⟨o6, 0, none⟩)))]) (fun gS0_10 => (⟨some D, .dfr⟩ :: ⟨some p2, .var (s2.1 : Ref)⟩ :: ⟨some p1, .var (x1 : T_api_Value)⟩ :: Ents s2.2)) (fun gS0_10 => ?_) (fun S0_10 => ?_)
     ·clear h
      refine AnyS.step [1, 4] (by kernel_rfl) rfl ⟨⟨_, rfl, ?_⟩, ⟨_, rfl, ?_⟩, trivial⟩
      ·refine Ql0 1 ty331 ?_
       refine Sq.nil ?_
       exact To.any rfl (AnyS.le (.same rfl (.same rfl (.same rfl (.same rfl (.same rfl (.same rfl (.same rfl (.same rfl (.same rfl (.same rfl (.same rfl (.same rfl (.same rfl (.same rfl (.same rfl (.same rfl (.same rfl (.same rfl (.same rfl (.same rfl (.same rfl (.same rfl (.same rfl .nil))))))))))))))))))))))) (S0_12 ()))
      ·refine Q1 (r_fa fd335_1) ?_
       refine Sq.nil ?_
       exact To.any rfl (AnyS.le (.same rfl (.same rfl (.same rfl (.same rfl (.same rfl (.same rfl (.same rfl (.same rfl (.same rfl (.same rfl (.same rfl (.same rfl (.same rfl (.same rfl (.same rfl (.same rfl (.same rfl (.same rfl (.same rfl (.same rfl (.same rfl (.same rfl (.same rfl .nil))))))))))))))))))))))) (S0_14 ()))
     refine AnyS.cut (γ := Unit) 6 (Array.mk (true :: true :: false :: true :: false :: false :: false :: false :: false :: [])) (fun gS0_9 => [(0, VP.of (x0)), (1, VP.of (x1)), (2, VP.of (x2)), (3, VP.of (x3)), (5, VP.eq (.pointer (some ⟨p1, 0, none⟩))), (8, VP.of (false)), (9, VP.of (y2)), (10, VP.eq (.pointer (some ⟨p2, 0, none⟩))), (16, VP.of (!y1)), (28, VP.of (y2.isSome && c1.f_used)), (33, VP.of (c2.f_root.isNone)), (39, VP.of (x0)), (40, VP.eq (.pointer (some ⟨o2, 0, none⟩))), (41, VP.eq (.pointer (some ⟨o2, 0 + 1, none⟩))), (42, VP.of (c3.f_root)), (43, VP.of (x0)), (44, VP.of (x1)), (45, VP.of (x2)), (46, VP.clo 255 [VP.ptr y3.1, VP.ptr y3.2.1, VP.ptr y3.2.2]), (68, VP.of (s2.1)), (69, VP.of (s2.1)), (71, VP.eq (.pointer (some ⟨o6, 0, none⟩)))]) (fun gS0_9 => (⟨some D, .dfr⟩ :: ⟨some p2, .var (s2.1 : Ref)⟩ :: ⟨some p1, .var (x1 : T_api_Value)⟩ :: Ents s2.2)) (fun gS0_9 => ?_) (fun S0_9 => ?_)
     ·clear h
      refine AnyS.step [2, 4] (by kernel_rfl) rfl ⟨⟨_, rfl, ?_⟩, ⟨_, rfl, ?_⟩, trivial⟩
      ·refine Qm ?_
       refine Sq.nil ?_
       exact To.any rfl (AnyS.le (.same rfl (.same rfl (.same rfl (.same rfl (.same rfl (.same rfl (.same rfl (.same rfl (.same rfl (.same rfl (.same rfl (.same rfl (.same rfl (.same rfl (.same rfl (.same rfl (.same rfl (.same rfl (.same rfl (.same rfl (.same rfl (.same rfl (.same rfl .nil))))))))))))))))))))))) (S0_12 ()))
      ·refine Q1 (r_fa fd335_1) ?_
       refine Sq.nil ?_
       exact To.any rfl (AnyS.le (.same rfl (.same rfl (.same rfl (.same rfl (.same rfl (.same rfl (.same rfl (.same rfl (.same rfl (.same rfl (.same rfl (.same rfl (.same rfl (.same rfl (.same rfl (.same rfl (.same rfl (.same rfl (.same rfl (.same rfl (.same rfl (.same rfl (.same rfl .nil))))))))))))))))))))))) (S0_13 ()))
     refine AnyS.cut (γ := Unit) 6 (Array.mk (true :: true :: true :: false :: false :: false :: false :: false :: false :: [])) (fun gS0_8 => [(0, VP.of (x0)), (1, VP.of (x1)), (2, VP.of (x2)), (3, VP.of (x3)), (5, VP.eq (.pointer (some ⟨p1, 0, none⟩))), (8, VP.of (false)), (9, VP.of (y2)), (10, VP.eq (.pointer (some ⟨p2, 0, none⟩))), (16, VP.of (!y1)), (28, VP.of (y2.isSome && c1.f_used)), (33, VP.of (c2.f_root.isNone)), (39, VP.of (x0)), (40, VP.eq (.pointer (some ⟨o2, 0, none⟩))), (41, VP.eq (.pointer (some ⟨o2, 0 + 1, none⟩))), (42, VP.of (c3.f_root)), (43, VP.of (x0)), (44, VP.of (x1)), (45, VP.of (x2)), (46, VP.clo 255 [VP.ptr y3.1, VP.ptr y3.2.1, VP.ptr y3.2.2]), (68, VP.of (s2.1)), (69, VP.of (s2.1)), (70, VP.of (x3))]) (fun gS0_8 => (⟨some D, .dfr⟩ :: ⟨some p2, .var (s2.1 : Ref)⟩ :: ⟨some p1, .var (x1 : T_api_Value)⟩ :: Ents s2.2)) (fun gS0_8 => ?_) (fun S0_8 => ?_)
     ·clear h
      refine AnyS.step [3] (by kernel_rfl) rfl ⟨⟨_, rfl, ?_⟩, trivial⟩
      ·refine Qv (r_nck (look_ref (look_t rfl) ho6)) ?_
       refine Sq.nil ?_
       exact To.any rfl (AnyS.le (.same rfl (.same rfl (.same rfl (.same rfl (.same rfl (.same rfl (.same rfl (.same rfl (.same rfl (.same rfl (.same rfl (.same rfl (.same rfl (.same rfl (.same rfl (.same rfl (.same rfl (.same rfl (.same rfl (.same rfl (.same rfl (.same rfl (.same rfl .nil))))))))))))))))))))))) (S0_12 ()))
     refine AnyS.cut (γ := Unit) 7 (Array.mk (false :: true :: true :: false :: false :: false :: false :: false :: false :: [])) (fun gS0_7 => [(0, VP.of (x0)), (1, VP.of (x1)), (2, VP.of (x2)), (3, VP.of (x3)), (5, VP.eq (.pointer (some ⟨p1, 0, none⟩))), (8, VP.of (false)), (9, VP.of (y2)), (10, VP.eq (.pointer (some ⟨p2, 0, none⟩))), (16, VP.of (!y1)), (28, VP.of (y2.isSome && c1.f_used)), (33, VP.of (c2.f_root.isNone)), (39, VP.of (x0)), (40, VP.eq (.pointer (some ⟨o2, 0, none⟩))), (41, VP.eq (.pointer (some ⟨o2, 0 + 1, none⟩))), (42, VP.of (c3.f_root)), (43, VP.of (x0)), (44, VP.of (x1)), (45, VP.of (x2)), (46, VP.clo 255 [VP.ptr y3.1, VP.ptr y3.2.1, VP.ptr y3.2.2]), (69, VP.of (s2.1)), (70, VP.of (x3))]) (fun gS0_7 => (⟨some D, .dfr⟩ :: ⟨some p2, .var (s2.1 : Ref)⟩ :: ⟨some p1, .var (x1 : T_api_Value)⟩ :: Ents s2.2)) (fun gS0_7 => ?_) (fun S0_7 => ?_)
     ·clear h
      refine AnyS.step [0] (by kernel_rfl) rfl ⟨⟨_, rfl, ?_⟩, trivial⟩
      ·refine Ql0 1 ty331 ?_
       refine Sq.nil ?_
       exact To.any rfl (AnyS.le (.same rfl (.same rfl (.same rfl (.same rfl (.same rfl (.same rfl (.same rfl (.same rfl (.same rfl (.same rfl (.same rfl (.same rfl (.same rfl (.same rfl (.same rfl (.same rfl (.same rfl (.same rfl (.same rfl (.same rfl (.same rfl (.same rfl .nil)))))))))))))))))))))) (S0_8 ()))
     refine AnyS.cut (γ := Unit) 7 (Array.mk (true :: false :: false :: true :: false :: false :: false :: false :: false :: [])) (fun gS0_6 => [(0, VP.of (x0)), (1, VP.of (x1)), (2, VP.of (x2)), (3, VP.of (x3)), (5, VP.eq (.pointer (some ⟨p1, 0, none⟩))), (8, VP.of (false)), (9, VP.of (y2)), (10, VP.eq (.pointer (some ⟨p2, 0, none⟩))), (16, VP.of (!y1)), (28, VP.of (y2.isSome && c1.f_used)), (33, VP.of (c2.f_root.isNone)), (39, VP.of (x0)), (40, VP.eq (.pointer (some ⟨o2, 0, none⟩))), (41, VP.eq (.pointer (some ⟨o2, 0 + 1, none⟩))), (42, VP.of (c3.f_root)), (43, VP.of (x0)), (44, VP.of (x1)), (45, VP.of (x2)), (46, VP.clo 255 [VP.ptr y3.1, VP.ptr y3.2.1, VP.ptr y3.2.2]), (68, VP.of (s2.1)), (71, VP.eq (.pointer (some ⟨o6, 0, none⟩)))]) (fun gS0_6 => (⟨some D, .dfr⟩ :: ⟨some p2, .var (s2.1 : Ref)⟩ :: ⟨some p1, .var (x1 : T_api_Value)⟩ :: Ents s2.2)) (fun gS0_6 => ?_) (fun S0_6 => ?_)
     ·clear h
      refine AnyS.step [1, 2, 4] (by kernel_rfl) rfl ⟨⟨_, rfl, ?_⟩, ⟨_, rfl, ?_⟩, ⟨_, rfl, ?_⟩, trivial⟩
      ·refine Ql0 1 ty331 ?_
       refine Sq.nil ?_
       exact To.any rfl (AnyS.le (.same rfl (.same rfl (.same rfl (.same rfl (.same rfl (.same rfl (.same rfl (.same rfl (.same rfl (.same rfl (.same rfl (.same rfl (.same rfl (.same rfl (.same rfl (.same rfl (.same rfl (.same rfl (.same rfl (.same rfl (.same rfl (.same rfl .nil)))))))))))))))))))))) (S0_9 ()))
      ·refine Qm ?_
       refine Sq.nil ?_
       exact To.any rfl (AnyS.le (.same rfl (.same rfl (.same rfl (.same rfl (.same rfl (.same rfl (.same rfl (.same rfl (.same rfl (.same rfl (.same rfl (.same rfl (.same rfl (.same rfl (.same rfl (.same rfl (.same rfl (.same rfl (.same rfl (.same rfl (.same rfl (.same rfl .nil)))))))))))))))))))))) (S0_10 ()))
      ·refine Q1 (r_fa fd335_1) ?_
       refine Sq.nil ?_
       exact To.any rfl (AnyS.le (.same rfl (.same rfl (.same rfl (.same rfl (.same rfl (.same rfl (.same rfl (.same rfl (.same rfl (.same rfl (.same rfl (.same rfl (.same rfl (.same rfl (.same rfl (.same rfl (.same rfl (.same rfl (.same rfl (.same rfl (.same rfl (.same rfl .nil)))))))))))))))))))))) (S0_11 ()))
     refine AnyS.cut (γ := Unit) 7 (Array.mk (true :: false :: true :: false :: false :: false :: false :: false :: false :: [])) (fun gS0_5 => [(0, VP.of (x0)), (1, VP.of (x1)), (2, VP.of (x2)), (3, VP.of (x3)), (5, VP.eq (.pointer (some ⟨p1, 0, none⟩))), (8, VP.of (false)), (9, VP.of (y2)), (10, VP.eq (.pointer (some ⟨p2, 0, none⟩))), (16, VP.of (!y1)), (28, VP.of (y2.isSome && c1.f_used)), (33, VP.of (c2.f_root.isNone)), (39, VP.of (x0)), (40, VP.eq (.pointer (some ⟨o2, 0, none⟩))), (41, VP.eq (.pointer (some ⟨o2, 0 + 1, none⟩))), (42, VP.of (c3.f_root)), (43, VP.of (x0)), (44, VP.of (x1)), (45, VP.of (x2)), (46, VP.clo 255 [VP.ptr y3.1, VP.ptr y3.2.1, VP.ptr y3.2.2]), (68, VP.of (s2.1)), (70, VP.of (x3))]) (fun gS0_5 => (⟨some D, .dfr⟩ :: ⟨some p2, .var (s2.1 : Ref)⟩ :: ⟨some p1, .var (x1 : T_api_Value)⟩ :: Ents s2.2)) (fun gS0_5 => ?_) (fun S0_5 => ?_)
     ·clear h
      refine AnyS.step [1, 3] (by kernel_rfl) rfl ⟨⟨_, rfl, ?_⟩, ⟨_, rfl, ?_⟩, trivial⟩
      ·refine Ql0 1 ty331 ?_
       refine Sq.nil ?_
       exact To.any rfl (AnyS.le (.same rfl (.same rfl (.same rfl (.same rfl (.same rfl (.same rfl (.same rfl (.same rfl (.same rfl (.same rfl (.same rfl (.same rfl (.same rfl (.same rfl (.same rfl (.same rfl (.same rfl (.same rfl (.same rfl (.same rfl (.same rfl (.same rfl .nil)))))))))))))))))))))) (S0_8 ()))
      ·refine Qv (r_nck (look_ref (look_t rfl) ho6)) ?_
       refine Sq.nil ?_
       exact To.any rfl (AnyS.le (.same rfl (.same rfl (.same rfl (.same rfl (.same rfl (.same rfl (.same rfl (.same rfl (.same rfl (.same rfl (.same rfl (.same rfl (.same rfl (.same rfl (.same rfl (.same rfl (.same rfl (.same rfl (.same rfl (.same rfl (.same rfl (.same rfl .nil)))))))))))))))))))))) (S0_10 ()))
     refine AnyS.cut (γ := Unit) 7 (Array.mk (true :: true :: false :: false :: false :: false :: false :: false :: false :: [])) (fun gS0_4 => [(0, VP.of (x0)), (1, VP.of (x1)), (2, VP.of (x2)), (3, VP.of (x3)), (5, VP.eq (.pointer (some ⟨p1, 0, none⟩))), (8, VP.of (false)), (9, VP.of (y2)), (10, VP.eq (.pointer (some ⟨p2, 0, none⟩))), (16, VP.of (!y1)), (28, VP.of (y2.isSome && c1.f_used)), (33, VP.of (c2.f_root.isNone)), (39, VP.of (x0)), (40, VP.eq (.pointer (some ⟨o2, 0, none⟩))), (41, VP.eq (.pointer (some ⟨o2, 0 + 1, none⟩))), (42, VP.of (c3.f_root)), (43, VP.of (x0)), (44, VP.of (x1)), (45, VP.of (x2)), (46, VP.clo 255 [VP.ptr y3.1, VP.ptr y3.2.1, VP.ptr y3.2.2]), (68, VP.of (s2.1)), (69, VP.of (s2.1))]) (fun gS0_4 => (⟨some D, .dfr⟩ :: ⟨some p2, .var (s2.1 : Ref)⟩ :: ⟨some p1, .var (x1 : T_api_Value)⟩ :: Ents s2.2)) (fun gS0_4 => ?_) (fun S0_4 => ?_)
     ·clear h
      refine AnyS.step [2, 3] (by kernel_rfl) rfl ⟨⟨_, rfl, ?_⟩, ⟨_, rfl, ?_⟩, trivial⟩
      ·refine Qm ?_
       refine Sq.nil ?_
       exact To.any rfl (AnyS.le (.same rfl (.same rfl (.same rfl (.same rfl (.same rfl (.same rfl (.same rfl (.same rfl (.same rfl (.same rfl (.same rfl (.same rfl (.same rfl (.same rfl (.same rfl (.same rfl (.same rfl (.same rfl (.same rfl (.same rfl (.same rfl (.same rfl .nil)))))))))))))))))))))) (S0_8 ()))
      ·refine Qv (r_nck (look_ref (look_t rfl) ho6)) ?_
       refine Sq.nil ?_
       exact To.any rfl (AnyS.le (.same rfl (.same rfl (.same rfl (.same rfl (.same rfl (.same rfl (.same rfl (.same rfl (.same rfl (.same rfl (.same rfl (.same rfl (.same rfl (.same rfl (.same rfl (.same rfl (.same rfl (.same rfl (.same rfl (.same rfl (.same rfl (.same rfl .nil)))))))))))))))))))))) (S0_9 ()))
     refine AnyS.cut (γ := Unit) 8 (Array.mk (false :: false :: true :: false :: false :: false :: false :: false :: false :: [])) (fun gS0_3 => [(0, VP.of (x0)), (1, VP.of (x1)), (2, VP.of (x2)), (3, VP.of (x3)), (5, VP.eq (.pointer (some ⟨p1, 0, none⟩))), (8, VP.of (false)), (9, VP.of (y2)), (10, VP.eq (.pointer (some ⟨p2, 0, none⟩))), (16, VP.of (!y1)), (28, VP.of (y2.isSome && c1.f_used)), (33, VP.of (c2.f_root.isNone)), (39, VP.of (x0)), (40, VP.eq (.pointer (some ⟨o2, 0, none⟩))), (41, VP.eq (.pointer (some ⟨o2, 0 + 1, none⟩))), (42, VP.of (c3.f_root)), (43, VP.of (x0)), (44, VP.of (x1)), (45, VP.of (x2)), (46, VP.clo 255 [VP.ptr y3.1, VP.ptr y3.2.1, VP.ptr y3.2.2]), (70, VP.of (x3))]) (fun gS0_3 => (⟨some D, .dfr⟩ :: ⟨some p2, .var (s2.1 : Ref)⟩ :: ⟨some p1, .var (x1 : T_api_Value)⟩ :: Ents s2.2)) (fun gS0_3 => ?_) (fun S0_3 => ?_)
     ·clear h
      refine AnyS.step [0, 1] (by kernel_rfl) rfl ⟨⟨_, rfl, ?_⟩, ⟨_, rfl, ?_⟩, trivial⟩
      ·refine Ql0 1 ty331 ?_
       refine Sq.nil ?_
       exact To.any rfl (AnyS.le (.same rfl (.same rfl (.same rfl (.same rfl (.same rfl (.same rfl (.same rfl (.same rfl (.same rfl (.same rfl (.same rfl (.same rfl (.same rfl (.same rfl (.same rfl (.same rfl (.same rfl (.same rfl (.same rfl (.same rfl (.same rfl .nil))))))))))))))))))))) (S0_5 ()))
      ·refine Ql0 1 ty331 ?_
       refine Sq.nil ?_
       exact To.any rfl (AnyS.le (.same rfl (.same rfl (.same rfl (.same rfl (.same rfl (.same rfl (.same rfl (.same rfl (.same rfl (.same rfl (.same rfl (.same rfl (.same rfl (.same rfl (.same rfl (.same rfl (.same rfl (.same rfl (.same rfl (.same rfl (.same rfl .nil))))))))))))))))))))) (S0_7 ()))
     refine AnyS.cut (γ := Unit) 8 (Array.mk (false :: true :: false :: false :: false :: false :: false :: false :: false :: [])) (fun gS0_2 => [(0, VP.of (x0)), (1, VP.of (x1)), (2, VP.of (x2)), (3, VP.of (x3)), (5, VP.eq (.pointer (some ⟨p1, 0, none⟩))), (8, VP.of (false)), (9, VP.of (y2)), (10, VP.eq (.pointer (some ⟨p2, 0, none⟩))), (16, VP.of (!y1)), (28, VP.of (y2.isSome && c1.f_used)), (33, VP.of (c2.f_root.isNone)), (39, VP.of (x0)), (40, VP.eq (.pointer (some ⟨o2, 0, none⟩))), (41, VP.eq (.pointer (some ⟨o2, 0 + 1, none⟩))), (42, VP.of (c3.f_root)), (43, VP.of (x0)), (44, VP.of (x1)), (45, VP.of (x2)), (46, VP.clo 255 [VP.ptr y3.1, VP.ptr y3.2.1, VP.ptr y3.2.2]), (69, VP.of (s2.1))]) (fun gS0_2 => (⟨some D, .dfr⟩ :: ⟨some p2, .var (s2.1 : Ref)⟩ :: ⟨some p1, .var (x1 : T_api_Value)⟩ :: Ents s2.2)) (fun gS0_2 => ?_) (fun S0_2 => ?_)
     ·clear h
      refine AnyS.step [0, 2] (by kernel_rfl) rfl ⟨⟨_, rfl, ?_⟩, ⟨_, rfl, ?_⟩, trivial⟩
      ·refine Ql0 1 ty331 ?_
       refine Sq.nil ?_
       exact To.any rfl (AnyS.le (.same rfl (.same rfl (.same rfl (.same rfl (.same rfl (.same rfl (.same rfl (.same rfl (.same rfl (.same rfl (.same rfl (.same rfl (.same rfl (.same rfl (.same rfl (.same rfl (.same rfl (.same rfl (.same rfl (.same rfl (.same rfl .nil))))))))))))))))))))) (S0_4 ()))
      ·refine Qm ?_
       refine Sq.nil ?_
       exact To.any rfl (AnyS.le (.same rfl (.same rfl (.same rfl (.same rfl (.same rfl (.same rfl (.same rfl (.same rfl (.same rfl (.same rfl (.same rfl (.same rfl (.same rfl (.same rfl (.same rfl (.same rfl (.same rfl (.same rfl (.same rfl (.same rfl (.same rfl .nil))))))))))))))))))))) (S0_7 ()))
     refine AnyS.cut (γ := Unit) 8 (Array.mk (true :: false :: false :: false :: false :: false :: false :: false :: false :: [])) (fun gS0_1 => [(0, VP.of (x0)), (1, VP.of (x1)), (2, VP.of (x2)), (3, VP.of (x3)), (5, VP.eq (.pointer (some ⟨p1, 0, none⟩))), (8, VP.of (false)), (9, VP.of (y2)), (10, VP.eq (.pointer (some ⟨p2, 0, none⟩))), (16, VP.of (!y1)), (28, VP.of (y2.isSome && c1.f_used)), (33, VP.of (c2.f_root.isNone)), (39, VP.of (x0)), (40, VP.eq (.pointer (some ⟨o2, 0, none⟩))), (41, VP.eq (.pointer (some ⟨o2, 0 + 1, none⟩))), (42, VP.of (c3.f_root)), (43, VP.of (x0)), (44, VP.of (x1)), (45, VP.of (x2)), (46, VP.clo 255 [VP.ptr y3.1, VP.ptr y3.2.1, VP.ptr y3.2.2]), (68, VP.of (s2.1))]) (fun gS0_1 => (⟨some D, .dfr⟩ :: ⟨some p2, .var (s2.1 : Ref)⟩ :: ⟨some p1, .var (x1 : T_api_Value)⟩ :: Ents s2.2)) (fun gS0_1 => ?_) (fun S0_1 => ?_)
     ·clear h
      refine AnyS.step [1, 2, 3] (by kernel_rfl) rfl ⟨⟨_, rfl, ?_⟩, ⟨_, rfl, ?_⟩, ⟨_, rfl, ?_⟩, trivial⟩
      ·refine Ql0 1 ty331 ?_
       refine Sq.nil ?_
       exact To.any rfl (AnyS.le (.same rfl (.same rfl (.same rfl (.same rfl (.same rfl (.same rfl (.same rfl (.same rfl (.same rfl (.same rfl (.same rfl (.same rfl (.same rfl (.same rfl (.same rfl (.same rfl (.same rfl (.same rfl (.same rfl (.same rfl (.same rfl .nil))))))))))))))))))))) (S0_4 ()))
      ·refine Qm ?_
       refine Sq.nil ?_
       exact To.any rfl (AnyS.le (.same rfl (.same rfl (.same rfl (.same rfl (.same rfl (.same rfl (.same rfl (.same rfl (.same rfl (.same rfl (.same rfl (.same rfl (.same rfl (.same rfl (.same rfl (.same rfl (.same rfl (.same rfl (.same rfl (.same rfl (.same rfl .nil))))))))))))))))))))) (S0_5 ()))
      ·refine Qv (r_nck (look_ref (look_t rfl) ho6)) ?_
       refine Sq.nil ?_
       exact To.any rfl (AnyS.le (.same rfl (.same rfl (.same rfl (.same rfl (.same rfl (.same rfl (.same rfl (.same rfl (.same rfl (.same rfl (.same rfl (.same rfl (.same rfl (.same rfl (.same rfl (.same rfl (.same rfl (.same rfl (.same rfl (.same rfl (.same rfl .nil))))))))))))))))))))) (S0_6 ()))
     refine AnyS.step [0, 1, 2] (by kernel_rfl) rfl ⟨⟨_, rfl, ?_⟩, ⟨_, rfl, ?_⟩, ⟨_, rfl, ?_⟩, trivial⟩
     ·refine Ql0 1 ty331 ?_
      refine Sq.nil ?_
      exact To.any rfl (AnyS.le (.same rfl (.same rfl (.same rfl (.same rfl (.same rfl (.same rfl (.same rfl (.same rfl (.same rfl (.same rfl (.same rfl (.same rfl (.same rfl (.same rfl (.same rfl (.same rfl (.same rfl (.same rfl (.same rfl (.same rfl .nil)))))))))))))))))))) (S0_1 ()))
     ·refine Ql0 1 ty331 ?_
      refine Sq.nil ?_
      exact To.any rfl (AnyS.le (.same rfl (.same rfl (.same rfl (.same rfl (.same rfl (.same rfl (.same rfl (.same rfl (.same rfl (.same rfl (.same rfl (.same rfl (.same rfl (.same rfl (.same rfl (.same rfl (.same rfl (.same rfl (.same rfl (.same rfl .nil)))))))))))))))))))) (S0_2 ()))
     ·refine Qm ?_
      refine Sq.nil ?_
      exact To.any rfl (AnyS.le (.same rfl (.same rfl (.same rfl (.same rfl (.same rfl (.same rfl (.same rfl (.same rfl (.same rfl (.same rfl (.same rfl (.same rfl (.same rfl (.same rfl (.same rfl (.same rfl (.same rfl (.same rfl (.same rfl (.same rfl .nil)))))))))))))))))))) (S0_3 ()))
    ·exact Empty.elim q2
   ·refine Wp.reg ?_
    refine Qm ?_
    refine Qbd bu335 zr335 (default : T_trie_node) .nil ?_
    refine Sq.boxQ 1 rfl (Cell.c335 (default : T_trie_node)) (fun _ => rfl) (look_t rfl) rfl fun a2 ha2 => ?_
    replace h := Wm.mk_bind h a2 ha2
    refine Qv (r_nck (look_ref (look_t rfl) ho2)) ?_
    refine Q1 (r_fa fd337_1) ?_
    obtain ⟨c9, hc9, h⟩ := Wm.of_bind h
    obtain ⟨hp4, hhp4, h⟩ := Wm.of_bind h
    refine Sq.storeQ (k' := Cell.c337 ({ c9 with f_root := (some a2.1 : Ref) } : T_trie_Trie)) 1 rfl ((Lens.id T_trie_Trie).comp le_T_trie_Trie_root) (v := ((some a2.1 : Ref) : Ref)) ty331 (look_t rfl) (look_t rfl) (rds337 hc9) rfl rfl rfl rfl (some_in hhp4) ?_
    refine Sq.nil ?_
    exact Qmt 0 (hm hp4 () h)
   ·refine Wp.skip ?_
    exact Qmt 0 (hm hp () h)
end Go.Proofs.YtmnggbjcnoffeaaGreat

