/-
  Printed by the decompiler (dec.py) out of the seat's translation. Each function meets its functional program. Conditions: none.
-/
import Derived.Test.YtabodolbdalimaaDc0
import Derived.Test.YtabodolbdalimaaDc5
import Derived.Test.YtabodolbdalimaaDc7
namespace Go.Proofs.Ytabodolbdalimaa
open Go Gv
set_option linter.unusedVariables false
set_option linter.unusedSimpArgs false
set_option maxRecDepth 100000
set_option maxHeartbeats 2000000 in
theorem C_mcase_Codes_Entry {x0 : T_mcase_Codes} {x1 : T_api_Schema} {x2 : Int} {pp0 : Nat} {r : T_api_Entry × T_mcase_Codes} (h : L_mcase_Codes_Entry x0 x1 x2 = some r) : MeetsO Try.prog 43 [VP.eq (.pointer (some ⟨pp0, 0, none⟩)), VP.of (x1), VP.of (x2)] [⟨some pp0, .var (x0 : T_mcase_Codes)⟩] (δ := Unit) (fun d => VP.of (r.1)) (fun d => [⟨some pp0, .var (r.2 : T_mcase_Codes)⟩]) := by
  unfold L_mcase_Codes_Entry at h
  refine MeetsO.of Try.func43 rfl Try.ntmps43 rfl fun W A => ?_
  refine Wp.seq ?_
  refine Wp.reg ?_
  refine Sq.box (z := (x1 : T_api_Schema)) (look_t rfl) rfl fun p1 => ?_
  refine Sq.alloc zr91 rfl fun p2 => ?_
  refine Sq.nil ?_
  refine To.next ?_
  refine Wp.seq ?_
  obtain ⟨y1, hy1, h⟩ := bind_some h
  obtain ⟨k1, hk1, h⟩ := bind_some h
  refine Wp.draw mixed 10 [some 13, some 14, some 15, some 16, some 17, some 18, some 19, some 20, some 21, some 7] [[], [0], [], [], [3], [4], [2, 5], [1, 6], [7], []] [.val (VP.eq (.pointer (some ⟨p1, 0 + 4, none⟩))), .val (VP.of (x1.f_Tables)), .val (VP.of (x2)), .val (VP.eq (.pointer (some ⟨p1, 0 + 4, none⟩))), .val (VP.of (x1.f_Tables)), .val (VP.of (x1.f_Tables.length : Int)), .val (VP.of (y1)), .val (VP.ptr (lget x1.f_Tables k1)), .val (VP.of (lget x1.f_Tables k1)), .new (.var (default : T_api_Table))] [false, false, false, false, false, false, false, false, false, false] (by kernel_rfl) rfl rfl rfl (fun ps1 => ⟨fun L' hL => HO.v (r_fa fd84_4 (look_t rfl)) rfl, fun L' hL => HO.v (r_load (i := 1) ((Lens.id T_api_Schema).comp le_T_api_Schema_Tables) (r := x1.f_Tables) ty79 (look_t rfl) (hL _ _ rfl rfl) rfl rfl) rfl, fun L' hL => HO.v (r_move (look_t rfl)) rfl, fun L' hL => HO.v (r_fa fd84_4 (look_t rfl)) rfl, fun L' hL => HO.v (r_load (i := 1) ((Lens.id T_api_Schema).comp le_T_api_Schema_Tables) (r := x1.f_Tables) ty79 (look_t rfl) (hL _ _ rfl rfl) rfl rfl) rfl, fun L' hL => HO.v (r_len Try.underlying79 (look_t rfl)) rfl, fun L' hL => HO.v (r_call en20 (C_mcase_Mod hy1) ⟨look_t rfl, look_t rfl, trivial⟩) rfl, fun L' hL => HO.v (r_ias (k := k1) Try.underlying79 ty97 (look_t rfl) (look_t rfl) (idx_some hk1)) rfl, fun L' hL => HO.v (r_loadp ty97 (look_t rfl)) rfl, ao_alloc zr97, trivial⟩) fun ps1 => ?_
  refine Sq.store (i := 0) (Lens.id T_api_Table) (v := (lget x1.f_Tables k1 : T_api_Table)) (b' := (lget x1.f_Tables k1 : T_api_Table)) ty97 (look_t rfl) (look_t rfl) rfl rfl rfl ?_
  refine Sq.nil ?_
  refine To.next ?_
  refine Wp.seq ?_
  refine Wp.reg ?_
  refine Sq.v (r_fa fd97_0 (look_t rfl)) rfl rfl rfl ?_
  refine Sq.v (r_load (i := 0) ((Lens.id T_api_Table).comp le_T_api_Table_ID) (r := (lget x1.f_Tables k1).f_ID) ty3 (look_t rfl) rfl rfl rfl) rfl rfl rfl ?_
  refine Sq.v (r_buildX (b := ({ (default : T_api_Entry) with f_Table := (lget x1.f_Tables k1).f_ID } : T_api_Entry)) [1, 4] zh91_1_4 rfl bu91 zr91 (.cons le_T_api_Entry_Table rfl (look_t rfl) rfl (by rfl) (.nil))) rfl rfl rfl ?_
  refine Sq.own (α := T_api_Match) 141 ?_
  refine Sq.own (α := T_api_Value) 24 ?_
  refine Sq.allocX (z := (default : T_api_Entry)) [1, 4] zh91_1_4 zr91 rfl fun p3 => ?_
  refine Sq.own (α := T_api_Match) 141 ?_
  refine Sq.own (α := T_api_Value) 24 ?_
  refine Sq.storeW (i := 2) ty91 (look_t rfl) (look_t rfl) rfl ?_
  refine Sq.nil ?_
  refine To.next ?_
  refine Wp.seq ?_
  refine Wp.seq ?_
  refine Wp.reg ?_
  refine Sq.v (r_fa fd97_2 (look_t rfl)) rfl rfl rfl ?_
  refine Sq.v (r_load (i := 5) ((Lens.id T_api_Table).comp le_T_api_Table_Keys) (r := (lget x1.f_Tables k1).f_Keys) ty95 (look_t rfl) rfl rfl rfl) rfl rfl rfl ?_
  refine Sq.v (r_len Try.underlying95 (look_t rfl)) rfl rfl rfl ?_
  refine Sq.v (r_move (look_int 0)) rfl rfl rfl ?_
  refine Sq.nil ?_
  refine To.next ?_
  refine Wp.block ?_
  obtain ⟨e1, hl, h⟩ := bind_some h
  refine Wp.loopG (σ := Int × T_api_Entry × (List T_api_Match) × T_mcase_Codes) (ε := (Int × Bool × T_api_Entry × (List T_api_Match) × T_mcase_Codes)) (γ := (Option Nat × Nat)) (δ := (Option Nat × Nat)) hl (fun s1 g1 => [(0, VP.eq (.pointer (some ⟨pp0, 0, none⟩))), (1, VP.of (x1)), (2, VP.of (x2)), (4, VP.eq (.pointer (some ⟨p1, 0, none⟩))), (6, VP.eq (.pointer (some ⟨p2, 0, none⟩))), (7, VP.eq (.pointer (some ⟨(ps1 9), 0, none⟩))), (8, VP.eq (.pointer (some ⟨p3, 0, none⟩))), (26, VP.of ((lget x1.f_Tables k1).f_Keys)), (27, VP.of (((lget x1.f_Tables k1).f_Keys).length : Int)), (28, VP.of (s1.1))]) (fun s1 g1 => [⟨none, .row 24 (([] : List T_api_Value) : List T_api_Value) 0⟩, ⟨none, .row 141 (([] : List T_api_Match) : List T_api_Match) 0⟩, ⟨some p3, .varX (s1.2.1 : T_api_Entry) [(1, slv g1.1 s1.2.2.1.length g1.2), (4, slv none ([] : List T_api_Value).length 0)]⟩, ⟨none, .row 24 (([] : List T_api_Value) : List T_api_Value) 0⟩, ⟨g1.1, .row 141 (s1.2.2.1 : List T_api_Match) g1.2⟩, ⟨some (ps1 9), .var (lget x1.f_Tables k1 : T_api_Table)⟩, ⟨some p2, .var ((default : T_api_Entry) : T_api_Entry)⟩, ⟨some p1, .var (x1 : T_api_Schema)⟩, ⟨some pp0, .var (s1.2.2.2 : T_mcase_Codes)⟩]) (fun q1 => Exit.exit 0) (fun q1 g1 => [(0, VP.eq (.pointer (some ⟨pp0, 0, none⟩))), (1, VP.of (x1)), (2, VP.of (x2)), (4, VP.eq (.pointer (some ⟨p1, 0, none⟩))), (6, VP.eq (.pointer (some ⟨p2, 0, none⟩))), (7, VP.eq (.pointer (some ⟨(ps1 9), 0, none⟩))), (8, VP.eq (.pointer (some ⟨p3, 0, none⟩))), (26, VP.of ((lget x1.f_Tables k1).f_Keys)), (27, VP.of (((lget x1.f_Tables k1).f_Keys).length : Int)), (28, VP.of (q1.1)), (29, VP.of (q1.2.1))]) (fun q1 g1 => [⟨none, .row 24 (([] : List T_api_Value) : List T_api_Value) 0⟩, ⟨none, .row 141 (([] : List T_api_Match) : List T_api_Match) 0⟩, ⟨some p3, .varX (q1.2.2.1 : T_api_Entry) [(1, slv g1.1 q1.2.2.2.1.length g1.2), (4, slv none ([] : List T_api_Value).length 0)]⟩, ⟨none, .row 24 (([] : List T_api_Value) : List T_api_Value) 0⟩, ⟨g1.1, .row 141 (q1.2.2.2.1 : List T_api_Match) g1.2⟩, ⟨some (ps1 9), .var (lget x1.f_Tables k1 : T_api_Table)⟩, ⟨some p2, .var ((default : T_api_Entry) : T_api_Entry)⟩, ⟨some p1, .var (x1 : T_api_Schema)⟩, ⟨some pp0, .var (q1.2.2.2.2 : T_mcase_Codes)⟩]) (none, 0) rfl (.same rfl (.same rfl (.same rfl (.same rfl (.same rfl (.same rfl (.same rfl (.same rfl (.same rfl (.same rfl .nil)))))))))) (fun s1 r h g1 => ?_) (fun g1 => ?_)
  · clear hl
    refine Wp.seq ?_
    refine Wp.reg ?_
    refine Sq.v (r_lss (look_t rfl) (look_t rfl)) rfl rfl rfl ?_
    refine Sq.nil ?_
    refine To.next ?_
    refine Wp.seq ?_
    refine Wp.cond (look_t rfl) (fun hc => ?_) (fun hc => ?_)
    · replace h := cond_t hc h
      refine Wp.skip ?_
      refine To.next ?_
      refine Wp.seq ?_
      refine Wp.block ?_
      refine Wp.seq ?_
      refine Wp.reg ?_
      obtain ⟨k2, hk2, h⟩ := bind_some h
      refine Sq.v (r_ias (k := k2) Try.underlying95 ty139 (look_t rfl) (look_t rfl) (idx_some hk2)) rfl rfl rfl ?_
      refine Sq.v (r_loadp ty139 (look_t rfl)) rfl rfl rfl ?_
      refine Sq.alloc zr139 rfl fun p4 => ?_
      refine Sq.store (i := 0) (Lens.id T_api_Key) (v := (lget ((lget x1.f_Tables k1).f_Keys) k2 : T_api_Key)) (b' := (lget ((lget x1.f_Tables k1).f_Keys) k2 : T_api_Key)) ty139 (look_t rfl) (look_t rfl) rfl rfl rfl ?_
      refine Sq.nil ?_
      refine To.next ?_
      refine Wp.seq ?_
      obtain ⟨y2, hy2, h⟩ := bind_some h
      obtain ⟨y3, hy3, h⟩ := bind_some h
      refine Wp.le (E' := [(0, VP.eq (.pointer (some ⟨pp0, 0, none⟩))), (1, VP.of (x1)), (2, VP.of (x2)), (4, VP.eq (.pointer (some ⟨p1, 0, none⟩))), (6, VP.eq (.pointer (some ⟨p2, 0, none⟩))), (7, VP.eq (.pointer (some ⟨(ps1 9), 0, none⟩))), (8, VP.eq (.pointer (some ⟨p3, 0, none⟩))), (10, VP.eq (.pointer (some ⟨p4, 0, none⟩))), (26, VP.of ((lget x1.f_Tables k1).f_Keys)), (27, VP.of (((lget x1.f_Tables k1).f_Keys).length : Int)), (28, VP.of (s1.1)), (29, VP.of (decide (s1.1 < (((lget x1.f_Tables k1).f_Keys).length : Int)))), (30, VP.ptr (lget ((lget x1.f_Tables k1).f_Keys) k2)), (31, VP.of (lget ((lget x1.f_Tables k1).f_Keys) k2))]) (.same rfl (.same rfl (.same rfl (.same rfl (.same rfl (.same rfl (.same rfl (.same rfl (.same rfl (.same rfl (.same rfl (.same rfl (.same rfl (.same rfl .nil)))))))))))))) ?_
      refine Wp.drawD mixed (⟨some 32, [], [], [], fun _ => VP.eq (.pointer (some ⟨p3, 0 + 1, none⟩)), fun _ _ => ⟨none, .dead⟩⟩ :: ⟨some 33, (0 :: []), (3 :: []), [], fun _ => VP.eq (slv g1.1 s1.2.2.1.length g1.2), fun _ _ => ⟨none, .dead⟩⟩ :: ⟨some 34, [], [], [], fun _ => VP.eq (.pointer (some ⟨pp0, 0, none⟩)), fun _ _ => ⟨none, .dead⟩⟩ :: ⟨some 35, [], (8 :: []), [], fun _ => VP.of (x1), fun _ _ => ⟨none, .dead⟩⟩ :: ⟨some 36, [], (0 :: []), [], fun _ => VP.of (lget ((lget x1.f_Tables k1).f_Keys) k2), fun _ _ => ⟨none, .dead⟩⟩ :: ⟨some 37, (2 :: 3 :: 4 :: []), (9 :: []), (9 :: []), fun _ => VP.of (y2.1), fun hd _ => ⟨some pp0, .var (y2.2 : T_mcase_Codes)⟩⟩ :: ⟨some 38, (5 :: []), [], [], fun _ => VP.of ([y2.1]), fun _ _ => ⟨none, .dead⟩⟩ :: ⟨some 39, (1 :: 6 :: []), (5 :: []), (5 :: []), fun hd => VP.eq (slv (hd 7 0) y3.length ((hd 7 1).getD 0)), fun hd _ => ⟨(hd 7 0), .row 141 (y3 : List T_api_Match) ((hd 7 1).getD 0)⟩⟩ :: ⟨some 40, [], [], [], fun _ => VP.eq (.pointer (some ⟨p3, 0 + 1, none⟩)), fun _ _ => ⟨none, .dead⟩⟩ :: ⟨none, (1 :: 7 :: 8 :: []), (3 :: []), (3 :: []), fun _ => VP.any, fun hd _ => ⟨some p3, .varX (({ s1.2.1 with f_Matches := [] } : T_api_Entry) : T_api_Entry) [(1, slv (hd 7 0) y3.length ((hd 7 1).getD 0)), (4, slv none ([] : List T_api_Value).length 0)]⟩⟩ :: []) ((some 32, [], [], []) :: (some 33, (0 :: []), (3 :: []), []) :: (some 34, [], [], []) :: (some 35, [], (8 :: []), []) :: (some 36, [], (0 :: []), []) :: (some 37, (2 :: 3 :: 4 :: []), (9 :: []), (9 :: [])) :: (some 38, (5 :: []), [], []) :: (some 39, (1 :: 6 :: []), (5 :: []), (5 :: [])) :: (some 40, [], [], []) :: (none, (1 :: 7 :: 8 :: []), (3 :: []), (3 :: [])) :: []) (0 :: 1 :: 2 :: 4 :: 6 :: 7 :: 8 :: 10 :: 26 :: 27 :: 28 :: 29 :: 30 :: 31 :: []) rfl rfl (by kernel_rfl) ⟨?_, ?_, ?_, ?_, ?_, ?_, ?_, ?_, ?_, ?_, trivial⟩ fun hd => ?_
      · exact hd_v rfl rfl rfl fun hd E' L' hE hL => r_fa fd91_1 (look_t (hE _ _ rfl))
      · exact hd_v rfl rfl rfl fun hd E' L' hE hL => r_loadH (i := 3) (q := 0) (β := T_api_Entry) (γ := T_api_Match) ty88 (look_t (hE _ _ rfl)) (hL 3 _ rfl rfl) rfl
      · exact hd_v rfl rfl rfl fun hd E' L' hE hL => r_move (look_t (hE _ _ rfl))
      · exact hd_v rfl rfl rfl fun hd E' L' hE hL => r_load (i := 8) (Lens.id T_api_Schema) (r := x1) ty84 (look_t (hE _ _ rfl)) (hL 8 _ rfl rfl) rfl rfl
      · exact hd_v rfl rfl rfl fun hd E' L' hE hL => r_load (i := 0) (Lens.id T_api_Key) (r := (lget ((lget x1.f_Tables k1).f_Keys) k2)) ty139 (look_t (hE _ _ rfl)) (hL 0 _ rfl rfl) rfl rfl
      · intro hd E' L' hE hL
        refine Sq.bring 9 (hL 9 _ rfl rfl) ?_
        refine Sq.callO (Lin := [⟨some pp0, .var (s1.2.2.2 : T_mcase_Codes)⟩]) (Lr := L'.eraseIdx 9) en78 (C_mcase_Codes_match hy2) ⟨look_t (hE _ _ rfl), look_t (hE _ _ rfl), look_t (hE _ _ rfl), trivial⟩ rfl fun q2 => ?_
        refine Sq.nil ?_
        refine To.back 9 (hL 9 _ rfl rfl) ?_
        exact To.fin (gm []) rfl rfl
      · exact hd_v rfl rfl rfl fun hd E' L' hE hL => r_bsl (r := [y2.1]) Try.underlying88 ty141 zr141 rfl rfl (.cons (by simp) (look_t (hE _ _ rfl)) (.nil))
      · intro hd E' L' hE hL
        refine Sq.app (i := 5) Try.underlying88 ty141 zr141 (bytes := 64) (by kernel_rfl) (look_t (hE _ _ rfl)) (hL 5 _ rfl rfl) (look_t (hE _ _ rfl)) hy3 rfl fun key1 cap1 => ?_
        refine Sq.nil ?_
        exact To.fin (gm [key1, some cap1]) rfl rfl
      · exact hd_v rfl rfl rfl fun hd E' L' hE hL => r_fa fd91_1 (look_t (hE _ _ rfl))
      · intro hd E' L' hE hL
        refine Sq.storeH (i := 3) (γ := T_api_Match) (b' := (({ s1.2.1 with f_Matches := [] } : T_api_Entry) : T_api_Entry)) (os' := [(1, slv (hd 7 0) y3.length ((hd 7 1).getD 0)), (4, slv none ([] : List T_api_Value).length 0)]) ((Lens.id T_api_Entry).comp le_T_api_Entry_Matches) ty88 (look_t (hE _ _ rfl)) (look_t (hE _ _ rfl)) slv_one (hL 3 _ rfl rfl) rfl rfl rfl ?_
        refine Sq.nil ?_
        exact To.fin (gm []) rfl rfl
      refine To.eqL (L2 := [⟨some p4, .var (lget ((lget x1.f_Tables k1).f_Keys) k2 : T_api_Key)⟩, ⟨none, .row 24 (([] : List T_api_Value) : List T_api_Value) 0⟩, ⟨none, .row 141 (([] : List T_api_Match) : List T_api_Match) 0⟩, ⟨some p3, .varX (({ s1.2.1 with f_Matches := [] } : T_api_Entry) : T_api_Entry) [(1, slv (hd 7 0) y3.length ((hd 7 1).getD 0)), (4, slv none ([] : List T_api_Value).length 0)]⟩, ⟨none, .row 24 (([] : List T_api_Value) : List T_api_Value) 0⟩, ⟨(hd 7 0), .row 141 (y3 : List T_api_Match) ((hd 7 1).getD 0)⟩, ⟨some (ps1 9), .var (lget x1.f_Tables k1 : T_api_Table)⟩, ⟨some p2, .var ((default : T_api_Entry) : T_api_Entry)⟩, ⟨some p1, .var (x1 : T_api_Schema)⟩, ⟨some pp0, .var (y2.2 : T_mcase_Codes)⟩]) rfl ?_
      refine To.le (E' := [(0, VP.eq (.pointer (some ⟨pp0, 0, none⟩))), (1, VP.of (x1)), (2, VP.of (x2)), (4, VP.eq (.pointer (some ⟨p1, 0, none⟩))), (6, VP.eq (.pointer (some ⟨p2, 0, none⟩))), (7, VP.eq (.pointer (some ⟨(ps1 9), 0, none⟩))), (8, VP.eq (.pointer (some ⟨p3, 0, none⟩))), (10, VP.eq (.pointer (some ⟨p4, 0, none⟩))), (26, VP.of ((lget x1.f_Tables k1).f_Keys)), (27, VP.of (((lget x1.f_Tables k1).f_Keys).length : Int)), (28, VP.of (s1.1)), (29, VP.of (decide (s1.1 < (((lget x1.f_Tables k1).f_Keys).length : Int)))), (30, VP.ptr (lget ((lget x1.f_Tables k1).f_Keys) k2)), (31, VP.of (lget ((lget x1.f_Tables k1).f_Keys) k2)), (32, VP.eq (.pointer (some ⟨p3, 0 + 1, none⟩))), (34, VP.eq (.pointer (some ⟨pp0, 0, none⟩))), (35, VP.of (x1)), (36, VP.of (lget ((lget x1.f_Tables k1).f_Keys) k2)), (37, VP.of (y2.1)), (38, VP.of ([y2.1])), (39, VP.eq (slv (hd 7 0) y3.length ((hd 7 1).getD 0))), (40, VP.eq (.pointer (some ⟨p3, 0 + 1, none⟩)))]) (.same rfl (.same rfl (.same rfl (.same rfl (.same rfl (.same rfl (.same rfl (.same rfl (.same rfl (.same rfl (.same rfl (.same rfl (.same rfl (.same rfl (.same rfl (.same rfl (.same rfl (.same rfl (.same rfl (.same rfl (.same rfl (.same rfl .nil)))))))))))))))))))))) ?_
      refine To.next ?_
      refine Wp.seq ?_
      refine Wp.reg ?_
      refine Sq.v (r_fa fd139_2 (look_t rfl)) rfl rfl rfl ?_
      refine Sq.v (r_load (i := 0) ((Lens.id T_api_Key).comp le_T_api_Key_Kind) (r := (lget ((lget x1.f_Tables k1).f_Keys) k2).f_Kind) ty3 (look_t rfl) rfl rfl rfl) rfl rfl rfl ?_
      refine Sq.v (r_eql (look_t rfl) (look_int 3)) rfl rfl rfl ?_
      refine Sq.v (r_move (look_t rfl)) rfl rfl rfl ?_
      refine Sq.g (fun hb => r_fa fd139_2 (look_t rfl)) rfl rfl rfl rfl rfl ?_
      refine Sq.g (fun hb => r_load (i := 0) ((Lens.id T_api_Key).comp le_T_api_Key_Kind) (r := (lget ((lget x1.f_Tables k1).f_Keys) k2).f_Kind) ty3 (look_tc rfl hb) rfl rfl rfl) rfl rfl rfl rfl rfl ?_
      refine Sq.g (fun hb => r_eql (look_tc rfl hb) (look_int 4)) rfl rfl rfl rfl rfl ?_
      obtain ⟨z1, hz1, h⟩ := bind_some h
      refine Sq.v ((r_or (look_t rfl) (look_t rfl) (fun h => h)).as (some_in hz1)) rfl rfl rfl ?_
      refine Sq.nil ?_
      refine To.next ?_
      obtain ⟨m1, hm1, h⟩ := bind_some h
      refine Wp.condM (γ := Unit) (fun g2 => [(0, VP.eq (.pointer (some ⟨pp0, 0, none⟩))), (1, VP.of (x1)), (2, VP.of (x2)), (4, VP.eq (.pointer (some ⟨p1, 0, none⟩))), (6, VP.eq (.pointer (some ⟨p2, 0, none⟩))), (7, VP.eq (.pointer (some ⟨(ps1 9), 0, none⟩))), (8, VP.eq (.pointer (some ⟨p3, 0, none⟩))), (10, VP.eq (.pointer (some ⟨p4, 0, none⟩))), (26, VP.of ((lget x1.f_Tables k1).f_Keys)), (27, VP.of (((lget x1.f_Tables k1).f_Keys).length : Int)), (28, VP.of (s1.1)), (29, VP.of (decide (s1.1 < (((lget x1.f_Tables k1).f_Keys).length : Int)))), (48, VP.of (z1))]) (fun g2 => [⟨some p4, .var (lget ((lget x1.f_Tables k1).f_Keys) k2 : T_api_Key)⟩, ⟨none, .row 24 (([] : List T_api_Value) : List T_api_Value) 0⟩, ⟨none, .row 141 (([] : List T_api_Match) : List T_api_Match) 0⟩, ⟨some p3, .varX (m1.1 : T_api_Entry) [(1, slv (hd 7 0) y3.length ((hd 7 1).getD 0)), (4, slv none ([] : List T_api_Value).length 0)]⟩, ⟨none, .row 24 (([] : List T_api_Value) : List T_api_Value) 0⟩, ⟨(hd 7 0), .row 141 (y3 : List T_api_Match) ((hd 7 1).getD 0)⟩, ⟨some (ps1 9), .var (lget x1.f_Tables k1 : T_api_Table)⟩, ⟨some p2, .var ((default : T_api_Entry) : T_api_Entry)⟩, ⟨some p1, .var (x1 : T_api_Schema)⟩, ⟨some pp0, .var (m1.2 : T_mcase_Codes)⟩]) (look_t rfl) (fun g2 => ?_) (fun hm hc => ?_) (fun hm hc => ?_)
      · clear hm1
        refine To.bnorm ?_
        refine To.next ?_
        refine Wp.reg ?_
        refine Sq.v (r_add (look_t rfl) (look_int 1)) rfl rfl rfl ?_
        refine Sq.v (r_move (look_t rfl)) rfl rfl rfl ?_
        refine Sq.nil ?_
        replace h := some_in h
        subst h
        exact To.roundG ((hd 7 0), ((hd 7 1).getD 0)) 1 rfl (.same rfl (.same rfl (.same rfl (.same rfl (.same rfl (.same rfl (.same rfl (.same rfl (.same rfl (.same rfl .nil))))))))))
      · have h := cond_t hc hm1
        refine Wp.reg ?_
        refine Sq.v (r_move (look_t rfl)) rfl rfl rfl ?_
        refine Sq.bring 9 rfl ?_
        obtain ⟨y4, hy4, h⟩ := bind_some h
        refine Sq.callO (Lin := [⟨some pp0, .var (y2.2 : T_mcase_Codes)⟩]) (Lr := [⟨some p4, .var (lget ((lget x1.f_Tables k1).f_Keys) k2 : T_api_Key)⟩, ⟨none, .row 24 (([] : List T_api_Value) : List T_api_Value) 0⟩, ⟨none, .row 141 (([] : List T_api_Match) : List T_api_Match) 0⟩, ⟨some p3, .varX (({ s1.2.1 with f_Matches := [] } : T_api_Entry) : T_api_Entry) [(1, slv (hd 7 0) y3.length ((hd 7 1).getD 0)), (4, slv none ([] : List T_api_Value).length 0)]⟩, ⟨none, .row 24 (([] : List T_api_Value) : List T_api_Value) 0⟩, ⟨(hd 7 0), .row 141 (y3 : List T_api_Match) ((hd 7 1).getD 0)⟩, ⟨some (ps1 9), .var (lget x1.f_Tables k1 : T_api_Table)⟩, ⟨some p2, .var ((default : T_api_Entry) : T_api_Entry)⟩, ⟨some p1, .var (x1 : T_api_Schema)⟩]) en72 (C_mcase_Codes_Next hy4) ⟨look_t rfl, look_int 5, trivial⟩ rfl fun q3 => ?_
        refine Sq.v (r_add (look_int 1) (look_t rfl)) rfl rfl rfl ?_
        refine Sq.v (r_fa fd91_2 (look_t rfl)) rfl rfl rfl ?_
        obtain ⟨z2, hz2, h⟩ := bind_some h
        refine Sq.storeX (i := 4) ((Lens.id T_api_Entry).comp le_T_api_Entry_Priority) (v := (w64 (1 + y4.1) : Int)) (b' := (z2 : T_api_Entry)) ty3 (look_t rfl) (look_t rfl) rfl rfl (some_in hz2) (by rfl) ?_
        refine Sq.nil ?_
        refine To.bring 9 rfl ?_
        refine To.bring 9 rfl ?_
        refine To.bring 9 rfl ?_
        refine To.bring 9 rfl ?_
        refine To.bring 9 rfl ?_
        refine To.bring 9 rfl ?_
        refine To.bring 9 rfl ?_
        refine To.bring 9 rfl ?_
        refine To.bring 9 rfl ?_
        replace h := some_in h
        subst h
        exact To.meet 0 rfl (.same rfl (.same rfl (.same rfl (.same rfl (.same rfl (.same rfl (.same rfl (.same rfl (.same rfl (.same rfl (.same rfl (.same rfl (.same rfl .nil))))))))))))) (hm ())
      · have h := cond_f hc hm1
        refine Wp.skip ?_
        replace h := some_in h
        subst h
        exact To.meet 0 rfl (.same rfl (.same rfl (.same rfl (.same rfl (.same rfl (.same rfl (.same rfl (.same rfl (.same rfl (.same rfl (.same rfl (.same rfl (.same rfl .nil))))))))))))) (hm ())
    · replace h := cond_f hc h
      refine Wp.exit ?_
      refine To.exit ?_
      replace h := some_in h
      subst h
      exact To.leaveG (g1.1, g1.2) 0 rfl (by simp) rfl (.same rfl (.same rfl (.same rfl (.same rfl (.same rfl (.same rfl (.same rfl (.same rfl (.same rfl (.same rfl (.same rfl .nil)))))))))))
  · clear hl
    refine To.bexit ?_
    refine To.next ?_
    refine Wp.seq ?_
    obtain ⟨y5, hy5, h⟩ := bind_some h
    obtain ⟨k3, hk3, h⟩ := bind_some h
    obtain ⟨z3, hz3, h⟩ := bind_some h
    refine Wp.le (E' := [(0, VP.eq (.pointer (some ⟨pp0, 0, none⟩))), (1, VP.of (x1)), (2, VP.of (x2)), (4, VP.eq (.pointer (some ⟨p1, 0, none⟩))), (6, VP.eq (.pointer (some ⟨p2, 0, none⟩))), (7, VP.eq (.pointer (some ⟨(ps1 9), 0, none⟩))), (8, VP.eq (.pointer (some ⟨p3, 0, none⟩))), (26, VP.of ((lget x1.f_Tables k1).f_Keys)), (27, VP.of (((lget x1.f_Tables k1).f_Keys).length : Int)), (28, VP.of (e1.1)), (29, VP.of (e1.2.1))]) (.same rfl (.same rfl (.same rfl (.same rfl (.same rfl (.same rfl (.same rfl (.same rfl (.same rfl (.same rfl (.same rfl .nil))))))))))) ?_
    refine Wp.drawD mixed (⟨some 54, [], [], [], fun _ => VP.eq (.pointer (some ⟨(ps1 9), 0 + 3, none⟩)), fun _ _ => ⟨none, .dead⟩⟩ :: ⟨some 55, (0 :: []), (5 :: []), [], fun _ => VP.of ((lget x1.f_Tables k1).f_Actions), fun _ _ => ⟨none, .dead⟩⟩ :: ⟨some 56, [], [], [], fun _ => VP.eq (.pointer (some ⟨pp0, 0, none⟩)), fun _ _ => ⟨none, .dead⟩⟩ :: ⟨some 57, [], [], [], fun _ => VP.eq (.pointer (some ⟨(ps1 9), 0 + 3, none⟩)), fun _ _ => ⟨none, .dead⟩⟩ :: ⟨some 58, (3 :: []), (5 :: []), [], fun _ => VP.of ((lget x1.f_Tables k1).f_Actions), fun _ _ => ⟨none, .dead⟩⟩ :: ⟨some 59, (4 :: []), [], [], fun _ => VP.of (((lget x1.f_Tables k1).f_Actions).length : Int), fun _ _ => ⟨none, .dead⟩⟩ :: ⟨some 60, (2 :: 5 :: []), (8 :: []), (8 :: []), fun _ => VP.of (y5.1), fun hd _ => ⟨some pp0, .var (y5.2 : T_mcase_Codes)⟩⟩ :: ⟨some 61, (1 :: 6 :: []), [], [], fun _ => VP.ptr (lget ((lget x1.f_Tables k1).f_Actions) k3), fun _ _ => ⟨none, .dead⟩⟩ :: ⟨some 62, (7 :: []), [], [], fun _ => VP.of (lget ((lget x1.f_Tables k1).f_Actions) k3), fun _ _ => ⟨none, .dead⟩⟩ :: ⟨some 63, [], [], [], fun _ => VP.eq (.pointer (some ⟨p3, 0 + 3, none⟩)), fun _ _ => ⟨none, .dead⟩⟩ :: ⟨none, (8 :: 9 :: []), (2 :: []), (2 :: []), fun _ => VP.any, fun hd _ => ⟨some p3, .varX (z3 : T_api_Entry) [(1, slv g1.1 e1.2.2.2.1.length g1.2), (4, slv none ([] : List T_api_Value).length 0)]⟩⟩ :: []) ((some 54, [], [], []) :: (some 55, (0 :: []), (5 :: []), []) :: (some 56, [], [], []) :: (some 57, [], [], []) :: (some 58, (3 :: []), (5 :: []), []) :: (some 59, (4 :: []), [], []) :: (some 60, (2 :: 5 :: []), (8 :: []), (8 :: [])) :: (some 61, (1 :: 6 :: []), [], []) :: (some 62, (7 :: []), [], []) :: (some 63, [], [], []) :: (none, (8 :: 9 :: []), (2 :: []), (2 :: [])) :: []) (0 :: 1 :: 2 :: 4 :: 6 :: 7 :: 8 :: 26 :: 27 :: 28 :: 29 :: []) rfl rfl (by kernel_rfl) ⟨?_, ?_, ?_, ?_, ?_, ?_, ?_, ?_, ?_, ?_, ?_, trivial⟩ fun hd => ?_
    · exact hd_v rfl rfl rfl fun hd E' L' hE hL => r_fa fd97_3 (look_t (hE _ _ rfl))
    · exact hd_v rfl rfl rfl fun hd E' L' hE hL => r_load (i := 5) ((Lens.id T_api_Table).comp le_T_api_Table_Actions) (r := (lget x1.f_Tables k1).f_Actions) ty43 (look_t (hE _ _ rfl)) (hL 5 _ rfl rfl) rfl rfl
    · exact hd_v rfl rfl rfl fun hd E' L' hE hL => r_move (look_t (hE _ _ rfl))
    · exact hd_v rfl rfl rfl fun hd E' L' hE hL => r_fa fd97_3 (look_t (hE _ _ rfl))
    · exact hd_v rfl rfl rfl fun hd E' L' hE hL => r_load (i := 5) ((Lens.id T_api_Table).comp le_T_api_Table_Actions) (r := (lget x1.f_Tables k1).f_Actions) ty43 (look_t (hE _ _ rfl)) (hL 5 _ rfl rfl) rfl rfl
    · exact hd_v rfl rfl rfl fun hd E' L' hE hL => r_len Try.underlying43 (look_t (hE _ _ rfl))
    · intro hd E' L' hE hL
      refine Sq.bring 8 (hL 8 _ rfl rfl) ?_
      refine Sq.callO (Lin := [⟨some pp0, .var (e1.2.2.2.2 : T_mcase_Codes)⟩]) (Lr := L'.eraseIdx 8) en72 (C_mcase_Codes_Next hy5) ⟨look_t (hE _ _ rfl), look_t (hE _ _ rfl), trivial⟩ rfl fun q4 => ?_
      refine Sq.nil ?_
      refine To.back 8 (hL 8 _ rfl rfl) ?_
      exact To.fin (gm []) rfl rfl
    · exact hd_v rfl rfl rfl fun hd E' L' hE hL => r_ias (k := k3) Try.underlying43 ty3 (look_t (hE _ _ rfl)) (look_t (hE _ _ rfl)) (idx_some hk3)
    · exact hd_v rfl rfl rfl fun hd E' L' hE hL => r_loadp ty3 (look_t (hE _ _ rfl))
    · exact hd_v rfl rfl rfl fun hd E' L' hE hL => r_fa fd91_3 (look_t (hE _ _ rfl))
    · intro hd E' L' hE hL
      refine Sq.storeX (i := 2) ((Lens.id T_api_Entry).comp le_T_api_Entry_Action) (v := (lget ((lget x1.f_Tables k1).f_Actions) k3 : Int)) (b' := (z3 : T_api_Entry)) ty3 (look_t (hE _ _ rfl)) (look_t (hE _ _ rfl)) (hL 2 _ rfl rfl) rfl (some_in hz3) (by rfl) ?_
      refine Sq.nil ?_
      exact To.fin (gm []) rfl rfl
    refine To.eqL (L2 := [⟨none, .row 24 (([] : List T_api_Value) : List T_api_Value) 0⟩, ⟨none, .row 141 (([] : List T_api_Match) : List T_api_Match) 0⟩, ⟨some p3, .varX (z3 : T_api_Entry) [(1, slv g1.1 e1.2.2.2.1.length g1.2), (4, slv none ([] : List T_api_Value).length 0)]⟩, ⟨none, .row 24 (([] : List T_api_Value) : List T_api_Value) 0⟩, ⟨g1.1, .row 141 (e1.2.2.2.1 : List T_api_Match) g1.2⟩, ⟨some (ps1 9), .var (lget x1.f_Tables k1 : T_api_Table)⟩, ⟨some p2, .var ((default : T_api_Entry) : T_api_Entry)⟩, ⟨some p1, .var (x1 : T_api_Schema)⟩, ⟨some pp0, .var (y5.2 : T_mcase_Codes)⟩]) rfl ?_
    refine To.le (E' := [(0, VP.eq (.pointer (some ⟨pp0, 0, none⟩))), (1, VP.of (x1)), (2, VP.of (x2)), (4, VP.eq (.pointer (some ⟨p1, 0, none⟩))), (6, VP.eq (.pointer (some ⟨p2, 0, none⟩))), (7, VP.eq (.pointer (some ⟨(ps1 9), 0, none⟩))), (8, VP.eq (.pointer (some ⟨p3, 0, none⟩))), (26, VP.of ((lget x1.f_Tables k1).f_Keys)), (27, VP.of (((lget x1.f_Tables k1).f_Keys).length : Int)), (28, VP.of (e1.1)), (29, VP.of (e1.2.1)), (54, VP.eq (.pointer (some ⟨(ps1 9), 0 + 3, none⟩))), (55, VP.of ((lget x1.f_Tables k1).f_Actions)), (56, VP.eq (.pointer (some ⟨pp0, 0, none⟩))), (57, VP.eq (.pointer (some ⟨(ps1 9), 0 + 3, none⟩))), (58, VP.of ((lget x1.f_Tables k1).f_Actions)), (59, VP.of (((lget x1.f_Tables k1).f_Actions).length : Int)), (60, VP.of (y5.1)), (61, VP.ptr (lget ((lget x1.f_Tables k1).f_Actions) k3)), (62, VP.of (lget ((lget x1.f_Tables k1).f_Actions) k3)), (63, VP.eq (.pointer (some ⟨p3, 0 + 3, none⟩)))]) (.same rfl (.same rfl (.same rfl (.same rfl (.same rfl (.same rfl (.same rfl (.same rfl (.same rfl (.same rfl (.same rfl (.same rfl (.same rfl (.same rfl (.same rfl (.same rfl (.same rfl (.same rfl (.same rfl (.same rfl (.same rfl .nil))))))))))))))))))))) ?_
    refine To.next ?_
    refine Wp.seq ?_
    refine Wp.seq ?_
    refine Wp.reg ?_
    refine Sq.v (r_load (i := 7) (Lens.id T_api_Schema) (r := x1) ty84 (look_t rfl) rfl rfl rfl) rfl rfl rfl ?_
    refine Sq.v (r_fa fd91_3 (look_t rfl)) rfl rfl rfl ?_
    refine Sq.v (r_loadX (i := 2) ((Lens.id T_api_Entry).comp le_T_api_Entry_Action) (r := z3.f_Action) ty3 (look_t rfl) rfl rfl rfl (by rfl)) rfl rfl rfl ?_
    obtain ⟨y6, hy6, h⟩ := bind_some h
    refine Sq.v (r_call en79 (C_mcase_ActionIn hy6) ⟨look_t rfl, look_t rfl, trivial⟩) rfl rfl rfl ?_
    refine Sq.v (r_field le_T_api_Action_Params fv146_2 ty143 rfl (look_t rfl) rfl rfl) rfl rfl rfl ?_
    refine Sq.v (r_len Try.underlying143 (look_t rfl)) rfl rfl rfl ?_
    refine Sq.v (r_move (look_int 0)) rfl rfl rfl ?_
    refine Sq.nil ?_
    refine To.next ?_
    refine Wp.block ?_
    obtain ⟨e2, hl, h⟩ := bind_some h
    refine Wp.loopG (σ := Int × T_api_Entry × (List T_api_Value) × T_mcase_Codes) (ε := (Int × Bool × T_api_Entry × (List T_api_Value) × T_mcase_Codes)) (γ := (Option Nat × Nat)) (δ := (Option Nat × Nat)) hl (fun s2 g3 => [(0, VP.eq (.pointer (some ⟨pp0, 0, none⟩))), (1, VP.of (x1)), (2, VP.of (x2)), (4, VP.eq (.pointer (some ⟨p1, 0, none⟩))), (6, VP.eq (.pointer (some ⟨p2, 0, none⟩))), (7, VP.eq (.pointer (some ⟨(ps1 9), 0, none⟩))), (8, VP.eq (.pointer (some ⟨p3, 0, none⟩))), (26, VP.of ((lget x1.f_Tables k1).f_Keys)), (27, VP.of (((lget x1.f_Tables k1).f_Keys).length : Int)), (28, VP.of (e1.1)), (29, VP.of (e1.2.1)), (68, VP.of (y6.f_Params)), (69, VP.of (y6.f_Params.length : Int)), (70, VP.of (s2.1))]) (fun s2 g3 => [⟨none, .row 24 (([] : List T_api_Value) : List T_api_Value) 0⟩, ⟨none, .row 141 (([] : List T_api_Match) : List T_api_Match) 0⟩, ⟨some p3, .varX (s2.2.1 : T_api_Entry) [(1, slv g1.1 e1.2.2.2.1.length g1.2), (4, slv g3.1 s2.2.2.1.length g3.2)]⟩, ⟨g3.1, .row 24 (s2.2.2.1 : List T_api_Value) g3.2⟩, ⟨g1.1, .row 141 (e1.2.2.2.1 : List T_api_Match) g1.2⟩, ⟨some (ps1 9), .var (lget x1.f_Tables k1 : T_api_Table)⟩, ⟨some p2, .var ((default : T_api_Entry) : T_api_Entry)⟩, ⟨some p1, .var (x1 : T_api_Schema)⟩, ⟨some pp0, .var (s2.2.2.2 : T_mcase_Codes)⟩]) (fun q5 => Exit.exit 2) (fun q5 g3 => [(0, VP.eq (.pointer (some ⟨pp0, 0, none⟩))), (1, VP.of (x1)), (2, VP.of (x2)), (4, VP.eq (.pointer (some ⟨p1, 0, none⟩))), (6, VP.eq (.pointer (some ⟨p2, 0, none⟩))), (7, VP.eq (.pointer (some ⟨(ps1 9), 0, none⟩))), (8, VP.eq (.pointer (some ⟨p3, 0, none⟩))), (26, VP.of ((lget x1.f_Tables k1).f_Keys)), (27, VP.of (((lget x1.f_Tables k1).f_Keys).length : Int)), (28, VP.of (e1.1)), (29, VP.of (e1.2.1)), (68, VP.of (y6.f_Params)), (69, VP.of (y6.f_Params.length : Int)), (70, VP.of (q5.1)), (71, VP.of (q5.2.1))]) (fun q5 g3 => [⟨none, .row 24 (([] : List T_api_Value) : List T_api_Value) 0⟩, ⟨none, .row 141 (([] : List T_api_Match) : List T_api_Match) 0⟩, ⟨some p3, .varX (q5.2.2.1 : T_api_Entry) [(1, slv g1.1 e1.2.2.2.1.length g1.2), (4, slv g3.1 q5.2.2.2.1.length g3.2)]⟩, ⟨g3.1, .row 24 (q5.2.2.2.1 : List T_api_Value) g3.2⟩, ⟨g1.1, .row 141 (e1.2.2.2.1 : List T_api_Match) g1.2⟩, ⟨some (ps1 9), .var (lget x1.f_Tables k1 : T_api_Table)⟩, ⟨some p2, .var ((default : T_api_Entry) : T_api_Entry)⟩, ⟨some p1, .var (x1 : T_api_Schema)⟩, ⟨some pp0, .var (q5.2.2.2.2 : T_mcase_Codes)⟩]) (none, 0) rfl (.same rfl (.same rfl (.same rfl (.same rfl (.same rfl (.same rfl (.same rfl (.same rfl (.same rfl (.same rfl (.same rfl (.same rfl (.same rfl (.same rfl .nil)))))))))))))) (fun s2 r h g3 => ?_) (fun g3 => ?_)
    · clear hl
      refine Wp.seq ?_
      refine Wp.reg ?_
      refine Sq.v (r_lss (look_t rfl) (look_t rfl)) rfl rfl rfl ?_
      refine Sq.nil ?_
      refine To.next ?_
      refine Wp.seq ?_
      refine Wp.cond (look_t rfl) (fun hc => ?_) (fun hc => ?_)
      · replace h := cond_t hc h
        refine Wp.skip ?_
        refine To.next ?_
        refine Wp.seq ?_
        refine Wp.block ?_
        refine Wp.seq ?_
        refine Wp.reg ?_
        obtain ⟨k4, hk4, h⟩ := bind_some h
        refine Sq.v (r_ias (k := k4) Try.underlying143 ty149 (look_t rfl) (look_t rfl) (idx_some hk4)) rfl rfl rfl ?_
        refine Sq.v (r_loadp ty149 (look_t rfl)) rfl rfl rfl ?_
        refine Sq.alloc zr149 rfl fun p5 => ?_
        refine Sq.store (i := 0) (Lens.id T_api_Param) (v := (lget y6.f_Params k4 : T_api_Param)) (b' := (lget y6.f_Params k4 : T_api_Param)) ty149 (look_t rfl) (look_t rfl) rfl rfl rfl ?_
        refine Sq.nil ?_
        refine To.next ?_
        obtain ⟨y7, hy7, h⟩ := bind_some h
        obtain ⟨z4, hz4, h⟩ := bind_some h
        obtain ⟨y8, hy8, h⟩ := bind_some h
        obtain ⟨y9, hy9, h⟩ := bind_some h
        refine Wp.le (E' := [(0, VP.eq (.pointer (some ⟨pp0, 0, none⟩))), (1, VP.of (x1)), (2, VP.of (x2)), (4, VP.eq (.pointer (some ⟨p1, 0, none⟩))), (6, VP.eq (.pointer (some ⟨p2, 0, none⟩))), (7, VP.eq (.pointer (some ⟨(ps1 9), 0, none⟩))), (8, VP.eq (.pointer (some ⟨p3, 0, none⟩))), (12, VP.eq (.pointer (some ⟨p5, 0, none⟩))), (26, VP.of ((lget x1.f_Tables k1).f_Keys)), (27, VP.of (((lget x1.f_Tables k1).f_Keys).length : Int)), (28, VP.of (e1.1)), (29, VP.of (e1.2.1)), (68, VP.of (y6.f_Params)), (69, VP.of (y6.f_Params.length : Int)), (70, VP.of (s2.1)), (71, VP.of (decide (s2.1 < (y6.f_Params.length : Int)))), (72, VP.ptr (lget y6.f_Params k4)), (73, VP.of (lget y6.f_Params k4))]) (.same rfl (.same rfl (.same rfl (.same rfl (.same rfl (.same rfl (.same rfl (.same rfl (.same rfl (.same rfl (.same rfl (.same rfl (.same rfl (.same rfl (.same rfl (.same rfl (.same rfl (.same rfl .nil)))))))))))))))))) ?_
        refine Wp.drawD mixed (⟨some 74, [], [], [], fun _ => VP.eq (.pointer (some ⟨p3, 0 + 4, none⟩)), fun _ _ => ⟨none, .dead⟩⟩ :: ⟨some 75, (0 :: []), (3 :: []), [], fun _ => VP.eq (slv g3.1 s2.2.2.1.length g3.2), fun _ _ => ⟨none, .dead⟩⟩ :: ⟨some 76, [], [], [], fun _ => VP.eq (.pointer (some ⟨pp0, 0, none⟩)), fun _ _ => ⟨none, .dead⟩⟩ :: ⟨some 77, (2 :: []), (9 :: []), (9 :: []), fun _ => VP.of (y7.1), fun hd _ => ⟨some pp0, .var (y7.2 : T_mcase_Codes)⟩⟩ :: ⟨some 78, (3 :: []), [], [], fun _ => VP.of (BitVec.ofInt 64 y7.1), fun _ _ => ⟨none, .dead⟩⟩ :: ⟨some 79, (4 :: []), [], [], fun _ => VP.of (z4), fun _ _ => ⟨none, .dead⟩⟩ :: ⟨some 80, [], [], [], fun _ => VP.eq (.pointer (some ⟨p5, 0 + 1, none⟩)), fun _ _ => ⟨none, .dead⟩⟩ :: ⟨some 81, (6 :: []), (0 :: []), [], fun _ => VP.of ((lget y6.f_Params k4).f_Bits), fun _ _ => ⟨none, .dead⟩⟩ :: ⟨some 82, (5 :: 7 :: []), [], [], fun _ => VP.of (y8), fun _ _ => ⟨none, .dead⟩⟩ :: ⟨some 83, (8 :: []), [], [], fun _ => VP.of ([y8]), fun _ _ => ⟨none, .dead⟩⟩ :: ⟨some 84, (1 :: 9 :: []), (4 :: []), (4 :: []), fun hd => VP.eq (slv (hd 10 0) y9.length ((hd 10 1).getD 0)), fun hd _ => ⟨(hd 10 0), .row 24 (y9 : List T_api_Value) ((hd 10 1).getD 0)⟩⟩ :: ⟨some 85, [], [], [], fun _ => VP.eq (.pointer (some ⟨p3, 0 + 4, none⟩)), fun _ _ => ⟨none, .dead⟩⟩ :: ⟨none, (1 :: 10 :: 11 :: []), (3 :: []), (3 :: []), fun _ => VP.any, fun hd _ => ⟨some p3, .varX (({ s2.2.1 with f_Args := [] } : T_api_Entry) : T_api_Entry) [(1, slv g1.1 e1.2.2.2.1.length g1.2), (4, slv (hd 10 0) y9.length ((hd 10 1).getD 0))]⟩⟩ :: []) ((some 74, [], [], []) :: (some 75, (0 :: []), (3 :: []), []) :: (some 76, [], [], []) :: (some 77, (2 :: []), (9 :: []), (9 :: [])) :: (some 78, (3 :: []), [], []) :: (some 79, (4 :: []), [], []) :: (some 80, [], [], []) :: (some 81, (6 :: []), (0 :: []), []) :: (some 82, (5 :: 7 :: []), [], []) :: (some 83, (8 :: []), [], []) :: (some 84, (1 :: 9 :: []), (4 :: []), (4 :: [])) :: (some 85, [], [], []) :: (none, (1 :: 10 :: 11 :: []), (3 :: []), (3 :: [])) :: []) (0 :: 1 :: 2 :: 4 :: 6 :: 7 :: 8 :: 12 :: 26 :: 27 :: 28 :: 29 :: 68 :: 69 :: 70 :: 71 :: 72 :: 73 :: []) rfl rfl (by kernel_rfl) ⟨?_, ?_, ?_, ?_, ?_, ?_, ?_, ?_, ?_, ?_, ?_, ?_, ?_, trivial⟩ fun hd => ?_
        · exact hd_v rfl rfl rfl fun hd E' L' hE hL => r_fa fd91_4 (look_t (hE _ _ rfl))
        · exact hd_v rfl rfl rfl fun hd E' L' hE hL => r_loadH (i := 3) (q := 1) (β := T_api_Entry) (γ := T_api_Value) ty89 (look_t (hE _ _ rfl)) (hL 3 _ rfl rfl) rfl
        · exact hd_v rfl rfl rfl fun hd E' L' hE hL => r_move (look_t (hE _ _ rfl))
        · intro hd E' L' hE hL
          refine Sq.bring 9 (hL 9 _ rfl rfl) ?_
          refine Sq.callO (Lin := [⟨some pp0, .var (s2.2.2.2 : T_mcase_Codes)⟩]) (Lr := L'.eraseIdx 9) en72 (C_mcase_Codes_Next hy7) ⟨look_t (hE _ _ rfl), look_int 256, trivial⟩ rfl fun q6 => ?_
          refine Sq.nil ?_
          refine To.back 9 (hL 9 _ rfl rfl) ?_
          exact To.fin (gm []) rfl rfl
        · exact hd_v rfl rfl rfl fun hd E' L' hE hL => r_ci64 Try.underlying3 Try.underlying22 (look_t (hE _ _ rfl))
        · exact hd_v rfl rfl rfl fun hd E' L' hE hL => (r_build (b := ({ (default : T_api_Value) with f_Lo := BitVec.ofInt 64 y7.1 } : T_api_Value)) rfl bu24 zr24 (.cons le_T_api_Value_Lo rfl (look_t (hE _ _ rfl)) rfl (.nil))).as (some_in hz4)
        · exact hd_v rfl rfl rfl fun hd E' L' hE hL => r_fa fd149_1 (look_t (hE _ _ rfl))
        · exact hd_v rfl rfl rfl fun hd E' L' hE hL => r_load (i := 0) ((Lens.id T_api_Param).comp le_T_api_Param_Bits) (r := (lget y6.f_Params k4).f_Bits) ty3 (look_t (hE _ _ rfl)) (hL 0 _ rfl rfl) rfl rfl
        · exact hd_v rfl rfl rfl fun hd E' L' hE hL => r_call en48 (C_mcase_Low hy8) ⟨look_t (hE _ _ rfl), look_t (hE _ _ rfl), trivial⟩
        · exact hd_v rfl rfl rfl fun hd E' L' hE hL => r_bsl (r := [y8]) Try.underlying89 ty24 zr24 rfl rfl (.cons (by simp) (look_t (hE _ _ rfl)) (.nil))
        · intro hd E' L' hE hL
          refine Sq.app (i := 4) Try.underlying89 ty24 zr24 (bytes := 16) (by kernel_rfl) (look_t (hE _ _ rfl)) (hL 4 _ rfl rfl) (look_t (hE _ _ rfl)) hy9 rfl fun key2 cap2 => ?_
          refine Sq.nil ?_
          exact To.fin (gm [key2, some cap2]) rfl rfl
        · exact hd_v rfl rfl rfl fun hd E' L' hE hL => r_fa fd91_4 (look_t (hE _ _ rfl))
        · intro hd E' L' hE hL
          refine Sq.storeH (i := 3) (γ := T_api_Value) (b' := (({ s2.2.1 with f_Args := [] } : T_api_Entry) : T_api_Entry)) (os' := [(1, slv g1.1 e1.2.2.2.1.length g1.2), (4, slv (hd 10 0) y9.length ((hd 10 1).getD 0))]) ((Lens.id T_api_Entry).comp le_T_api_Entry_Args) ty89 (look_t (hE _ _ rfl)) (look_t (hE _ _ rfl)) slv_one (hL 3 _ rfl rfl) rfl rfl rfl ?_
          refine Sq.nil ?_
          exact To.fin (gm []) rfl rfl
        refine To.eqL (L2 := [⟨some p5, .var (lget y6.f_Params k4 : T_api_Param)⟩, ⟨none, .row 24 (([] : List T_api_Value) : List T_api_Value) 0⟩, ⟨none, .row 141 (([] : List T_api_Match) : List T_api_Match) 0⟩, ⟨some p3, .varX (({ s2.2.1 with f_Args := [] } : T_api_Entry) : T_api_Entry) [(1, slv g1.1 e1.2.2.2.1.length g1.2), (4, slv (hd 10 0) y9.length ((hd 10 1).getD 0))]⟩, ⟨(hd 10 0), .row 24 (y9 : List T_api_Value) ((hd 10 1).getD 0)⟩, ⟨g1.1, .row 141 (e1.2.2.2.1 : List T_api_Match) g1.2⟩, ⟨some (ps1 9), .var (lget x1.f_Tables k1 : T_api_Table)⟩, ⟨some p2, .var ((default : T_api_Entry) : T_api_Entry)⟩, ⟨some p1, .var (x1 : T_api_Schema)⟩, ⟨some pp0, .var (y7.2 : T_mcase_Codes)⟩]) rfl ?_
        refine To.le (E' := [(0, VP.eq (.pointer (some ⟨pp0, 0, none⟩))), (1, VP.of (x1)), (2, VP.of (x2)), (4, VP.eq (.pointer (some ⟨p1, 0, none⟩))), (6, VP.eq (.pointer (some ⟨p2, 0, none⟩))), (7, VP.eq (.pointer (some ⟨(ps1 9), 0, none⟩))), (8, VP.eq (.pointer (some ⟨p3, 0, none⟩))), (12, VP.eq (.pointer (some ⟨p5, 0, none⟩))), (26, VP.of ((lget x1.f_Tables k1).f_Keys)), (27, VP.of (((lget x1.f_Tables k1).f_Keys).length : Int)), (28, VP.of (e1.1)), (29, VP.of (e1.2.1)), (68, VP.of (y6.f_Params)), (69, VP.of (y6.f_Params.length : Int)), (70, VP.of (s2.1)), (71, VP.of (decide (s2.1 < (y6.f_Params.length : Int)))), (72, VP.ptr (lget y6.f_Params k4)), (73, VP.of (lget y6.f_Params k4)), (74, VP.eq (.pointer (some ⟨p3, 0 + 4, none⟩))), (76, VP.eq (.pointer (some ⟨pp0, 0, none⟩))), (77, VP.of (y7.1)), (78, VP.of (BitVec.ofInt 64 y7.1)), (79, VP.of (z4)), (80, VP.eq (.pointer (some ⟨p5, 0 + 1, none⟩))), (81, VP.of ((lget y6.f_Params k4).f_Bits)), (82, VP.of (y8)), (83, VP.of ([y8])), (84, VP.eq (slv (hd 10 0) y9.length ((hd 10 1).getD 0))), (85, VP.eq (.pointer (some ⟨p3, 0 + 4, none⟩)))]) (.same rfl (.same rfl (.same rfl (.same rfl (.same rfl (.same rfl (.same rfl (.same rfl (.same rfl (.same rfl (.same rfl (.same rfl (.same rfl (.same rfl (.same rfl (.same rfl (.same rfl (.same rfl (.same rfl (.same rfl (.same rfl (.same rfl (.same rfl (.same rfl (.same rfl (.same rfl (.same rfl (.same rfl (.same rfl .nil))))))))))))))))))))))))))))) ?_
        refine To.bnorm ?_
        refine To.next ?_
        refine Wp.reg ?_
        refine Sq.v (r_add (look_t rfl) (look_int 1)) rfl rfl rfl ?_
        refine Sq.v (r_move (look_t rfl)) rfl rfl rfl ?_
        refine Sq.nil ?_
        replace h := some_in h
        subst h
        exact To.roundG ((hd 10 0), ((hd 10 1).getD 0)) 1 rfl (.same rfl (.same rfl (.same rfl (.same rfl (.same rfl (.same rfl (.same rfl (.same rfl (.same rfl (.same rfl (.same rfl (.same rfl (.same rfl (.same rfl .nil))))))))))))))
      · replace h := cond_f hc h
        refine Wp.exit ?_
        refine To.exit ?_
        replace h := some_in h
        subst h
        exact To.leaveG (g3.1, g3.2) 0 rfl (by simp) rfl (.same rfl (.same rfl (.same rfl (.same rfl (.same rfl (.same rfl (.same rfl (.same rfl (.same rfl (.same rfl (.same rfl (.same rfl (.same rfl (.same rfl (.same rfl .nil)))))))))))))))
    · clear hl
      refine To.bexit ?_
      refine To.next ?_
      refine Wp.seq ?_
      refine Wp.reg ?_
      refine Sq.thaw (β := T_api_Entry) (γ := T_api_Match) (b' := (({ e2.2.2.1 with f_Matches := e1.2.2.2.1 } : T_api_Entry) : T_api_Entry)) ((Lens.id T_api_Entry).comp le_T_api_Entry_Matches) 2 4 0 rfl rfl rfl rfl rfl rfl ?_
      refine Sq.thaw (β := T_api_Entry) (γ := T_api_Value) (b' := (({ ({ e2.2.2.1 with f_Matches := e1.2.2.2.1 } : T_api_Entry) with f_Args := e2.2.2.2.1 } : T_api_Entry) : T_api_Entry)) ((Lens.id T_api_Entry).comp le_T_api_Entry_Args) 2 3 0 rfl rfl rfl rfl rfl rfl ?_
      refine Sq.fromX 2 rfl ?_
      obtain ⟨z5, hz5, h⟩ := bind_some h
      refine Sq.v ((r_load (i := 2) (Lens.id T_api_Entry) (r := ({ ({ e2.2.2.1 with f_Matches := e1.2.2.2.1 } : T_api_Entry) with f_Args := e2.2.2.2.1 } : T_api_Entry)) ty91 (look_t rfl) rfl rfl rfl).as (some_in hz5)) rfl rfl rfl ?_
      refine Sq.store (i := 6) (Lens.id T_api_Entry) (v := (z5 : T_api_Entry)) (b' := (z5 : T_api_Entry)) ty91 (look_t rfl) (look_t rfl) rfl rfl rfl ?_
      refine Sq.nil ?_
      refine To.next ?_
      refine Wp.ret ?_
      refine To.bring 8 rfl ?_
      replace h := some_in h
      subst h
      exact To.endO1 () (.cons_cons _ (List.nil_sublist _)) rfl rfl (rvo_c (i := 7) ty91 rfl rfl)
end Go.Proofs.Ytabodolbdalimaa
