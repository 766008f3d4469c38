/-
  Each function meets its functional program. Conditions: none.
-/
import Derived.Test.YtmlgdkccoomiaaaJc0
import Derived.Test.YtmlgdkccoomiaaaJd
namespace Go.Proofs.Ytmlgdkccoomiaaa
open Go Gv
set_option linter.unusedVariables false
set_option linter.unusedSimpArgs false
set_option maxRecDepth 100000
set_option maxHeartbeats 2000000
attribute [local irreducible] Sq Wp To HR Look Stp LQG LQW VP.of VP.ptr VP.eq VP.cond VP.tup
theorem C_mcase_Codes_tables {x0 pp0 r} (h : L_mcase_Codes_tables x0 = some r) : MV Try.prog 18 [VP.pb pp0] pp0 x0 (VP.of (r.1)) r.2 := by
 unfold L_mcase_Codes_tables at h
 refine MeetsO.of Try.func18 rfl Try.ntmps18 rfl fun W A => Qsr (Qv (r_asg (look_nil (α := T_api_Table))) ?_)
 refine go1 fun z1 hz1 h => ?_
 refine Sq.bring 0 rfl (Qbf h fun y1 hy1 h => QcO 1 en15 (C_mcase_Codes_Next hy1) fun q1 => ?_)
 refine go1 ?_
 refine Sq.bring 0 rfl (Qbf h fun y2 hy2 h => QcO 1 en15 (C_mcase_Codes_Next hy2) fun q2 => ?_)
 refine Q2 r_add ?_
 refine Qbf h fun z2 hz2 h => Qn hz2 (r_build (b := ({ (default : T_api_Table) with f_ID := 1, f_Name := ByteArray.mk #[112, 111, 114, 116, 115], f_Keys := [z1], f_Actions := ([1, 2, 4] : List Int), f_Default := w64 (1 + y1.1), f_Size := w64 (2 + y2.1) } : T_api_Table)) rfl bu81 zr81 (.cons le_T_api_Table_ID rfl (look_int 1) rfl (.cons le_T_api_Table_Name rfl (look_str (ByteArray.mk #[112, 111, 114, 116, 115])) rfl (.cons le_T_api_Table_Keys rfl (look_t rfl) rfl (.cons le_T_api_Table_Actions rfl (look_t rfl) rfl (.cons le_T_api_Table_Default rfl (look_t rfl) rfl (.cons le_T_api_Table_Size rfl (look_t rfl) rfl (.nil)))))))) ?_
 refine Qal zr81 fun p1 => ?_
 refine Qs0 0 ty81 (Qnr ?_)
 refine Qbf h fun z3 hz3 h => Qn hz3 (r_build (b := { f_Name := ByteArray.mk #[100], f_Field := 7, f_Kind := 2 : T_api_Key }) rfl bu110 zr110 (.cons le_T_api_Key_Name rfl (look_str (ByteArray.mk #[100])) rfl (.cons le_T_api_Key_Field rfl (look_int 7) rfl (.cons le_T_api_Key_Kind rfl (look_int 2) rfl (.nil))))) ?_
 refine Sq.bslO (α := T_api_Key) (r := [z3]) Try.underlying79 ty110 zr110 rfl rfl (.cons (by simp) (look_t rfl) (.nil)) rfl fun key1 => ?_
 refine go1 ?_
 refine Sq.bring 2 rfl (Qbf h fun y3 hy3 h => QcO 1 en15 (C_mcase_Codes_Next hy3) fun q3 => ?_)
 refine Q2 r_add ?_
 refine Qv (r_buildX (b := ({ (default : T_api_Table) with f_ID := 2, f_Name := ByteArray.mk #[114, 111, 117, 116, 101, 115], f_Actions := ([1, 2, 3, 4] : List Int), f_Default := 2, f_Size := w64 (3 + y3.1) } : T_api_Table)) [] zh81_n rfl bu81 zr81 (.cons le_T_api_Table_ID rfl (look_int 2) rfl (by rfl) (.cons le_T_api_Table_Name rfl (look_str (ByteArray.mk #[114, 111, 117, 116, 101, 115])) rfl (by rfl) (.hole le_T_api_Table_Keys rfl (look_t rfl) slv_one rfl rfl (.cons le_T_api_Table_Actions rfl (look_t rfl) rfl (by rfl) (.cons le_T_api_Table_Default rfl (look_int 2) rfl (by rfl) (.cons le_T_api_Table_Size rfl (look_t rfl) rfl (by rfl) (.nil)))))))) ?_
 refine Sq.allocX (z := (default : T_api_Table)) [2] zh81_2 zr81 rfl fun p2 => Sq.own (α := T_api_Key) 110 (Sq.storeW (i := 1) ty81 (look_t rfl) (look_t rfl) rfl ?_)
 refine go1 ?_
 refine Sq.bring 2 rfl (Qbf h fun y4 hy4 h => QcO 1 en20 (C_mcase_Codes_Bool hy4) fun q4 => Qnx ?_)
 refine Qbf h fun m1 hm1 h => ?_
 refine Qcm (γ:=(Option Nat × Nat)) [0, 2, 3, 4, 28] (fun g1 => []) (fun g1 => [(2, ⟨some p2, .varX m1.1 [(2, slv g1.1 m1.2.length g1.2)]⟩), (3, ⟨g1.1, .row 110 m1.2 g1.2⟩)]) (fun g1 => ?_) (fun hm hc => ?_) fun hm hc => ?_
 ·clear hm1
  refine To.next (Qsr (Qbf h fun z4 hz4 h => Qn hz4 (r_build (b := { f_Name := ByteArray.mk #[101], f_Field := 6, f_Kind := 3 : T_api_Key }) rfl bu110 zr110 (.cons le_T_api_Key_Name rfl (look_str (ByteArray.mk #[101])) rfl (.cons le_T_api_Key_Field rfl (look_int 6) rfl (.cons le_T_api_Key_Kind rfl (look_int 3) rfl (.nil))))) ?_))
  refine Qbf h fun z5 hz5 h => Qn hz5 (r_build (b := { f_Name := ByteArray.mk #[97], f_Field := 4, f_Kind := 3 : T_api_Key }) rfl bu110 zr110 (.cons le_T_api_Key_Name rfl (look_str (ByteArray.mk #[97])) rfl (.cons le_T_api_Key_Field rfl (look_int 4) rfl (.cons le_T_api_Key_Kind rfl (look_int 3) rfl (.nil))))) ?_
  refine Sq.bslO (α := T_api_Key) (r := [z4, z5]) Try.underlying79 ty110 zr110 rfl rfl (.cons (by simp) (look_t rfl) (.cons (by simp) (look_t rfl) (.nil))) rfl fun key2 => ?_
  refine go1 ?_
  refine Sq.bring 1 rfl (Qbf h fun y5 hy5 h => QcO 1 en15 (C_mcase_Codes_Next hy5) fun q5 => ?_)
  refine Q2 r_add ?_
  refine Qv (r_buildX (b := ({ (default : T_api_Table) with f_ID := 3, f_Name := ByteArray.mk #[97, 99, 108], f_Actions := ([1, 2, 3, 5, 6] : List Int), f_Default := 1, f_Size := w64 (4 + y5.1) } : T_api_Table)) [] zh81_n rfl bu81 zr81 (.cons le_T_api_Table_ID rfl (look_int 3) rfl (by rfl) (.cons le_T_api_Table_Name rfl (look_str (ByteArray.mk #[97, 99, 108])) rfl (by rfl) (.hole le_T_api_Table_Keys rfl (look_t rfl) slv_one rfl rfl (.cons le_T_api_Table_Actions rfl (look_t rfl) rfl (by rfl) (.cons le_T_api_Table_Default rfl (look_int 1) rfl (by rfl) (.cons le_T_api_Table_Size rfl (look_t rfl) rfl (by rfl) (.nil)))))))) ?_
  refine Sq.allocX (z := (default : T_api_Table)) [2] zh81_2 zr81 rfl fun p3 => Sq.own (α := T_api_Key) 110 (Sq.storeW (i := 1) ty81 (look_t rfl) (look_t rfl) rfl ?_)
  refine go1 ?_
  refine Sq.bring 2 rfl (Qbf h fun y6 hy6 h => QcO 1 en20 (C_mcase_Codes_Bool hy6) fun q6 => Qnx ?_)
  refine Qbf h fun m2 hm2 h => ?_
  refine Qcm (γ:=(Option Nat × Nat)) [0, 2, 3, 4, 5, 28, 44] (fun g2 => []) (fun g2 => [(2, ⟨some p3, .varX m2.1 [(2, slv g2.1 m2.2.length g2.2)]⟩), (3, ⟨g2.1, .row 110 m2.2 g2.2⟩)]) (fun g2 => ?_) (fun hm hc => ?_) fun hm hc => ?_
  ·clear hm2
   refine To.next (Qsr (Qbf h fun z6 hz6 h => Qn hz6 (r_build (b := { f_Name := ByteArray.mk #[102], f_Field := 8, f_Kind := 4 : T_api_Key }) rfl bu110 zr110 (.cons le_T_api_Key_Name rfl (look_str (ByteArray.mk #[102])) rfl (.cons le_T_api_Key_Field rfl (look_int 8) rfl (.cons le_T_api_Key_Kind rfl (look_int 4) rfl (.nil))))) ?_))
   refine Sq.bslO (α := T_api_Key) (r := [z6]) Try.underlying79 ty110 zr110 rfl rfl (.cons (by simp) (look_t rfl) (.nil)) rfl fun key3 => ?_
   refine go1 ?_
   refine Sq.bring 1 rfl (Qbf h fun y7 hy7 h => QcO 1 en15 (C_mcase_Codes_Next hy7) fun q7 => ?_)
   refine Q2 r_add ?_
   refine Qv (r_buildX (b := ({ (default : T_api_Table) with f_ID := 4, f_Name := ByteArray.mk #[115, 112, 97, 110, 115], f_Actions := ([1, 3, 5] : List Int), f_Default := 3, f_DefaultArgs := [({ (default : T_api_Value) with f_Lo := 7#64 } : T_api_Value)], f_Size := w64 (3 + y7.1) } : T_api_Table)) [] zh81_n rfl bu81 zr81 (.cons le_T_api_Table_ID rfl (look_int 4) rfl (by rfl) (.cons le_T_api_Table_Name rfl (look_str (ByteArray.mk #[115, 112, 97, 110, 115])) rfl (by rfl) (.hole le_T_api_Table_Keys rfl (look_t rfl) slv_one rfl rfl (.cons le_T_api_Table_Actions rfl (look_t rfl) rfl (by rfl) (.cons le_T_api_Table_Default rfl (look_int 3) rfl (by rfl) (.cons le_T_api_Table_DefaultArgs rfl (look_t rfl) rfl (by rfl) (.cons le_T_api_Table_Size rfl (look_t rfl) rfl (by rfl) (.nil))))))))) ?_
   refine Sq.allocX (z := (default : T_api_Table)) [2] zh81_2 zr81 rfl fun p4 => Sq.own (α := T_api_Key) 110 (Sq.storeW (i := 1) ty81 (look_t rfl) (look_t rfl) rfl ?_)
   refine go1 ?_
   refine Sq.bring 2 rfl (Qbf h fun y8 hy8 h => QcO 1 en20 (C_mcase_Codes_Bool hy8) fun q8 => Qnx ?_)
   refine Qbf h fun m3 hm3 h => ?_
   refine Qcm (γ:=(Option Nat × Nat)) [0, 2, 3, 4, 5, 6, 28, 44, 61] (fun g3 => []) (fun g3 => [(2, ⟨some p4, .varX m3.1 [(2, slv g3.1 m3.2.length g3.2)]⟩), (3, ⟨g3.1, .row 110 m3.2 g3.2⟩)]) (fun g3 => ?_) (fun hm hc => ?_) fun hm hc => ?_
   ·clear hm3
    refine To.next (Qsr (Ql0 10 ty81 ?_))
    refine Sq.thaw (β := T_api_Table) (γ := T_api_Key) (b' := ({ m1.1 with f_Keys := m1.2 } : T_api_Table)) ((Lens.id T_api_Table).comp le_T_api_Table_Keys) 8 9 0 rfl rfl rfl rfl rfl rfl (Sq.fromX 8 rfl (Ql0 8 ty81 ?_))
    refine Sq.thaw (β := T_api_Table) (γ := T_api_Key) (b' := ({ m2.1 with f_Keys := m2.2 } : T_api_Table)) ((Lens.id T_api_Table).comp le_T_api_Table_Keys) 5 6 0 rfl rfl rfl rfl rfl rfl (Sq.fromX 5 rfl (Ql0 5 ty81 ?_))
    refine Sq.thaw (β := T_api_Table) (γ := T_api_Key) (b' := ({ m3.1 with f_Keys := m3.2 } : T_api_Table)) ((Lens.id T_api_Table).comp le_T_api_Table_Keys) 2 3 0 rfl rfl rfl rfl rfl rfl (Sq.fromX 2 rfl (Ql0 2 ty81 ?_))
    refine Qbf h fun z7 hz7 h => ?_
    refine Sq.bslN (α := T_api_Table) (r0 := [z2, ({ m1.1 with f_Keys := m1.2 } : T_api_Table), ({ m2.1 with f_Keys := m2.2 } : T_api_Table), ({ m3.1 with f_Keys := m3.2 } : T_api_Table)]) (r := z7) Try.underlying27 ty81 zr81 rfl rfl (.cons (by simp) (look_t rfl) (.cons (by simp) (look_t rfl) (.cons (by simp) (look_t rfl) (.cons (by simp) (look_t rfl) (.nil))))) (some_in hz7) rfl fun key4 => ?_
    refine go1 fun z8 hz8 z9 hz9 z10 hz10 z11 hz11 h => ?_
    refine Qv (r_lenO (i := 0) Try.underlying27 (look_t rfl) rfl rfl) ?_
    refine Qm (Qnx (Wp.block ?_))
    refine Qbf h fun e1 hl h => ?_
    refine Qlp (γ:=(Option Nat × Nat)) (δ:=(Option Nat × Nat)) hl [0, 2, 3, 4, 5, 6, 8, 28, 44, 61, 80] (fun s1 g4 => [(7, VP.eq (slv g4.1 s1.2.1.length g4.2)), (81, VP.of (s1.1))]) (fun s1 g4 => [(0, ⟨g4.1, .row 81 s1.2.1 g4.2⟩), (1, vr pp0 s1.2.2)]) (fun q9 => Exit.exit 0) (fun q9 g4 => [(7, VP.eq (slv g4.1 q9.2.2.1.length g4.2)), (81, VP.of (q9.1)), (82, VP.of (q9.2.1))]) (fun q9 g4 => [(0, ⟨g4.1, .row 81 q9.2.2.1 g4.2⟩), (1, vr pp0 q9.2.2.2)]) (key4, 4) (fun s1 r h g4 => ?_) fun g4 => ?_
    ·clear hl
     refine go2 (fun h => ?_) (fun h => ?_)
     ·refine Qbf h fun k1 hk1 h => Qbf h fun y9 hy9 h => Qbf h fun k2 hk2 h => Qbf h fun k3 hk3 h => Qbf h fun z12 hz12 h => Qwl [0, 2, 3, 4, 5, 6, 7, 8, 9, 28, 44, 61, 80, 81, 82, 83] ?_
      refine Wp.eD mixed (Hp 84 [] [] _ :: Hp 85 [] [] _ :: Hp 86 [] [] _ :: Hp 87 [] [] _ :: Hp 88 [2, 3] [] _ :: Hp 89 [4] [] _ :: Hp 90 [] [] _ :: ⟨some 91, [6], [1], [1], fun _ => VP.of (y9.1), fun hd _ => vr pp0 y9.2⟩ :: Hp 92 [5, 7] [] _ :: Hp 93 [8] [] _ :: Hp 94 [0, 1] [0] _ :: Hp 95 [10] [] _ :: Hs [9, 10, 11] [0] [0] (fun hd => ⟨g4.1, .row 81 z12 g4.2⟩) :: []) ⟨Dm, Dm, Dm, Dm, Du fun hE hL => r_ias (k := k1) Try.underlying112 ty111 (look_t (hE _ _ rfl)) (look_t (hE _ _ rfl)) (idx_some hk1), D1 (r_loadp ty111), Dm, ?_, Du fun hE hL => r_ias (k := k2) Try.underlying111 ty9 (look_t (hE _ _ rfl)) (look_t (hE _ _ rfl)) (idx_some hk2), D1 (r_loadp ty9), Du fun hE hL => r_iaO (i := 0) (k := k3) (xs := (s1.2.1 : List T_api_Table)) Try.underlying27 ty81 (look_t (hE _ _ rfl)) (look_t (hE _ _ rfl)) (hL 0 _ rfl rfl) (idx_some hk3), D1 (r_fa fd81_7.fd), ?_, trivial⟩ fun hd1 => ?_
      ·intro hd E' L' hE hL
       refine Sq.bring 1 (hL 1 _ rfl rfl) (Sq.callO (Lin := [vr pp0 s1.2.2]) (Lr := L'.eraseIdx 1) en15 (C_mcase_Codes_Next hy9) ⟨look_t (hE _ _ rfl), look_int 3, trivial⟩ rfl fun q10 => Sq.nil (To.back 1 (hL 1 _ rfl rfl) ?_))
       exact To.fin (gm []) rfl rfl
      ·intro hd E' L' hE hL
       refine Sq.storeR (i := 0) (k := k3) ((Lens.id T_api_Table).comp le_T_api_Table_Restriction) (v := (lget (lget [z8, z9, z10, z11] k1) k2 : ByteArray)) (r := (z12 : List T_api_Table)) ty9 (look_t (hE _ _ rfl)) (look_t (hE _ _ rfl)) (hL 0 _ rfl rfl) (idx_some hk3).1 rfl (some_in hz12) (Sq.nil ?_)
       exact To.fin (gm []) rfl rfl
      refine To.eqL (L2 := [⟨g4.1, .row 81 z12 g4.2⟩, vr pp0 y9.2, ⟨none, .row 110 ([] : List T_api_Key) 0⟩, vr p4 ({ m3.1 with f_Keys := m3.2 } : T_api_Table), ⟨none, .dead⟩, ⟨none, .row 110 ([] : List T_api_Key) 0⟩, vr p3 ({ m2.1 with f_Keys := m2.2 } : T_api_Table), ⟨none, .dead⟩, ⟨none, .row 110 ([] : List T_api_Key) 0⟩, vr p2 ({ m1.1 with f_Keys := m1.2 } : T_api_Table), ⟨none, .dead⟩, vr p1 z2]) rfl (To.relen (m := z12.length) 7 rfl (lset_len (some_in hz12)) (To.relen (m := z12.length) 84 rfl (lset_len (some_in hz12)) (Qte ?_)))
      refine go1 ?_
      cases h
      exact Qrd (g4.1, g4.2) 0
     ·cases h
      exact Qlv (g4.1, g4.2) 0
    ·clear hl
     refine go1 ?_
     refine To.freezeL (α := T_api_Table) 0 [2, 7, 97] ⟨rfl, rfl, rfl, trivial⟩ rfl ?_
     exact go
   ·have h := cond_t hc hm3
    refine Wp.reg (Q1 (r_fa fd81_2.fd) ?_)
    refine Qv (r_loadH (i := 2) (q := 0) (β := T_api_Table) (γ := T_api_Key) ty79 (look_t rfl) rfl rfl) ?_
    refine go1 fun z13 hz13 z14 hz14 h => ?_
    refine Qbf h fun y10 hy10 h => Qap 3 Try.underlying79 ty110 zr110 hy10 fun key5 cap1 => ?_
    refine Q1 (r_fa fd81_2.fd) ?_
    refine Sq.storeH (i := 2) (γ := T_api_Key) (b' := ({ ({ (default : T_api_Table) with f_ID := 4, f_Name := ByteArray.mk #[115, 112, 97, 110, 115], f_Actions := ([1, 3, 5] : List Int), f_Default := 3, f_DefaultArgs := [({ (default : T_api_Value) with f_Lo := 7#64 } : T_api_Value)], f_Size := w64 (3 + y7.1) } : T_api_Table) with f_Keys := [] } : T_api_Table)) (os' := [(2, slv key5 y10.length cap1)]) ((Lens.id T_api_Table).comp le_T_api_Table_Keys) ty79 (look_t rfl) (look_t rfl) slv_one rfl rfl rfl rfl (Sq.nil ?_)
    cases h
    exact Qmt 0 (hm (key5, cap1))
   ·have h := cond_f hc hm3
    refine Wp.skip ?_
    cases h
    exact Qmt 0 (hm (key3, 1))
  ·have h := cond_t hc hm2
   refine Wp.reg (Q1 (r_fa fd81_2.fd) ?_)
   refine Qv (r_loadH (i := 2) (q := 0) (β := T_api_Table) (γ := T_api_Key) ty79 (look_t rfl) rfl rfl) ?_
   refine go1 fun z15 hz15 h => ?_
   refine Qbf h fun y11 hy11 h => Qap 3 Try.underlying79 ty110 zr110 hy11 fun key6 cap2 => ?_
   refine Q1 (r_fa fd81_2.fd) ?_
   refine Sq.storeH (i := 2) (γ := T_api_Key) (b' := ({ ({ (default : T_api_Table) with f_ID := 3, f_Name := ByteArray.mk #[97, 99, 108], f_Actions := ([1, 2, 3, 5, 6] : List Int), f_Default := 1, f_Size := w64 (4 + y5.1) } : T_api_Table) with f_Keys := [] } : T_api_Table)) (os' := [(2, slv key6 y11.length cap2)]) ((Lens.id T_api_Table).comp le_T_api_Table_Keys) ty79 (look_t rfl) (look_t rfl) slv_one rfl rfl rfl rfl (Sq.nil ?_)
   cases h
   exact Qmt 0 (hm (key6, cap2))
  ·have h := cond_f hc hm2
   refine Wp.skip ?_
   cases h
   exact Qmt 0 (hm (key2, 2))
 ·have h := cond_t hc hm1
  refine Wp.reg (Q1 (r_fa fd81_2.fd) ?_)
  refine Qv (r_loadH (i := 2) (q := 0) (β := T_api_Table) (γ := T_api_Key) ty79 (look_t rfl) rfl rfl) ?_
  refine go1 fun z16 hz16 h => ?_
  refine Qbf h fun y12 hy12 h => Qap 3 Try.underlying79 ty110 zr110 hy12 fun key7 cap3 => ?_
  refine Q1 (r_fa fd81_2.fd) ?_
  refine Sq.storeH (i := 2) (γ := T_api_Key) (b' := ({ ({ (default : T_api_Table) with f_ID := 2, f_Name := ByteArray.mk #[114, 111, 117, 116, 101, 115], f_Actions := ([1, 2, 3, 4] : List Int), f_Default := 2, f_Size := w64 (3 + y3.1) } : T_api_Table) with f_Keys := [] } : T_api_Table)) (os' := [(2, slv key7 y12.length cap3)]) ((Lens.id T_api_Table).comp le_T_api_Table_Keys) ty79 (look_t rfl) (look_t rfl) slv_one rfl rfl rfl rfl (Sq.nil ?_)
  cases h
  exact Qmt 0 (hm (key7, cap3))
 ·have h := cond_f hc hm1
  refine Wp.skip ?_
  cases h
  exact Qmt 0 (hm (key1, 1))
end Go.Proofs.Ytmlgdkccoomiaaa

namespace Go.Proofs.Ytmlgdkccoomiaaa
open Go Gv
set_option linter.unusedVariables false
set_option linter.unusedSimpArgs false
set_option maxRecDepth 100000
set_option maxHeartbeats 2000000
attribute [local irreducible] Sq Wp To HR Look Stp LQG LQW VP.of VP.ptr VP.eq VP.cond VP.tup
theorem C_mcase_Codes_roles {x0 x1 pp0 r} (h : L_mcase_Codes_roles x0 x1 = some r) : MV Try.prog 19 [VP.pb pp0, VP.of (x1)] pp0 x0 (VP.of (r.1)) r.2 := by
 unfold L_mcase_Codes_roles at h
 refine MeetsO.of Try.func19 rfl Try.ntmps19 rfl fun W A => Qsr (Qv (r_asg (look_nil (α := T_api_Role))) (Qnr ?_))
 refine Qbl ([1, 2, 3, 4, 5, 6] : List Int) Try.underlying68 ty3 zr3 ?_
 refine Qv (r_buildX (b := ({ (default : T_api_Role) with f_ID := 1, f_Name := ByteArray.mk #[97, 108, 108], f_Actions := ([1, 2, 3, 4, 5, 6] : List Int), f_Quota := 40, f_Audit := true } : T_api_Role)) [2] zh115_2 rfl bu115 zr115 (.cons le_T_api_Role_ID rfl (look_int 1) rfl (by rfl) (.cons le_T_api_Role_Name rfl (look_str (ByteArray.mk #[97, 108, 108])) rfl (by rfl) (.cons le_T_api_Role_Actions rfl (look_t rfl) rfl (by rfl) (.cons le_T_api_Role_Quota rfl (look_int 40) rfl (by rfl) (.cons le_T_api_Role_Audit rfl (look_bool true) rfl (by rfl) (.nil))))))) ?_
 refine Sq.own (α := T_api_Grant) 118 (Sq.allocX (z := (default : T_api_Role)) [2] zh115_2 zr115 rfl fun p1 => Sq.own (α := T_api_Grant) 118 (Sq.storeW (i := 1) ty115 (look_t rfl) (look_t rfl) rfl ?_))
 refine go1 ?_
 refine Sq.bring 3 rfl (Qbf h fun y1 hy1 h => QcO 1 en15 (C_mcase_Codes_Next hy1) fun q1 => ?_)
 refine go1 ?_
 refine Sq.bring 0 rfl (Qbf h fun y2 hy2 h => QcO 1 en15 (C_mcase_Codes_Next hy2) fun q2 => ?_)
 refine Q2 r_add ?_
 refine Qv (r_buildX (b := ({ (default : T_api_Role) with f_ID := 2, f_Name := ByteArray.mk #[115, 111, 109, 101], f_Actions := ([1, 2, w64 (3 + y1.1)] : List Int), f_Quota := w64 (1 + y2.1) } : T_api_Role)) [2] zh115_2 rfl bu115 zr115 (.cons le_T_api_Role_ID rfl (look_int 2) rfl (by rfl) (.cons le_T_api_Role_Name rfl (look_str (ByteArray.mk #[115, 111, 109, 101])) rfl (by rfl) (.cons le_T_api_Role_Actions rfl (look_t rfl) rfl (by rfl) (.cons le_T_api_Role_Quota rfl (look_t rfl) rfl (by rfl) (.nil)))))) ?_
 refine Sq.own (α := T_api_Grant) 118 (Sq.allocX (z := (default : T_api_Role)) [2] zh115_2 zr115 rfl fun p2 => Sq.own (α := T_api_Grant) 118 (Sq.storeW (i := 1) ty115 (look_t rfl) (look_t rfl) rfl ?_))
 refine go1 ?_
 refine Sq.bring 3 rfl (Qbf h fun y3 hy3 h => QcO 1 en15 (C_mcase_Codes_Next hy3) fun q3 => ?_)
 refine go1 ?_
 refine Sq.bring 0 rfl (Qbf h fun y4 hy4 h => QcO 1 en15 (C_mcase_Codes_Next hy4) fun q4 => ?_)
 refine Qv (r_buildX (b := ({ (default : T_api_Role) with f_ID := 7, f_Name := ByteArray.mk #[102, 101, 119], f_Actions := [w64 (1 + y3.1)], f_Quota := y4.1 } : T_api_Role)) [2] zh115_2 rfl bu115 zr115 (.cons le_T_api_Role_ID rfl (look_int 7) rfl (by rfl) (.cons le_T_api_Role_Name rfl (look_str (ByteArray.mk #[102, 101, 119])) rfl (by rfl) (.cons le_T_api_Role_Actions rfl (look_t rfl) rfl (by rfl) (.cons le_T_api_Role_Quota rfl (look_t rfl) rfl (by rfl) (.nil)))))) ?_
 refine Sq.own (α := T_api_Grant) 118 (Sq.allocX (z := (default : T_api_Role)) [2] zh115_2 zr115 rfl fun p3 => Sq.own (α := T_api_Grant) 118 (Sq.storeW (i := 1) ty115 (look_t rfl) (look_t rfl) rfl ?_))
 refine go1 ?_
 refine Qbf h fun e1 hl h => ?_
 refine Qlp (γ:=(Option Nat × Nat) × (Option Nat × Nat) × (Option Nat × Nat)) (δ:=(Option Nat × Nat) × (Option Nat × Nat) × (Option Nat × Nat)) hl [0, 1, 4, 5, 6, 7, 30, 31] (fun s1 g1 => [(32, VP.of (s1.1))]) (fun s1 g1 => [(1, ⟨some p3, .varX s1.2.1 [(2, slv g1.1.1 s1.2.2.1.length g1.1.2)]⟩), (2, ⟨g1.1.1, .row 118 s1.2.2.1 g1.1.2⟩), (3, vr pp0 s1.2.2.2.1), (5, ⟨some p2, .varX s1.2.2.2.2.1 [(2, slv g1.2.1.1 s1.2.2.2.2.2.1.length g1.2.1.2)]⟩), (6, ⟨g1.2.1.1, .row 118 s1.2.2.2.2.2.1 g1.2.1.2⟩), (8, ⟨some p1, .varX s1.2.2.2.2.2.2.1 [(2, slv g1.2.2.1 s1.2.2.2.2.2.2.2.length g1.2.2.2)]⟩), (9, ⟨g1.2.2.1, .row 118 s1.2.2.2.2.2.2.2 g1.2.2.2⟩)]) (fun q5 => Exit.exit 0) (fun q5 g1 => [(32, VP.of (q5.1)), (33, VP.of (q5.2.1))]) (fun q5 g1 => [(1, ⟨some p3, .varX q5.2.2.1 [(2, slv g1.1.1 q5.2.2.2.1.length g1.1.2)]⟩), (2, ⟨g1.1.1, .row 118 q5.2.2.2.1 g1.1.2⟩), (3, vr pp0 q5.2.2.2.2.1), (5, ⟨some p2, .varX q5.2.2.2.2.2.1 [(2, slv g1.2.1.1 q5.2.2.2.2.2.2.1.length g1.2.1.2)]⟩), (6, ⟨g1.2.1.1, .row 118 q5.2.2.2.2.2.2.1 g1.2.1.2⟩), (8, ⟨some p1, .varX q5.2.2.2.2.2.2.2.1 [(2, slv g1.2.2.1 q5.2.2.2.2.2.2.2.2.length g1.2.2.2)]⟩), (9, ⟨g1.2.2.1, .row 118 q5.2.2.2.2.2.2.2.2 g1.2.2.2⟩)]) ((none, 0), (none, 0), (none, 0)) (fun s1 r h g1 => ?_) fun g1 => ?_
 ·clear hl
  refine go2 (fun k1 hk1 p4 h => ?_) (fun h => ?_)
  ·refine Qbf h fun y5 hy5 h => ?_
   refine Sq.mks Try.underlying116 ty4 zr4 rfl (by kernel_rfl) (look_t rfl) (look_t rfl) hy5 rfl fun key1 => ?_
   refine go1 ?_
   refine Qbf h fun y6 hy6 h => ?_
   refine Sq.mks Try.underlying116 ty4 zr4 rfl (by kernel_rfl) (look_t rfl) (look_t rfl) hy6 rfl fun key2 => ?_
   refine go1 ?_
   refine Qv (r_lenO (i := 1) Try.underlying116 (look_t rfl) rfl rfl) ?_
   refine Qm (Qnx (Wp.block ?_))
   refine Qbf h fun e2 hl h => ?_
   refine Qlp (γ:=(Option Nat × Nat) × (Option Nat × Nat)) (δ:=(Option Nat × Nat) × (Option Nat × Nat)) hl [0, 1, 4, 5, 6, 7, 9, 30, 31, 32, 33, 45] (fun s2 g2 => [(10, VP.eq (slv g2.2.1 s2.2.2.1.length g2.2.2)), (11, VP.eq (slv g2.1.1 s2.2.1.length g2.1.2)), (46, VP.of (s2.1))]) (fun s2 g2 => [(0, ⟨g2.1.1, .row 4 s2.2.1 g2.1.2⟩), (1, ⟨g2.2.1, .row 4 s2.2.2.1 g2.2.2⟩), (6, vr pp0 s2.2.2.2)]) (fun q6 => Exit.exit 2) (fun q6 g2 => [(10, VP.eq (slv g2.2.1 q6.2.2.2.1.length g2.2.2)), (11, VP.eq (slv g2.1.1 q6.2.2.1.length g2.1.2)), (46, VP.of (q6.1)), (47, VP.of (q6.2.1))]) (fun q6 g2 => [(0, ⟨g2.1.1, .row 4 q6.2.2.1 g2.1.2⟩), (1, ⟨g2.2.1, .row 4 q6.2.2.2.1 g2.2.2⟩), (6, vr pp0 q6.2.2.2.2)]) ((key2, y6.length), (key1, y5.length)) (fun s2 r h g2 => ?_) fun g2 => ?_
   ·clear hl
    refine go2 (fun h => ?_) (fun h => ?_)
    ·refine Sq.bring 6 rfl (Qbf h fun y7 hy7 h => QcO 1 en15 (C_mcase_Codes_Next hy7) fun q7 => ?_)
     refine Q2 r_gtr ?_
     refine Qbf h fun k2 hk2 h => Qv (r_iaO (i := 2) (k := k2) (xs := (s2.2.2.1 : List Bool)) Try.underlying116 ty4 (look_t rfl) (look_t rfl) rfl (idx_some hk2)) ?_
     refine Sq.storeR (i := 2) (k := k2) (Lens.id Bool) (v := true) (r := (lset s2.2.2.1 k2 true : List Bool)) ty4 (look_t rfl) (look_bool true) rfl (idx_some hk2).1 rfl rfl (Sq.relen (m := (lset s2.2.2.1 k2 true).length) 10 rfl (lset_len rfl) (Sq.relen (m := (lset s2.2.2.1 k2 true).length) 49 rfl (lset_len rfl) (Qbf h fun k3 hk3 h => Qv (r_iaO (i := 1) (k := k3) (xs := (s2.2.1 : List Bool)) Try.underlying116 ty4 (look_t rfl) (look_t rfl) rfl (idx_some hk3)) ?_)))
     refine Sq.storeR (i := 1) (k := k3) (Lens.id Bool) (v := (decide (y7.1 > 0) : Bool)) (r := (lset s2.2.1 k3 (decide (y7.1 > 0)) : List Bool)) ty4 (look_t rfl) (look_t rfl) rfl (idx_some hk3).1 rfl rfl (Sq.relen (m := (lset s2.2.1 k3 (decide (y7.1 > 0))).length) 11 rfl (lset_len rfl) (Sq.relen (m := (lset s2.2.1 k3 (decide (y7.1 > 0))).length) 51 rfl (lset_len rfl) ?_))
     refine go1 ?_
     refine To.bring 6 rfl (To.bring 6 rfl (To.bring 6 rfl (To.bring 6 rfl (To.bring 6 rfl (To.bring 6 rfl ?_)))))
     cases h
     exact Qrd ((g2.1.1, g2.1.2), (g2.2.1, g2.2.2)) 0
    ·cases h
     exact Qlv ((g2.1.1, g2.1.2), (g2.2.1, g2.2.2)) 0
   ·clear hl
    refine go1 ?_
    refine Qv (r_loadH (i := 11) (q := 0) (β := T_api_Role) (γ := T_api_Grant) ty113 (look_t rfl) rfl rfl) ?_
    refine go1 ?_
    refine Sq.freezeL (α := Bool) 1 [63, 10] ⟨rfl, rfl, trivial⟩ rfl ?_
    refine go1 fun z1 hz1 h => ?_
    refine Qbf h fun y8 hy8 h => Qap 12 Try.underlying113 ty118 zr118 hy8 fun key3 cap1 => ?_
    refine Q1 (r_fa fd115_2.fd) ?_
    refine Sq.storeH (i := 11) (γ := T_api_Grant) (b' := ({ s1.2.2.2.2.2.2.1 with f_Grants := [] } : T_api_Role)) (os' := [(2, slv key3 y8.length cap1)]) ((Lens.id T_api_Role).comp le_T_api_Role_Grants) ty113 (look_t rfl) (look_t rfl) slv_one rfl rfl rfl rfl ?_
    refine go1 ?_
    refine Sq.bring 6 rfl (Qbf h fun y9 hy9 h => QcO 1 en15 (C_mcase_Codes_Next hy9) fun q8 => ?_)
    refine Q2 r_gtr (Qnx ?_)
    refine Wp.freeze (α := Bool) 1 11 rfl rfl (Qbf h fun m1 hm1 h => ?_)
    refine Qcm (γ:=(Option Nat × Nat)) [0, 1, 4, 5, 6, 7, 9, 10, 11, 30, 31, 32, 33, 45, 46, 47, 70] (fun g3 => []) (fun g3 => [(0, vr pp0 m1.1), (8, ⟨some p2, .varX m1.2.1 [(2, slv g3.1 m1.2.2.length g3.2)]⟩), (9, ⟨g3.1, .row 118 m1.2.2 g3.2⟩)]) (fun g3 => ?_) (fun hm hc => ?_) fun hm hc => ?_
    ·clear hm1
     refine To.next (Qsr (Qm ?_))
     refine Sq.bring 0 rfl (Qbf h fun y10 hy10 h => QcO 1 en20 (C_mcase_Codes_Bool hy10) fun q9 => Qnx ?_)
     refine Qbf h fun m2 hm2 h => ?_
     refine Qcm (γ:=(Option Nat × Nat)) [0, 1, 4, 5, 6, 7, 9, 10, 11, 30, 31, 32, 33, 45, 46, 47, 70, 86] (fun g4 => []) (fun g4 => [(0, vr pp0 m2.1), (5, ⟨some p3, .varX m2.2.1 [(2, slv g4.1 m2.2.2.length g4.2)]⟩), (6, ⟨g4.1, .row 118 m2.2.2 g4.2⟩)]) (fun g4 => ?_) (fun hm hc => ?_) fun hm hc => ?_
     ·clear hm2
      refine go1 ?_
      refine To.bring 6 rfl (To.bring 6 rfl (To.bring 6 rfl (To.bring 6 rfl (To.bring 6 rfl (To.bring 6 rfl ?_)))))
      cases h
      exact Qrd ((g4.1, g4.2), (g3.1, g3.2), (key3, cap1)) 3
     ·have h := cond_t hc hm2
      refine Qbf h fun y11 hy11 h => Qbf h fun y12 hy12 h => Qbf h fun z2 hz2 h => Qbf h fun y13 hy13 h => Qwl [0, 1, 4, 5, 6, 7, 9, 10, 11, 30, 31, 32, 33, 45, 46, 47, 70, 85, 86] ?_
      refine Wp.en 13 (Hp 87 [] [] _ :: Hp 88 [0] [5] (VP.eq (slv g1.1.1 s1.2.2.1.length g1.1.2)) :: Hp 89 [] [] _ :: Hp 90 [2] [3] _ :: Hp 91 [] [] _ :: ⟨some 92, [4], [0], [0], fun _ => VP.of (y11.1), fun hd _ => vr pp0 y11.2⟩ :: Hp 93 [] [] _ :: ⟨some 94, [5, 6], [0], [0], fun _ => VP.of (y12.1), fun hd _ => vr pp0 y12.2⟩ :: Hp 95 [] [] _ :: Hp 96 [3, 5, 7, 8] [] _ :: Hp 97 [9] [] _ :: ⟨some 98, [1, 10], [6], [6], fun hd => VP.eq (slv (hd 11 0) y13.length ((hd 11 1).getD 0)), fun hd _ => ⟨(hd 11 0), .row 118 y13 ((hd 11 1).getD 0)⟩⟩ :: Hp 99 [] [] _ :: Hs [1, 11, 12] [5] [5] (fun hd => ⟨some p3, .varX ({ s1.2.1 with f_Grants := [] } : T_api_Role) [(2, slv (hd 11 0) y13.length ((hd 11 1).getD 0))]⟩) :: []) (ki ?_ (ki ?_ (ki ?_ (ki ?_ (ki ?_ kn))))) (fun hd1 => ?_)
      ·exact HeadD.q (Dv fun hd E' L' hE hL => r_loadH (i := 5) (q := 0) (β := T_api_Role) (γ := T_api_Grant) ty113 (look_t (hE _ _ rfl)) (hL 5 _ rfl rfl) rfl)
      ·intro hd E' L' hE hL hP
       refine Sq.bring 0 (hL 0 _ rfl rfl) (Sq.callO (Lin := [vr pp0 y10.2]) (Lr := L'.eraseIdx 0) en20 (C_mcase_Codes_Bool hy11) ⟨look_t (hE _ _ rfl), trivial⟩ rfl fun q10 => Sq.nil (To.back 0 (hL 0 _ rfl rfl) ?_))
       exact To.fin (gm []) rfl rfl
      ·intro hd E' L' hE hL hP
       refine Sq.bring 0 (hL 0 _ rfl rfl) (Sq.callO (Lin := [vr pp0 y11.2]) (Lr := L'.eraseIdx 0) en20 (C_mcase_Codes_Bool hy12) ⟨look_t (hE _ _ rfl), trivial⟩ rfl fun q11 => Sq.nil (To.back 0 (hL 0 _ rfl rfl) ?_))
       exact To.fin (gm []) rfl rfl
      ·intro hd E' L' hE hL hP
       refine Sq.app (i := 6) Try.underlying113 ty118 zr118 (bytes := 40) (by kernel_rfl) (look_t (hE _ _ rfl)) (hL 6 _ rfl rfl) (look_t (hE _ _ rfl)) hy13 rfl fun key4 cap2 => ?_
       refine Sq.nil ?_
       exact To.fin (gm [key4, some cap2]) rfl rfl
      ·intro hd E' L' hE hL hP
       refine Sq.storeH (i := 5) (γ := T_api_Grant) (b' := ({ s1.2.1 with f_Grants := [] } : T_api_Role)) (os' := [(2, slv (hd 11 0) y13.length ((hd 11 1).getD 0))]) ((Lens.id T_api_Role).comp le_T_api_Role_Grants) ty113 (look_t (hE _ _ rfl)) (look_t (hE _ _ rfl)) slv_one (hL 5 _ rfl rfl) rfl rfl rfl (Sq.nil ?_)
       exact To.fin (gm []) rfl rfl
      refine To.eqL (L2 := [vr pp0 y12.2, ⟨none, .dead⟩, ⟨none, .dead⟩, vr p4 (lget x1 k1 : T_api_Table), ⟨none, .row 118 ([] : List T_api_Grant) 0⟩, ⟨some p3, .varX ({ s1.2.1 with f_Grants := [] } : T_api_Role) [(2, slv (hd1 11 0) y13.length ((hd1 11 1).getD 0))]⟩, ⟨(hd1 11 0), .row 118 y13 ((hd1 11 1).getD 0)⟩, ⟨none, .row 118 ([] : List T_api_Grant) 0⟩, ⟨some p2, .varX m1.2.1 [(2, slv g3.1 m1.2.2.length g3.2)]⟩, ⟨g3.1, .row 118 m1.2.2 g3.2⟩, ⟨none, .row 118 ([] : List T_api_Grant) 0⟩, ⟨some p1, .varX ({ s1.2.2.2.2.2.2.1 with f_Grants := [] } : T_api_Role) [(2, slv key3 y8.length cap1)]⟩, ⟨key3, .row 118 y8 cap1⟩]) rfl (Qte ?_)
      cases h
      exact Qmt 0 (hm ((hd1 11 0), ((hd1 11 1).getD 0)))
     ·have h := cond_f hc hm2
      refine Wp.skip ?_
      cases h
      exact Qmt 0 (hm (g1.1.1, g1.1.2))
    ·have h := cond_t hc hm1
     refine Qbf h fun y14 hy14 h => Qbf h fun y15 hy15 h => Qbf h fun z3 hz3 h => Qbf h fun y16 hy16 h => Qwl [0, 1, 4, 5, 6, 7, 9, 10, 11, 30, 31, 32, 33, 45, 46, 47, 59, 61, 62, 63, 64, 65, 66, 67, 68, 69, 70] ?_
     refine Wp.en 13 (Hp 71 [] [] _ :: Hp 72 [0] [8] (VP.eq (slv g1.2.1.1 s1.2.2.2.2.2.1.length g1.2.1.2)) :: Hp 73 [] [] _ :: Hp 74 [2] [3] _ :: Hp 75 [] [] _ :: ⟨some 76, [4], [0], [0], fun _ => VP.of (y14.1), fun hd _ => vr pp0 y14.2⟩ :: Hp 77 [5] [] _ :: Hp 78 [] [] _ :: ⟨some 79, [5, 7], [0], [0], fun _ => VP.of (y15.1), fun hd _ => vr pp0 y15.2⟩ :: Hp 80 [] [] _ :: Hp 81 [3, 6, 8, 9] [] _ :: Hp 82 [10] [] _ :: ⟨some 83, [1, 11], [9], [9], fun hd => VP.eq (slv (hd 12 0) y16.length ((hd 12 1).getD 0)), fun hd _ => ⟨(hd 12 0), .row 118 y16 ((hd 12 1).getD 0)⟩⟩ :: Hp 84 [] [] _ :: Hs [1, 12, 13] [8] [8] (fun hd => ⟨some p2, .varX ({ s1.2.2.2.2.1 with f_Grants := [] } : T_api_Role) [(2, slv (hd 12 0) y16.length ((hd 12 1).getD 0))]⟩) :: []) (ki ?_ (ki ?_ (ki ?_ (ki ?_ (ki ?_ kn))))) (fun hd2 => ?_)
     ·exact HeadD.q (Dv fun hd E' L' hE hL => r_loadH (i := 8) (q := 0) (β := T_api_Role) (γ := T_api_Grant) ty113 (look_t (hE _ _ rfl)) (hL 8 _ rfl rfl) rfl)
     ·intro hd E' L' hE hL hP
      refine Sq.bring 0 (hL 0 _ rfl rfl) (Sq.callO (Lin := [vr pp0 y9.2]) (Lr := L'.eraseIdx 0) en15 (C_mcase_Codes_Next hy14) ⟨look_t (hE _ _ rfl), look_int 4, trivial⟩ rfl fun q12 => Sq.nil (To.back 0 (hL 0 _ rfl rfl) ?_))
      exact To.fin (gm []) rfl rfl
     ·intro hd E' L' hE hL hP
      refine Sq.bring 0 (hL 0 _ rfl rfl) (Sq.callO (Lin := [vr pp0 y14.2]) (Lr := L'.eraseIdx 0) en20 (C_mcase_Codes_Bool hy15) ⟨look_t (hE _ _ rfl), trivial⟩ rfl fun q13 => Sq.nil (To.back 0 (hL 0 _ rfl rfl) ?_))
      exact To.fin (gm []) rfl rfl
     ·intro hd E' L' hE hL hP
      refine Sq.app (i := 9) Try.underlying113 ty118 zr118 (bytes := 40) (by kernel_rfl) (look_t (hE _ _ rfl)) (hL 9 _ rfl rfl) (look_t (hE _ _ rfl)) hy16 rfl fun key5 cap3 => ?_
      refine Sq.nil ?_
      exact To.fin (gm [key5, some cap3]) rfl rfl
     ·intro hd E' L' hE hL hP
      refine Sq.storeH (i := 8) (γ := T_api_Grant) (b' := ({ s1.2.2.2.2.1 with f_Grants := [] } : T_api_Role)) (os' := [(2, slv (hd 12 0) y16.length ((hd 12 1).getD 0))]) ((Lens.id T_api_Role).comp le_T_api_Role_Grants) ty113 (look_t (hE _ _ rfl)) (look_t (hE _ _ rfl)) slv_one (hL 8 _ rfl rfl) rfl rfl rfl (Sq.nil ?_)
      exact To.fin (gm []) rfl rfl
     refine To.eqL (L2 := [vr pp0 y15.2, ⟨none, .dead⟩, ⟨none, .dead⟩, vr p4 (lget x1 k1 : T_api_Table), ⟨none, .row 118 ([] : List T_api_Grant) 0⟩, ⟨some p3, .varX s1.2.1 [(2, slv g1.1.1 s1.2.2.1.length g1.1.2)]⟩, ⟨g1.1.1, .row 118 s1.2.2.1 g1.1.2⟩, ⟨none, .row 118 ([] : List T_api_Grant) 0⟩, ⟨some p2, .varX ({ s1.2.2.2.2.1 with f_Grants := [] } : T_api_Role) [(2, slv (hd2 12 0) y16.length ((hd2 12 1).getD 0))]⟩, ⟨(hd2 12 0), .row 118 y16 ((hd2 12 1).getD 0)⟩, ⟨none, .row 118 ([] : List T_api_Grant) 0⟩, ⟨some p1, .varX ({ s1.2.2.2.2.2.2.1 with f_Grants := [] } : T_api_Role) [(2, slv key3 y8.length cap1)]⟩, ⟨key3, .row 118 y8 cap1⟩]) rfl (Qte ?_)
     cases h
     exact Qmt 0 (hm ((hd2 12 0), ((hd2 12 1).getD 0)))
    ·have h := cond_f hc hm1
     refine Wp.skip ?_
     cases h
     exact Qmt 0 (hm (g1.2.1.1, g1.2.1.2))
  ·cases h
   exact Qlv ((g1.1.1, g1.1.2), (g1.2.1.1, g1.2.1.2), (g1.2.2.1, g1.2.2.2)) 0
 ·clear hl
  refine To.bexit (To.next (Qsr (Sq.thaw (β := T_api_Role) (γ := T_api_Grant) (b' := ({ e1.2.2.2.2.2.2.2.1 with f_Grants := e1.2.2.2.2.2.2.2.2 } : T_api_Role)) ((Lens.id T_api_Role).comp le_T_api_Role_Grants) 8 9 0 rfl rfl rfl rfl rfl rfl (Sq.fromX 8 rfl (Qbf h fun z4 hz4 h => Qn hz4 (r_load (i := 8) (Lens.id T_api_Role) (r := ({ e1.2.2.2.2.2.2.2.1 with f_Grants := e1.2.2.2.2.2.2.2.2 } : T_api_Role)) ty115 (look_t rfl) rfl rfl rfl) ?_)))))
  refine Sq.thaw (β := T_api_Role) (γ := T_api_Grant) (b' := ({ e1.2.2.2.2.2.1 with f_Grants := e1.2.2.2.2.2.2.1 } : T_api_Role)) ((Lens.id T_api_Role).comp le_T_api_Role_Grants) 5 6 0 rfl rfl rfl rfl rfl rfl (Sq.fromX 5 rfl (Ql0 5 ty115 ?_))
  refine Sq.thaw (β := T_api_Role) (γ := T_api_Grant) (b' := ({ e1.2.2.1 with f_Grants := e1.2.2.2.1 } : T_api_Role)) ((Lens.id T_api_Role).comp le_T_api_Role_Grants) 1 2 0 rfl rfl rfl rfl rfl rfl (Sq.fromX 1 rfl ?_)
  exact go
end Go.Proofs.Ytmlgdkccoomiaaa

namespace Go.Proofs.Ytmlgdkccoomiaaa
open Go Gv
set_option linter.unusedVariables false
set_option linter.unusedSimpArgs false
set_option maxRecDepth 100000
set_option maxHeartbeats 2000000
attribute [local irreducible] Sq Wp To HR Look Stp LQG LQW VP.of VP.ptr VP.eq VP.cond VP.tup
theorem C_mcase_Codes_Schema {x0 pp0 r} (h : L_mcase_Codes_Schema x0 = some r) : MV Try.prog 5 [VP.pb pp0] pp0 x0 (VP.of (r.1)) r.2 := by
 unfold L_mcase_Codes_Schema at h
 refine MeetsO.of Try.func5 rfl Try.ntmps5 rfl fun W A => ?_
 refine go1 fun p1 => ?_
 refine Sq.bring 1 rfl (Qbf h fun y1 hy1 h => QcO 1 en15 (C_mcase_Codes_Next hy1) fun q1 => ?_)
 refine go1 ?_
 refine Sq.bring 0 rfl (Qbf h fun y2 hy2 h => QcO 1 en15 (C_mcase_Codes_Next hy2) fun q2 => ?_)
 refine Q2 r_add ?_
 refine Qv (r_buildX (b := ({ (default : T_api_Schema) with f_MaxBatch := w64 (2 + y1.1), f_Budget := w64 (12 + y2.1) } : T_api_Schema)) [5, 7] zh32_5_7 rfl bu32 zr32 (.cons le_T_api_Schema_MaxBatch rfl (look_t rfl) rfl (by rfl) (.cons le_T_api_Schema_Budget rfl (look_t rfl) rfl (by rfl) (.nil)))) ?_
 refine Sq.own (α := T_api_Stage) 76 (Sq.own (α := T_api_Ref) 78 (Sq.allocX (z := (default : T_api_Schema)) [5, 7] zh32_5_7 zr32 rfl fun p2 => Sq.own (α := T_api_Stage) 76 (Sq.own (α := T_api_Ref) 78 (Sq.storeW (i := 2) ty32 (look_t rfl) (look_t rfl) rfl ?_))))
 refine go1 fun z1 hz1 z2 hz2 z3 hz3 z4 hz4 z5 hz5 z6 hz6 z7 hz7 z8 hz8 h => ?_
 refine Qbf h fun z9 hz9 h => ?_
 refine Sq.storeX (i := 2) ((Lens.id T_api_Schema).comp le_T_api_Schema_Fields) (v := z8) (b' := z9) ty23 (look_t rfl) (look_t rfl) rfl rfl (some_in hz9) (by rfl) ?_
 refine go1 fun z10 hz10 z11 hz11 z12 hz12 h => ?_
 refine Sq.storeX (i := 2) ((Lens.id T_api_Schema).comp le_T_api_Schema_Headers) (v := ([z10, z11, z12] : List T_api_Header)) (b' := ({ z9 with f_Headers := [z10, z11, z12] } : T_api_Schema)) ty24 (look_t rfl) (look_t rfl) rfl rfl rfl (by rfl) ?_
 refine go1 ?_
 refine Sq.bring 5 rfl (Qbf h fun y3 hy3 h => QcO 1 en16 (C_mcase_Codes_states hy3) fun q3 => ?_)
 refine Qm ?_
 refine Sq.bring 0 rfl (Qbf h fun y4 hy4 h => QcO 1 en17 (C_mcase_Codes_actions hy4) fun q4 => ?_)
 refine Qm ?_
 refine Sq.bring 0 rfl (Qbf h fun y5 hy5 h => QcO 1 en18 (C_mcase_Codes_tables hy5) fun q5 => ?_)
 refine Q1 (r_fa fd32_2.fd) ?_
 refine Qbf h fun z13 hz13 h => ?_
 refine Sq.storeX (i := 3) ((Lens.id T_api_Schema).comp le_T_api_Schema_States) (v := y3.1) (b' := z13) ty25 (look_t rfl) (look_t rfl) rfl rfl (some_in hz13) (by rfl) ?_
 refine Q1 (r_fa fd32_3.fd) ?_
 refine Sq.storeX (i := 3) ((Lens.id T_api_Schema).comp le_T_api_Schema_Actions) (v := y4.1) (b' := ({ z13 with f_Actions := y4.1 } : T_api_Schema)) ty26 (look_t rfl) (look_t rfl) rfl rfl rfl (by rfl) ?_
 refine Q1 (r_fa fd32_4.fd) ?_
 refine Qbf h fun z14 hz14 h => ?_
 refine Sq.storeX (i := 3) ((Lens.id T_api_Schema).comp le_T_api_Schema_Tables) (v := y5.1) (b' := z14) ty27 (look_t rfl) (look_t rfl) rfl rfl (some_in hz14) (by rfl) ?_
 refine go1 ?_
 refine Qlx 3 le_T_api_Schema_Tables ty27 ?_
 refine Sq.bring 0 rfl (Qbf h fun y6 hy6 h => QcO 1 en19 (C_mcase_Codes_roles hy6) fun q6 => ?_)
 refine Q1 (r_fa fd32_6.fd) ?_
 refine Sq.storeX (i := 3) ((Lens.id T_api_Schema).comp le_T_api_Schema_Roles) (v := y6.1) (b' := ({ z14 with f_Roles := y6.1 } : T_api_Schema)) ty29 (look_t rfl) (look_t rfl) rfl rfl rfl (by rfl) ?_
 refine Qnr (Qbd bu76 zr76 { f_Table := 1, f_Header := 1 : T_api_Stage } (Qfl le_T_api_Stage_Table (Qfl le_T_api_Stage_Header .nil)) ?_)
 refine Qbd bu76 zr76 { f_Table := 2, f_Header := 2 : T_api_Stage } (Qfl le_T_api_Stage_Table (Qfl le_T_api_Stage_Header .nil)) ?_
 refine Qbd bu76 zr76 ({ (default : T_api_Stage) with f_Table := 3 } : T_api_Stage) (Qfl le_T_api_Stage_Table .nil) ?_
 refine Qbd bu76 zr76 { f_Table := 4, f_Header := 3 : T_api_Stage } (Qfl le_T_api_Stage_Table (Qfl le_T_api_Stage_Header .nil)) ?_
 refine Qbf h fun z15 hz15 h => ?_
 refine Sq.bslN (α := T_api_Stage) (r0 := [{ f_Table := 1, f_Header := 1 : T_api_Stage }, { f_Table := 2, f_Header := 2 : T_api_Stage }, ({ (default : T_api_Stage) with f_Table := 3 } : T_api_Stage), { f_Table := 4, f_Header := 3 : T_api_Stage }]) (r := z15) Try.underlying28 ty76 zr76 rfl rfl (.cons (by simp) (look_t rfl) (.cons (by simp) (look_t rfl) (.cons (by simp) (look_t rfl) (.cons (by simp) (look_t rfl) (.nil))))) (some_in hz15) rfl fun key1 => ?_
 refine Q1 (r_fa fd32_5.fd) ?_
 refine Sq.storeH (i := 4) (γ := T_api_Stage) (b' := ({ ({ z14 with f_Roles := y6.1 } : T_api_Schema) with f_Stages := [] } : T_api_Schema)) (os' := [(5, slv key1 z15.length 4), (7, slv none ([] : List T_api_Ref).length 0)]) ((Lens.id T_api_Schema).comp le_T_api_Schema_Stages) ty28 (look_t rfl) (look_t rfl) slv_one rfl rfl rfl rfl ?_
 refine go1 ?_
 refine Sq.bring 1 rfl (Qbf h fun y7 hy7 h => QcO 1 en20 (C_mcase_Codes_Bool hy7) fun q7 => Qnx ?_)
 refine Qbf h fun m1 hm1 h => ?_
 refine Qcm (γ:=(Option Nat × Nat)) [0, 2, 3, 51] (fun g1 => []) (fun g1 => [(1, ⟨g1.1, .row 76 m1 g1.2⟩), (4, ⟨some p2, .varX ({ ({ z14 with f_Roles := y6.1 } : T_api_Schema) with f_Stages := [] } : T_api_Schema) [(5, slv g1.1 m1.length g1.2), (7, slv none ([] : List T_api_Ref).length 0)]⟩)]) (fun g1 => ?_) (fun hm hc => ?_) fun hm hc => ?_
 ·clear hm1
  refine go1 ?_
  refine Sq.bring 0 rfl (Qbf h fun y8 hy8 h => QcO 1 en20 (C_mcase_Codes_Bool hy8) fun q8 => Qnx ?_)
  refine Qbf h fun m2 hm2 h => ?_
  refine Qcm (γ:=(Option Nat × Nat)) [0, 2, 3, 51, 59] (fun g2 => []) (fun g2 => [(4, ⟨some p2, .varX m2.1 [(5, slv g1.1 m1.length g1.2), (7, slv g2.1 m2.2.length g2.2)]⟩), (5, ⟨g2.1, .row 78 m2.2 g2.2⟩)]) (fun g2 => ?_) (fun hm hc => ?_) fun hm hc => ?_
  ·clear hm2
   refine go1 ?_
   refine Sq.bring 0 rfl (Qbf h fun y9 hy9 h => QcO 1 en20 (C_mcase_Codes_Bool hy9) fun q9 => ?_)
   refine go1 ?_
   refine Qg (fun hb => r_loadX (i := 4) ((Lens.id T_api_Schema).comp le_T_api_Schema_Tables) (r := m2.1.f_Tables) ty27 (look_tc rfl hb) rfl rfl rfl (by rfl)) ?_
   refine go1 fun k1 hk1 h => ?_
   refine Qbf h fun m3 hm3 h => ?_
   refine Qcm (γ:=(Option Nat × Nat)) [0, 2, 3, 51, 59, 76] (fun g3 => []) (fun g3 => [(4, ⟨some p2, .varX m3.1 [(5, slv g1.1 m1.length g1.2), (7, slv g3.1 m3.2.length g3.2)]⟩), (5, ⟨g3.1, .row 78 m3.2 g3.2⟩)]) (fun g3 => ?_) (fun hm hc => ?_) fun hm hc => ?_
   ·clear hm3
    refine go1 ?_
    refine Sq.bring 0 rfl (Qbf h fun y10 hy10 h => QcO 1 en20 (C_mcase_Codes_Bool hy10) fun q10 => ?_)
    refine go1 ?_
    refine Qg (fun hb => r_loadX (i := 4) ((Lens.id T_api_Schema).comp le_T_api_Schema_Tables) (r := m3.1.f_Tables) ty27 (look_tc rfl hb) rfl rfl rfl (by rfl)) ?_
    refine go1 fun k2 hk2 h => ?_
    refine Qbf h fun m4 hm4 h => ?_
    refine Qcm (γ:=(Option Nat × Nat)) [0, 2, 3, 51, 59, 76, 93] (fun g4 => []) (fun g4 => [(4, ⟨some p2, .varX m4.1 [(5, slv g1.1 m1.length g1.2), (7, slv g4.1 m4.2.length g4.2)]⟩), (5, ⟨g4.1, .row 78 m4.2 g4.2⟩)]) (fun g4 => ?_) (fun hm hc => ?_) fun hm hc => ?_
    ·clear hm4
     refine To.next (Qsr (Sq.thaw (β := T_api_Schema) (γ := T_api_Stage) (b' := ({ m4.1 with f_Stages := m1 } : T_api_Schema)) ((Lens.id T_api_Schema).comp le_T_api_Schema_Stages) 4 1 0 rfl rfl rfl rfl rfl rfl (Sq.thaw (β := T_api_Schema) (γ := T_api_Ref) (b' := ({ ({ m4.1 with f_Stages := m1 } : T_api_Schema) with f_Refs := m4.2 } : T_api_Schema)) ((Lens.id T_api_Schema).comp le_T_api_Schema_Refs) 4 5 0 rfl rfl rfl rfl rfl rfl (Sq.fromX 4 rfl ?_))))
     exact go
    ·have h := cond_t hc hm4
     refine Wp.reg (Q1 (r_fa fd32_7.fd) ?_)
     refine Qv (r_loadH (i := 4) (q := 1) (β := T_api_Schema) (γ := T_api_Ref) ty30 (look_t rfl) rfl rfl) ?_
     refine go1 fun z17 hz17 z18 hz18 h => ?_
     refine Qbf h fun y11 hy11 h => Qap 5 Try.underlying30 ty78 zr78 hy11 fun key2 cap1 => ?_
     refine Q1 (r_fa fd32_7.fd) ?_
     refine Sq.storeH (i := 4) (γ := T_api_Ref) (b' := ({ m3.1 with f_Refs := [] } : T_api_Schema)) (os' := [(5, slv g1.1 m1.length g1.2), (7, slv key2 y11.length cap1)]) ((Lens.id T_api_Schema).comp le_T_api_Schema_Refs) ty30 (look_t rfl) (look_t rfl) slv_one rfl rfl rfl rfl (Sq.nil ?_)
     cases h
     exact Qmt 0 (hm (key2, cap1))
    ·have h := cond_f hc hm4
     refine Wp.skip ?_
     cases h
     exact Qmt 0 (hm (g3.1, g3.2))
   ·have h := cond_t hc hm3
    refine Wp.reg (Q1 (r_fa fd32_7.fd) ?_)
    refine Qv (r_loadH (i := 4) (q := 1) (β := T_api_Schema) (γ := T_api_Ref) ty30 (look_t rfl) rfl rfl) ?_
    refine go1 fun z19 hz19 h => ?_
    refine Qbf h fun y12 hy12 h => Qap 5 Try.underlying30 ty78 zr78 hy12 fun key3 cap2 => ?_
    refine Q1 (r_fa fd32_7.fd) ?_
    refine Sq.storeH (i := 4) (γ := T_api_Ref) (b' := ({ m2.1 with f_Refs := [] } : T_api_Schema)) (os' := [(5, slv g1.1 m1.length g1.2), (7, slv key3 y12.length cap2)]) ((Lens.id T_api_Schema).comp le_T_api_Schema_Refs) ty30 (look_t rfl) (look_t rfl) slv_one rfl rfl rfl rfl (Sq.nil ?_)
    cases h
    exact Qmt 0 (hm (key3, cap2))
   ·have h := cond_f hc hm3
    refine Wp.skip ?_
    cases h
    exact Qmt 0 (hm (g2.1, g2.2))
  ·have h := cond_t hc hm2
   refine Wp.reg (Q1 (r_fa fd32_7.fd) ?_)
   refine Qv (r_loadH (i := 4) (q := 1) (β := T_api_Schema) (γ := T_api_Ref) ty30 (look_t rfl) rfl rfl) ?_
   refine go1 fun z20 hz20 h => ?_
   refine Qbf h fun y13 hy13 h => Qap 5 Try.underlying30 ty78 zr78 hy13 fun key4 cap3 => ?_
   refine Q1 (r_fa fd32_7.fd) ?_
   refine Sq.storeH (i := 4) (γ := T_api_Ref) (b' := ({ ({ ({ z14 with f_Roles := y6.1 } : T_api_Schema) with f_Stages := [] } : T_api_Schema) with f_Refs := [] } : T_api_Schema)) (os' := [(5, slv g1.1 m1.length g1.2), (7, slv key4 y13.length cap3)]) ((Lens.id T_api_Schema).comp le_T_api_Schema_Refs) ty30 (look_t rfl) (look_t rfl) slv_one rfl rfl rfl rfl (Sq.nil ?_)
   cases h
   exact Qmt 0 (hm (key4, cap3))
  ·have h := cond_f hc hm2
   refine Wp.skip ?_
   cases h
   exact Qmt 0 (hm (none, 0))
 ·have h := cond_t hc hm1
  refine Wp.reg (Q1 (r_fa fd32_5.fd) ?_)
  refine Qv (r_loadH (i := 4) (q := 0) (β := T_api_Schema) (γ := T_api_Stage) ty28 (look_t rfl) rfl rfl) ?_
  refine go1 ?_
  refine Qbf h fun y14 hy14 h => Qap 1 Try.underlying28 ty76 zr76 hy14 fun key5 cap4 => ?_
  refine Q1 (r_fa fd32_5.fd) ?_
  refine Sq.storeH (i := 4) (γ := T_api_Stage) (b' := ({ ({ z14 with f_Roles := y6.1 } : T_api_Schema) with f_Stages := [] } : T_api_Schema)) (os' := [(5, slv key5 y14.length cap4), (7, slv none ([] : List T_api_Ref).length 0)]) ((Lens.id T_api_Schema).comp le_T_api_Schema_Stages) ty28 (look_t rfl) (look_t rfl) slv_one rfl rfl rfl rfl (Sq.nil ?_)
  cases h
  exact Qmt 0 (hm (key5, cap4))
 ·have h := cond_f hc hm1
  refine Wp.skip ?_
  cases h
  exact Qmt 0 (hm (key1, 4))
end Go.Proofs.Ytmlgdkccoomiaaa

namespace Go.Proofs.Ytmlgdkccoomiaaa
open Go Gv
set_option linter.unusedVariables false
set_option linter.unusedSimpArgs false
set_option maxRecDepth 100000
set_option maxHeartbeats 2000000
attribute [local irreducible] Sq Wp To HR Look Stp LQG LQW VP.of VP.ptr VP.eq VP.cond VP.tup
theorem C_mcase_Codes_Entry {x0 x1 x2 pp0 r} (h : L_mcase_Codes_Entry x0 x1 x2 = some r) : MV Try.prog 24 [VP.pb pp0, VP.of (x1), VP.of (x2)] pp0 x0 (VP.of (r.1)) r.2 := by
 unfold L_mcase_Codes_Entry at h
 refine MeetsO.of Try.func24 rfl Try.ntmps24 rfl fun W A => Qsr (Qbx fun p1 => ?_)
 refine Qal zr40 fun p2 => Qns ?_
 refine Qbf h fun y1 hy1 h => Qbf h fun k1 hk1 h => Wp.keep 1 (Qwl [0, 1, 2, 4, 6] ?_)
 refine Wp.eD mixed (Hp 13 [] [] _ :: Hp 14 [0] [1] _ :: Hp 15 [] [] _ :: Hp 16 [] [] _ :: Hp 17 [3] [1] _ :: Hp 18 [4] [] _ :: Hp 19 [2, 5] [] _ :: Hp 20 [1, 6] [] _ :: Hp 21 [7] [] _ :: ⟨some 7, [], [3], [3], fun hd => VP.pb ((hd 9 0).getD 0), fun hd _ => vr ((hd 9 0).getD 0) (default : T_api_Table)⟩ :: Hs [8, 9] [3] [3] (fun hd => vr ((hd 9 0).getD 0) (lget x1.f_Tables k1 : T_api_Table)) :: []) ⟨D1 (r_fa fd32_4.fd), Dld 1 le_T_api_Schema_Tables ty27, Dm, D1 (r_fa fd32_4.fd), Dld 1 le_T_api_Schema_Tables ty27, D1 (r_len Try.underlying27), Du fun hE hL => r_call k34.en (k34.m _ _ _ hy1) ⟨look_t (hE _ _ rfl), look_t (hE _ _ rfl), trivial⟩, Du fun hE hL => r_ias (k := k1) Try.underlying27 ty81 (look_t (hE _ _ rfl)) (look_t (hE _ _ rfl)) (idx_some hk1), D1 (r_loadp ty81), ?_, ?_, trivial⟩ fun hd1 => ?_
 ·intro hd E' L' hE hL
  refine Qal zr81 fun p3 => Sq.nil ?_
  refine To.place 3 (hL 3 _ rfl rfl) ?_
  exact To.fin (gm [some p3]) rfl rfl
 ·intro hd E' L' hE hL
  refine Sq.store (i := 3) (Lens.id T_api_Table) (v := (lget x1.f_Tables k1 : T_api_Table)) (b' := (lget x1.f_Tables k1 : T_api_Table)) ty81 (look_t (hE _ _ rfl)) (look_t (hE _ _ rfl)) (hL 3 _ rfl rfl) rfl rfl (Sq.nil ?_)
  exact To.fin (gm []) rfl rfl
 refine To.eqL (L2 := [vr p2 (default : T_api_Entry), vr p1 x1, vr pp0 x0, vr ((hd1 9 0).getD 0) (lget x1.f_Tables k1 : T_api_Table)]) rfl (Qte ?_)
 refine To.bring 3 rfl (To.next (Qsr (Q1 (r_fa fd81_0.fd) ?_)))
 refine Qld 0 le_T_api_Table_ID ty3 ?_
 refine Qv (r_buildX (b := ({ (default : T_api_Entry) with f_Table := (lget x1.f_Tables k1).f_ID } : T_api_Entry)) [1, 4] zh40_1_4 rfl bu40 zr40 (.cons le_T_api_Entry_Table rfl (look_t rfl) rfl (by rfl) (.nil))) ?_
 refine Sq.own (α := T_api_Match) 58 (Sq.own (α := T_api_Value) 47 (Sq.allocX (z := (default : T_api_Entry)) [1, 4] zh40_1_4 zr40 rfl fun p4 => Sq.own (α := T_api_Match) 58 (Sq.own (α := T_api_Value) 47 (Sq.storeW (i := 2) ty40 (look_t rfl) (look_t rfl) rfl (Qns (Qsr (Q1 (r_fa fd81_2.fd) ?_)))))))
 refine Qld 5 le_T_api_Table_Keys ty79 ?_
 refine Q1 (r_len Try.underlying79) ?_
 refine Qm (Qnx (Wp.block ?_))
 refine Qbf h fun e1 hl h => ?_
 refine Qlp (γ:=(Option Nat × Nat)) (δ:=(Option Nat × Nat)) hl [0, 1, 2, 4, 6, 7, 8, 26, 27] (fun s1 g1 => [(28, VP.of (s1.1))]) (fun s1 g1 => [(2, ⟨some p4, .varX s1.2.1 [(1, slv g1.1 s1.2.2.1.length g1.2), (4, slv none ([] : List T_api_Value).length 0)]⟩), (4, ⟨g1.1, .row 58 s1.2.2.1 g1.2⟩), (8, vr pp0 s1.2.2.2)]) (fun q1 => Exit.exit 0) (fun q1 g1 => [(28, VP.of (q1.1)), (29, VP.of (q1.2.1))]) (fun q1 g1 => [(2, ⟨some p4, .varX q1.2.2.1 [(1, slv g1.1 q1.2.2.2.1.length g1.2), (4, slv none ([] : List T_api_Value).length 0)]⟩), (4, ⟨g1.1, .row 58 q1.2.2.2.1 g1.2⟩), (8, vr pp0 q1.2.2.2.2)]) (none, 0) (fun s1 r h g1 => ?_) fun g1 => ?_
 ·clear hl
  refine Qsr (Q2 r_lss (Qns ?_))
  refine Qcd h (fun h=>?_) fun h=>?_
  ·refine Qkn (Wp.seq (Wp.block (Qsr (Qbf h fun k2 hk2 h => Qix hk2 Try.underlying79 ty110 ?_))))
   refine Q1 (r_loadp ty110) ?_
   refine Qal zr110 fun p5 => ?_
   refine Qs0 0 ty110 (Qns ?_)
   refine Qbf h fun y2 hy2 h => Qbf h fun y3 hy3 h => Qwl [0, 1, 2, 4, 6, 7, 8, 10, 26, 27, 28, 29, 30, 31] ?_
   refine Wp.eD mixed (Hp 32 [] [] _ :: Hp 33 [0] [3] _ :: Hp 34 [] [] _ :: Hp 35 [] [8] _ :: Hp 36 [] [0] _ :: ⟨some 37, [2, 3, 4], [9], [9], fun _ => VP.of (y2.1), fun hd _ => vr pp0 y2.2⟩ :: Hp 38 [5] [] _ :: ⟨some 39, [1, 6], [5], [5], fun hd => VP.eq (slv (hd 7 0) y3.length ((hd 7 1).getD 0)), fun hd _ => ⟨(hd 7 0), .row 58 y3 ((hd 7 1).getD 0)⟩⟩ :: Hp 40 [] [] _ :: Hs [1, 7, 8] [3] [3] (fun hd => ⟨some p4, .varX ({ s1.2.1 with f_Matches := [] } : T_api_Entry) [(1, slv (hd 7 0) y3.length ((hd 7 1).getD 0)), (4, slv none ([] : List T_api_Value).length 0)]⟩) :: []) ⟨D1 (r_fa fd40_1.fd), Du fun hE hL => r_loadH (i := 3) (q := 0) (β := T_api_Entry) (γ := T_api_Match) ty37 (look_t (hE _ _ rfl)) (hL 3 _ rfl rfl) rfl, Dm, Dl0 8 ty32, Dl0 0 ty110, ?_, Du fun hE hL => r_bsl (r := [y2.1]) Try.underlying37 ty58 zr58 rfl rfl (.cons (by simp) (look_t (hE _ _ rfl)) (.nil)), ?_, D1 (r_fa fd40_1.fd), ?_, trivial⟩ fun hd2 => ?_
   ·intro hd E' L' hE hL
    refine Sq.bring 9 (hL 9 _ rfl rfl) (Sq.callO (Lin := [vr pp0 s1.2.2.2]) (Lr := L'.eraseIdx 9) en35 (C_mcase_Codes_match hy2) ⟨look_t (hE _ _ rfl), look_t (hE _ _ rfl), look_t (hE _ _ rfl), trivial⟩ rfl fun q2 => Sq.nil (To.back 9 (hL 9 _ rfl rfl) ?_))
    exact To.fin (gm []) rfl rfl
   ·intro hd E' L' hE hL
    refine Sq.app (i := 5) Try.underlying37 ty58 zr58 (bytes := 64) (by kernel_rfl) (look_t (hE _ _ rfl)) (hL 5 _ rfl rfl) (look_t (hE _ _ rfl)) hy3 rfl fun key1 cap1 => ?_
    refine Sq.nil ?_
    exact To.fin (gm [key1, some cap1]) rfl rfl
   ·intro hd E' L' hE hL
    refine Sq.storeH (i := 3) (γ := T_api_Match) (b' := ({ s1.2.1 with f_Matches := [] } : T_api_Entry)) (os' := [(1, slv (hd 7 0) y3.length ((hd 7 1).getD 0)), (4, slv none ([] : List T_api_Value).length 0)]) ((Lens.id T_api_Entry).comp le_T_api_Entry_Matches) ty37 (look_t (hE _ _ rfl)) (look_t (hE _ _ rfl)) slv_one (hL 3 _ rfl rfl) rfl rfl rfl (Sq.nil ?_)
    exact To.fin (gm []) rfl rfl
   refine To.eqL (L2 := [vr p5 (lget ((lget x1.f_Tables k1).f_Keys) k2 : T_api_Key), ⟨none, .row 47 ([] : List T_api_Value) 0⟩, ⟨none, .row 58 ([] : List T_api_Match) 0⟩, ⟨some p4, .varX ({ s1.2.1 with f_Matches := [] } : T_api_Entry) [(1, slv (hd2 7 0) y3.length ((hd2 7 1).getD 0)), (4, slv none ([] : List T_api_Value).length 0)]⟩, ⟨none, .row 47 ([] : List T_api_Value) 0⟩, ⟨(hd2 7 0), .row 58 y3 ((hd2 7 1).getD 0)⟩, vr ((hd1 9 0).getD 0) (lget x1.f_Tables k1 : T_api_Table), vr p2 (default : T_api_Entry), vr p1 x1, vr pp0 y2.2]) rfl (Qte (To.next (Qsr ?_)))
   refine Q1 (r_fa fd110_2.fd) ?_
   refine Qld 0 le_T_api_Key_Kind ty3 ?_
   refine Q2 r_eql ?_
   refine Qm ?_
   refine Qg1 (r_fa fd110_2.fd) ?_
   refine Qg (fun hb => r_load (i := 0) ((Lens.id T_api_Key).comp le_T_api_Key_Kind) (r := (lget ((lget x1.f_Tables k1).f_Keys) k2).f_Kind) ty3 (look_tc rfl hb) rfl rfl rfl) ?_
   refine Qg2 r_eql ?_
   refine Qbf h fun z1 hz1 h => Qn hz1 (r_or (look_t rfl) (look_t rfl) (fun h => h)) (Qnx ?_)
   refine Qbf h fun m1 hm1 h => ?_
   refine Qcm (γ:=Unit) [0, 1, 2, 4, 6, 7, 8, 10, 26, 27, 28, 29, 48] (fun g2 => []) (fun g2 => [(3, ⟨some p4, .varX m1.1 [(1, slv (hd2 7 0) y3.length ((hd2 7 1).getD 0)), (4, slv none ([] : List T_api_Value).length 0)]⟩), (9, vr pp0 m1.2)]) (fun g2 => ?_) (fun hm hc => ?_) fun hm hc => ?_
   ·clear hm1
    refine To.bnorm (To.next (Wp.reg (Q2 r_add ?_)))
    refine Qm (Sq.nil ?_)
    cases h
    exact Qrd ((hd2 7 0), ((hd2 7 1).getD 0)) 1
   ·have h := cond_t hc hm1
    refine Wp.reg (Qm ?_)
    refine Sq.bring 9 rfl (Qbf h fun y4 hy4 h => QcO 1 en15 (C_mcase_Codes_Next hy4) fun q3 => ?_)
    refine Q2 r_add ?_
    refine Q1 (r_fa fd40_2.fd) ?_
    refine Qbf h fun z2 hz2 h => ?_
    refine Sq.storeX (i := 4) ((Lens.id T_api_Entry).comp le_T_api_Entry_Priority) (v := (w64 (1 + y4.1) : Int)) (b' := z2) ty3 (look_t rfl) (look_t rfl) rfl rfl (some_in hz2) (by rfl) ?_
    refine Sq.nil (To.bring 9 rfl (To.bring 9 rfl (To.bring 9 rfl (To.bring 9 rfl (To.bring 9 rfl (To.bring 9 rfl (To.bring 9 rfl (To.bring 9 rfl (To.bring 9 rfl ?_)))))))))
    cases h
    exact Qmt 0 (hm ())
   ·have h := cond_f hc hm1
    refine Wp.skip ?_
    cases h
    exact Qmt 0 (hm ())
  ·refine Wp.exit (To.exit ?_)
   cases h
   exact Qlv (g1.1, g1.2) 0
 ·clear hl
  refine To.bexit (To.next (Wp.seq (Qbf h fun y5 hy5 h => Qbf h fun k3 hk3 h => Qbf h fun z3 hz3 h => Qwl [0, 1, 2, 4, 6, 7, 8, 26, 27, 28, 29] ?_)))
  refine Wp.eD mixed (Hp 54 [] [] _ :: Hp 55 [0] [5] _ :: Hp 56 [] [] _ :: Hp 57 [] [] _ :: Hp 58 [3] [5] _ :: Hp 59 [4] [] _ :: ⟨some 60, [2, 5], [8], [8], fun _ => VP.of (y5.1), fun hd _ => vr pp0 y5.2⟩ :: Hp 61 [1, 6] [] _ :: Hp 62 [7] [] _ :: Hp 63 [] [] _ :: Hs [8, 9] [2] [2] (fun hd => ⟨some p4, .varX z3 [(1, slv g1.1 e1.2.2.2.1.length g1.2), (4, slv none ([] : List T_api_Value).length 0)]⟩) :: []) ⟨D1 (r_fa fd81_3.fd), Dld 5 le_T_api_Table_Actions ty68, Dm, D1 (r_fa fd81_3.fd), Dld 5 le_T_api_Table_Actions ty68, D1 (r_len Try.underlying68), ?_, Du fun hE hL => r_ias (k := k3) Try.underlying68 ty3 (look_t (hE _ _ rfl)) (look_t (hE _ _ rfl)) (idx_some hk3), D1 (r_loadp ty3), D1 (r_fa fd40_3.fd), ?_, trivial⟩ fun hd3 => ?_
  ·intro hd E' L' hE hL
   refine Sq.bring 8 (hL 8 _ rfl rfl) (Sq.callO (Lin := [vr pp0 e1.2.2.2.2]) (Lr := L'.eraseIdx 8) en15 (C_mcase_Codes_Next hy5) ⟨look_t (hE _ _ rfl), look_t (hE _ _ rfl), trivial⟩ rfl fun q4 => Sq.nil (To.back 8 (hL 8 _ rfl rfl) ?_))
   exact To.fin (gm []) rfl rfl
  ·intro hd E' L' hE hL
   refine Sq.storeX (i := 2) ((Lens.id T_api_Entry).comp le_T_api_Entry_Action) (v := (lget ((lget x1.f_Tables k1).f_Actions) k3 : Int)) (b' := z3) ty3 (look_t (hE _ _ rfl)) (look_t (hE _ _ rfl)) (hL 2 _ rfl rfl) rfl (some_in hz3) (by rfl) ?_
   refine Sq.nil ?_
   exact To.fin (gm []) rfl rfl
  refine To.eqL (L2 := [⟨none, .row 47 ([] : List T_api_Value) 0⟩, ⟨none, .row 58 ([] : List T_api_Match) 0⟩, ⟨some p4, .varX z3 [(1, slv g1.1 e1.2.2.2.1.length g1.2), (4, slv none ([] : List T_api_Value).length 0)]⟩, ⟨none, .row 47 ([] : List T_api_Value) 0⟩, ⟨g1.1, .row 58 e1.2.2.2.1 g1.2⟩, vr ((hd1 9 0).getD 0) (lget x1.f_Tables k1 : T_api_Table), vr p2 (default : T_api_Entry), vr p1 x1, vr pp0 y5.2]) rfl (Qte (To.next (Wp.seq (Qsr ?_))))
  refine Ql0 7 ty32 ?_
  refine Q1 (r_fa fd40_3.fd) ?_
  refine Qlx 2 le_T_api_Entry_Action ty3 ?_
  refine Qbf h fun y6 hy6 h => Qcl k36.en (k36.m _ _ _ hy6) ?_
  refine Qv (r_field le_T_api_Action_Params fv104_2 ty101 rfl (look_t rfl) rfl rfl) ?_
  refine Q1 (r_len Try.underlying101) ?_
  refine Qm (Qnx (Wp.block ?_))
  refine Qbf h fun e2 hl h => ?_
  refine Qlp (γ:=(Option Nat × Nat)) (δ:=(Option Nat × Nat)) hl [0, 1, 2, 4, 6, 7, 8, 26, 27, 28, 29, 68, 69] (fun s2 g3 => [(70, VP.of (s2.1))]) (fun s2 g3 => [(2, ⟨some p4, .varX s2.2.1 [(1, slv g1.1 e1.2.2.2.1.length g1.2), (4, slv g3.1 s2.2.2.1.length g3.2)]⟩), (3, ⟨g3.1, .row 47 s2.2.2.1 g3.2⟩), (8, vr pp0 s2.2.2.2)]) (fun q5 => Exit.exit 2) (fun q5 g3 => [(70, VP.of (q5.1)), (71, VP.of (q5.2.1))]) (fun q5 g3 => [(2, ⟨some p4, .varX q5.2.2.1 [(1, slv g1.1 e1.2.2.2.1.length g1.2), (4, slv g3.1 q5.2.2.2.1.length g3.2)]⟩), (3, ⟨g3.1, .row 47 q5.2.2.2.1 g3.2⟩), (8, vr pp0 q5.2.2.2.2)]) (none, 0) (fun s2 r h g3 => ?_) fun g3 => ?_
  ·clear hl
   refine Qsr (Q2 r_lss (Qns ?_))
   refine Qcd h (fun h=>?_) fun h=>?_
   ·refine Qkn (Wp.seq (Wp.block (Qsr (Qbf h fun k4 hk4 h => Qix hk4 Try.underlying101 ty108 ?_))))
    refine Q1 (r_loadp ty108) ?_
    refine Qal zr108 fun p6 => ?_
    refine Qs0 0 ty108 (Qnx ?_)
    refine Qbf h fun y7 hy7 h => Qbf h fun z4 hz4 h => Qbf h fun y8 hy8 h => Qbf h fun y9 hy9 h => Qwl [0, 1, 2, 4, 6, 7, 8, 12, 26, 27, 28, 29, 68, 69, 70, 71, 72, 73] ?_
    refine Wp.eD mixed (Hp 74 [] [] _ :: Hp 75 [0] [3] _ :: Hp 76 [] [] _ :: ⟨some 77, [2], [9], [9], fun _ => VP.of (y7.1), fun hd _ => vr pp0 y7.2⟩ :: Hp 78 [3] [] _ :: Hp 79 [4] [] _ :: Hp 80 [] [] _ :: Hp 81 [6] [0] _ :: Hp 82 [5, 7] [] _ :: Hp 83 [8] [] _ :: ⟨some 84, [1, 9], [4], [4], fun hd => VP.eq (slv (hd 10 0) y9.length ((hd 10 1).getD 0)), fun hd _ => ⟨(hd 10 0), .row 47 y9 ((hd 10 1).getD 0)⟩⟩ :: Hp 85 [] [] _ :: Hs [1, 10, 11] [3] [3] (fun hd => ⟨some p4, .varX ({ s2.2.1 with f_Args := [] } : T_api_Entry) [(1, slv g1.1 e1.2.2.2.1.length g1.2), (4, slv (hd 10 0) y9.length ((hd 10 1).getD 0))]⟩) :: []) ⟨D1 (r_fa fd40_4.fd), Du fun hE hL => r_loadH (i := 3) (q := 1) (β := T_api_Entry) (γ := T_api_Value) ty38 (look_t (hE _ _ rfl)) (hL 3 _ rfl rfl) rfl, Dm, ?_, D1 (r_ci64 Try.underlying3 Try.underlying45), Du fun hE hL => (r_build (b := ({ (default : T_api_Value) with f_Lo := BitVec.ofInt 64 y7.1 } : T_api_Value)) rfl bu47 zr47 (.cons le_T_api_Value_Lo rfl (look_t (hE _ _ rfl)) rfl (.nil))).as (some_in hz4), D1 (r_fa fd108_1.fd), Dld 0 le_T_api_Param_Bits ty3, Du fun hE hL => r_call k37.en (k37.m _ _ _ hy8) ⟨look_t (hE _ _ rfl), look_t (hE _ _ rfl), trivial⟩, Du fun hE hL => r_bsl (r := [y8]) Try.underlying38 ty47 zr47 rfl rfl (.cons (by simp) (look_t (hE _ _ rfl)) (.nil)), ?_, D1 (r_fa fd40_4.fd), ?_, trivial⟩ fun hd4 => ?_
    ·intro hd E' L' hE hL
     refine Sq.bring 9 (hL 9 _ rfl rfl) (Sq.callO (Lin := [vr pp0 s2.2.2.2]) (Lr := L'.eraseIdx 9) en15 (C_mcase_Codes_Next hy7) ⟨look_t (hE _ _ rfl), look_int 256, trivial⟩ rfl fun q6 => Sq.nil (To.back 9 (hL 9 _ rfl rfl) ?_))
     exact To.fin (gm []) rfl rfl
    ·intro hd E' L' hE hL
     refine Sq.app (i := 4) Try.underlying38 ty47 zr47 (bytes := 16) (by kernel_rfl) (look_t (hE _ _ rfl)) (hL 4 _ rfl rfl) (look_t (hE _ _ rfl)) hy9 rfl fun key2 cap2 => ?_
     refine Sq.nil ?_
     exact To.fin (gm [key2, some cap2]) rfl rfl
    ·intro hd E' L' hE hL
     refine Sq.storeH (i := 3) (γ := T_api_Value) (b' := ({ s2.2.1 with f_Args := [] } : T_api_Entry)) (os' := [(1, slv g1.1 e1.2.2.2.1.length g1.2), (4, slv (hd 10 0) y9.length ((hd 10 1).getD 0))]) ((Lens.id T_api_Entry).comp le_T_api_Entry_Args) ty38 (look_t (hE _ _ rfl)) (look_t (hE _ _ rfl)) slv_one (hL 3 _ rfl rfl) rfl rfl rfl (Sq.nil ?_)
     exact To.fin (gm []) rfl rfl
    refine To.eqL (L2 := [vr p6 (lget y6.f_Params k4 : T_api_Param), ⟨none, .row 47 ([] : List T_api_Value) 0⟩, ⟨none, .row 58 ([] : List T_api_Match) 0⟩, ⟨some p4, .varX ({ s2.2.1 with f_Args := [] } : T_api_Entry) [(1, slv g1.1 e1.2.2.2.1.length g1.2), (4, slv (hd4 10 0) y9.length ((hd4 10 1).getD 0))]⟩, ⟨(hd4 10 0), .row 47 y9 ((hd4 10 1).getD 0)⟩, ⟨g1.1, .row 58 e1.2.2.2.1 g1.2⟩, vr ((hd1 9 0).getD 0) (lget x1.f_Tables k1 : T_api_Table), vr p2 (default : T_api_Entry), vr p1 x1, vr pp0 y7.2]) rfl (Qte ?_)
    refine To.bnorm (To.next (Wp.reg (Q2 r_add ?_)))
    refine Qm (Sq.nil ?_)
    cases h
    exact Qrd ((hd4 10 0), ((hd4 10 1).getD 0)) 1
   ·refine Wp.exit (To.exit ?_)
    cases h
    exact Qlv (g3.1, g3.2) 0
  ·clear hl
   refine To.bexit (To.next (Qsr (Sq.thaw (β := T_api_Entry) (γ := T_api_Match) (b' := ({ e2.2.2.1 with f_Matches := e1.2.2.2.1 } : T_api_Entry)) ((Lens.id T_api_Entry).comp le_T_api_Entry_Matches) 2 4 0 rfl rfl rfl rfl rfl rfl (Sq.thaw (β := T_api_Entry) (γ := T_api_Value) (b' := ({ ({ e2.2.2.1 with f_Matches := e1.2.2.2.1 } : T_api_Entry) with f_Args := e2.2.2.2.1 } : T_api_Entry)) ((Lens.id T_api_Entry).comp le_T_api_Entry_Args) 2 3 0 rfl rfl rfl rfl rfl rfl (Sq.fromX 2 rfl (Qbf h fun z5 hz5 h => Qn hz5 (r_load (i := 2) (Lens.id T_api_Entry) (r := ({ ({ e2.2.2.1 with f_Matches := e1.2.2.2.1 } : T_api_Entry) with f_Args := e2.2.2.2.1 } : T_api_Entry)) ty40 (look_t rfl) rfl rfl rfl) ?_))))))
   refine Qs0 6 ty40 (Qnx (Wp.ret ?_))
   refine To.bring 8 rfl ?_
   cases h
   exact To.endO1 () (.cons_cons _ (List.nil_sublist _)) rfl rfl (rvo_c (i := 7) ty40 rfl rfl)
end Go.Proofs.Ytmlgdkccoomiaaa

namespace Go.Proofs.Ytmlgdkccoomiaaa
open Go Gv
set_option linter.unusedVariables false
set_option linter.unusedSimpArgs false
set_option maxRecDepth 100000
set_option maxHeartbeats 2000000
attribute [local irreducible] Sq Wp To HR Look Stp LQG LQW VP.of VP.ptr VP.eq VP.cond VP.tup
theorem Cop0_2_slices_Insert_api_Installed {x0 x2 : List T_api_Installed} {x1 : Int} {key00 key02 : Option Nat} {cap00 cap02 : Nat} {r : List T_api_Installed} (h : Lp0_2_slices_Insert_api_Installed x0 x1 x2 = some r) : MeetsO Try.prog 40 [VP.eq (slv key00 x0.length cap00), VP.of x1, VP.eq (slv key02 x2.length cap02)] [⟨key00, .row 42 x0 cap00⟩, ⟨key02, .row 42 x2 cap02⟩] (δ := (Option Nat × Nat)) (fun d => VP.eq (slv d.1 r.length d.2)) (fun d => [⟨d.1, .row 42 r d.2⟩]) := by
  unfold Lp0_2_slices_Insert_api_Installed at h
  obtain ⟨k, rfl, hk, hv, hb1, hb2, rfl⟩ := insM_some h
  refine MeetsO.of Try.func40 rfl Try.ntmps40 rfl fun W A => Wp.seq (Wp.reg (Sq.v (r_asg look_own) rfl rfl rfl (Sq.nil (To.next (Wp.seq (Wp.reg (Sq.v (r_move (look_t rfl)) rfl rfl rfl (Sq.v (r_move (look_t rfl)) rfl rfl rfl (Sq.v (r_sliceO (i := 0) (xs := x0) Try.underlying51 ty42 (look_t rfl) rfl (.some (look_t rfl)) .none rfl rfl ⟨hk, Nat.le_refl _⟩) rfl rfl rfl (Sq.nil (To.next (Wp.seq (Wp.reg (Sq.v (r_move (look_t rfl)) rfl rfl rfl (Sq.v (r_lenO (i := 1) (xs := x2) Try.underlying51 (look_t rfl) rfl rfl) rfl rfl rfl (Sq.v (r_asg (look_t rfl)) rfl rfl rfl (Sq.nil (To.next ?_))))))))))))))))))
  refine Wp.seq (Wp.seq (Wp.reg (Sq.v (r_move (look_t rfl)) rfl rfl rfl (Sq.v (r_eql (look_t rfl) (look_int 0)) rfl rfl rfl (Sq.nil (To.next ?_))))))
  refine Wp.cond (look_t rfl) (fun hc => ?_) (fun _ => ?_)
  · exfalso; simp only [beq_iff_eq] at hc; omega
  refine Wp.skip (To.next (Wp.seq (Wp.reg (Sq.v (r_move (look_t rfl)) rfl rfl rfl (Sq.v (r_lenO (i := 0) (xs := x0) Try.underlying51 (look_t rfl) rfl rfl) rfl rfl rfl (Sq.v (r_asg (look_t rfl)) rfl rfl rfl (Sq.nil (To.next (Wp.seq (Wp.seq (Wp.reg (Sq.v (r_move (look_t rfl)) rfl rfl rfl (Sq.v (r_move (look_t rfl)) rfl rfl rfl (Sq.v (r_eql (look_t rfl) (look_t rfl)) rfl rfl rfl (Sq.nil (To.next ?_))))))))))))))))
  refine Wp.cond (look_t rfl) (fun hc => ?_) (fun hc => ?_)
  · have hkn : k = x0.length := by simp only [beq_iff_eq] at hc; omega
    subst hkn
    refine Wp.seq (Wp.reg (Sq.v (r_move (look_t rfl)) rfl rfl rfl (Sq.freezeL (α := T_api_Installed) 1 [2, 13] ⟨rfl, rfl, trivial⟩ rfl (Sq.v (r_move (look_t rfl)) rfl rfl rfl ?_))))
    refine Sq.app (i := 0) (xs := x0) (ys := x2) (r := x0 ++ x2) Try.underlying51 ty42 zr42 (by kernel_rfl) (look_t rfl) rfl (look_t rfl) (by unfold appM; rw [if_pos ⟨hb1, hb2⟩]) rfl fun key1 cap1 => ?_
    refine Sq.v (r_asg (look_t rfl)) rfl rfl rfl (Sq.nil (To.next (Wp.ret ?_)))
    have hr : x0.take x0.length ++ x2 ++ x0.drop x0.length = x0 ++ x2 := by simp
    rw [hr]
    repeat (apply To.ret)
    exact To.endO1 (key1, cap1) (.cons_cons _ (List.nil_sublist _)) rfl rfl (rvo_t rfl)
  have hkn : k < x0.length := by simp only [beq_eq_false_iff_ne] at hc; omega
  refine Wp.skip (To.next ?_)
  refine Wp.some (i := 0) (xs := x0) rfl (by omega) fun p hp hcap hcm => ?_
  subst hp
  refine Wp.some (i := 1) (xs := x2) rfl (by omega) fun q hq hcap2 hcm2 => ?_
  subst hq
  refine Wp.apart rfl fun hpq => Wp.seq (Wp.seq (Wp.reg (Sq.v (r_move (look_t rfl)) rfl rfl rfl (Sq.v (r_move (look_t rfl)) rfl rfl rfl (Sq.v (r_add (look_t rfl) (look_t rfl)) rfl rfl rfl (Sq.v (r_move (look_t rfl)) rfl rfl rfl (Sq.v (r_capO Try.underlying51 (look_t rfl)) rfl rfl rfl (Sq.v (r_gtr (look_t rfl) (look_t rfl)) rfl rfl rfl (Sq.nil (To.next ?_))))))))))
  have hw : w64 ((x0.length : Int) + (x2.length : Int)) = ((x0.length + x2.length : Nat) : Int) := by
    have hml : maxLen = 9223372036854775807 := rfl
    rw [w64_in (by omega) (by omega)]; simp
  refine Wp.cond (look_t rfl) (fun hc2 => ?_) (fun hc2 => ?_)
  · have hroom : cap00 < x0.length + x2.length := by rw [hw] at hc2; simp only [decide_eq_true_eq] at hc2; omega
    have hml : maxLen = 9223372036854775807 := rfl
    have hj : w64 (w64 ((x0.length : Int) + (x2.length : Int)) - (k : Int)) = ((x0.length + x2.length - k : Nat) : Int) := by
      rw [hw, w64_in (by omega) (by omega)]; omega
    refine Wp.seq (Wp.reg (Sq.v (r_move (look_t rfl)) rfl rfl rfl (Sq.v (r_move (look_t rfl)) rfl rfl rfl (Sq.v (r_sliceO (i := 0) (xs := x0) Try.underlying51 ty42 (look_t rfl) rfl .none (.some (look_t rfl)) rfl rfl ⟨Nat.zero_le _, hk⟩) rfl rfl rfl (Sq.v (r_move (look_t rfl)) rfl rfl rfl (Sq.v (r_move (look_t rfl)) rfl rfl rfl (Sq.v (r_add (look_t rfl) (look_t rfl)) rfl rfl rfl (Sq.v (r_move (look_t rfl)) rfl rfl rfl (Sq.v (r_sub (look_t rfl) (look_t rfl)) rfl rfl rfl ?_)))))))))
    refine Sq.appZ (i := 0) (m := k) (k := x0.length + x2.length - k) (xs := x0) (z := (default : T_api_Installed)) Try.underlying51 Try.underlying3 ty42 zr42 (by rfl) (by kernel_rfl) (look_t rfl) (by rw [← hj]; exact look_t rfl) rfl hk (by omega) (by omega) (by rw [show k + (x0.length + x2.length - k) = x0.length + x2.length by omega]; exact hb1) (by omega) rfl fun q1 cap1 => ?_
    refine Sq.v (r_asg (look_t rfl)) rfl rfl rfl (Sq.nil (To.next ?_))
    have hlen : (x0.take k ++ List.replicate (x0.length + x2.length - k) (default : T_api_Installed)).length = x0.length + x2.length := by simp; omega
    refine Wp.some (i := 0) (xs := x0.take k ++ List.replicate (x0.length + x2.length - k) (default : T_api_Installed)) rfl (by omega) fun q2 hq2 hcapN hcmN => ?_
    rw [hlen] at hcapN
    refine Wp.seq (Wp.reg (Sq.v (r_move (look_t rfl)) rfl rfl rfl (Sq.v (r_move (look_t rfl)) rfl rfl rfl ?_)))
    refine Sq.v (r_sliceE (α := T_api_Installed) (m := k) (h := k + (x0.length + x2.length - k)) Try.underlying51 ty42 (look_t rfl) (.some (look_t rfl)) .none rfl rfl ⟨by omega, by omega⟩) rfl rfl rfl ?_
    refine Sq.v (r_move (look_t rfl)) rfl rfl rfl ?_
    refine Sq.copyG (i := 0) (p := q1) (off := k * Rp.size T_api_Installed) (dLen := k + (x0.length + x2.length - k) - k) (dCap := cap1 - k) (N := x2.length) (vs := x2) (T := 42) Try.underlying51 ty42 (by rw [← vslv_at (by omega)]; exact look_t rfl) (src_row (i := 2) (look_t rfl) rfl hv) (Nat.min_eq_left (by omega)) rfl rfl (fun A W o cells h h' => row_part (by omega) h h') ?_
    refine Sq.nil (To.next ?_)
    have e1 : (x0.take k ++ List.replicate (x0.length + x2.length - k) (default : T_api_Installed)).take k ++ x2 ++ (x0.take k ++ List.replicate (x0.length + x2.length - k) (default : T_api_Installed)).drop (k + x2.length) = x0.take k ++ x2 ++ List.replicate (x0.length - k) (default : T_api_Installed) := by
      have hk' : (x0.take k).length = k := by rw [List.length_take]; omega
      rw [List.take_left' hk', List.drop_append, hk', List.drop_eq_nil_of_le (by omega), List.nil_append, List.drop_replicate]
      congr 2
      omega
    have hw2 : w64 ((k : Int) + (x2.length : Int)) = ((k + x2.length : Nat) : Int) := by rw [w64_in (by omega) (by omega)]; simp
    refine Wp.seq (Wp.le (E' := [(0, VP.eq (slv (some p) x0.length cap00)), (1, VP.of (k : Int)), (7, VP.of (x2.length : Int)), (9, VP.eq (slv (some q1) (k + (x0.length + x2.length - k)) cap1))]) .all ?_)
    refine Wp.dD mixed (Hp 46 [] [] (VP.eq (slv (some q1) (k + (x0.length + x2.length - k)) cap1)) :: Hp 47 [] [] (VP.of (k : Int)) :: Hp 48 [] [] (VP.of (x2.length : Int)) :: Hp 49 [1, 2] [] (VP.of (w64 ((k : Int) + (x2.length : Int)))) :: Hp 50 [0, 3] [] (VP.eq (vslv (some q1) (k + x2.length) ((k + (x0.length + x2.length - k)) - (k + x2.length)) cap1 (Rp.size T_api_Installed))) :: Hp 51 [] [] (VP.eq (slv (some p) x0.length cap00)) :: Hp 52 [] [] (VP.of (k : Int)) :: Hp 53 [5, 6] [] (VP.eq (vslv (some p) k (x0.length - k) cap00 (Rp.size T_api_Installed))) :: ⟨some 54, [4, 7], [0, 1], [0], fun _ => VP.of ((((x0.drop k).take (x0.length - k)).length : Nat) : Int), fun _ _ => ⟨some q1, .row 42 ((x0.take k ++ x2 ++ List.replicate (x0.length - k) (default : T_api_Installed)).take (k + x2.length) ++ (x0.drop k).take (x0.length - k) ++ (x0.take k ++ x2 ++ List.replicate (x0.length - k) (default : T_api_Installed)).drop (k + x2.length + ((x0.drop k).take (x0.length - k)).length)) cap1⟩⟩ :: []) [0, 1, 7, 9] ⟨?_, ?_, ?_, ?_, ?_, ?_, ?_, ?_, ?_, trivial⟩ fun hd => ?_
    · exact hd_v rfl rfl rfl fun hd E' L' hE hL => r_move (look_t (hE _ _ rfl))
    · exact hd_v rfl rfl rfl fun hd E' L' hE hL => r_move (look_t (hE _ _ rfl))
    · exact hd_v rfl rfl rfl fun hd E' L' hE hL => r_move (look_t (hE _ _ rfl))
    · exact hd_v rfl rfl rfl fun hd E' L' hE hL => r_add (look_t (hE _ _ rfl)) (look_t (hE _ _ rfl))
    · exact hd_v rfl rfl rfl fun hd E' L' hE hL => r_sliceE (α := T_api_Installed) (m := k + x2.length) (h := (k + (x0.length + x2.length - k))) Try.underlying51 ty42 (look_t (hE _ _ rfl)) (.some (look_t (hE _ _ rfl))) .none hw2 rfl ⟨by omega, by omega⟩
    · exact hd_v rfl rfl rfl fun hd E' L' hE hL => r_move (look_t (hE _ _ rfl))
    · exact hd_v rfl rfl rfl fun hd E' L' hE hL => r_move (look_t (hE _ _ rfl))
    · exact hd_v rfl rfl rfl fun hd E' L' hE hL => r_sliceE (α := T_api_Installed) (m := k) (h := x0.length) Try.underlying51 ty42 (look_t (hE _ _ rfl)) (.some (look_t (hE _ _ rfl))) .none rfl rfl ⟨by omega, by omega⟩
    · intro hd E' L' hE hL
      have h0 := hL 0 _ rfl rfl
      rw [e1] at h0
      refine Sq.copyG (i := 0) (p := q1) (off := (k + x2.length) * Rp.size T_api_Installed) (T := 42) (vs := (x0.drop k).take (x0.length - k)) (N := x0.length - k) (dLen := (k + (x0.length + x2.length - k)) - (k + x2.length)) (dCap := cap1 - (k + x2.length)) Try.underlying51 ty42 (by rw [← vslv_at (p := q1) (lo := k + x2.length) (cap := cap1) (size := Rp.size T_api_Installed) (by omega)]; exact look_t (hE _ _ rfl)) (src_own (i := 1) (look_t (hE _ _ rfl)) (hL 1 _ rfl rfl) (by omega) (by omega)) (by rw [show ((x0.drop k).take (x0.length - k)).length = x0.length - k by simp]; exact Nat.min_eq_left (by omega)) h0 rfl (fun A W o cells h h' => row_part (by simp; omega) h h') ?_
      refine Sq.nil ?_
      exact To.fin (gm []) rfl rfl
    have e2 : ((x0.take k ++ x2 ++ List.replicate (x0.length - k) (default : T_api_Installed)).take (k + x2.length) ++ (x0.drop k).take (x0.length - k) ++ (x0.take k ++ x2 ++ List.replicate (x0.length - k) (default : T_api_Installed)).drop (k + x2.length + ((x0.drop k).take (x0.length - k)).length)) = x0.take k ++ x2 ++ x0.drop k := by
      have hk' : (x0.take k ++ x2).length = k + x2.length := by simp; omega
      have hk2 : (x0.drop k).take (x0.length - k) = x0.drop k := List.take_of_length_le (by simp)
      have hk3 : (x0.take k ++ x2 ++ List.replicate (x0.length - k) (default : T_api_Installed)).drop (k + x2.length + (x0.drop k).length) = [] := List.drop_eq_nil_of_le (by rw [List.length_append, hk', List.length_replicate, List.length_drop]; omega)
      rw [hk2, List.take_left' hk', hk3, List.append_nil]
    refine To.eqL (L2 := [⟨some q1, .row 42 ((x0.take k ++ x2 ++ List.replicate (x0.length - k) (default : T_api_Installed)).take (k + x2.length) ++ (x0.drop k).take (x0.length - k) ++ (x0.take k ++ x2 ++ List.replicate (x0.length - k) (default : T_api_Installed)).drop (k + x2.length + ((x0.drop k).take (x0.length - k)).length)) cap1⟩, ⟨some p, .row 42 x0 cap00⟩, ⟨some q, .row 42 x2 cap02⟩]) rfl ?_
    rw [e2]
    refine To.le (E' := [(9, VP.eq (slv (some q1) (k + (x0.length + x2.length - k)) cap1))]) (.same rfl .nil) (To.next (Wp.seq (Wp.reg (Sq.v (r_move (look_t rfl)) rfl rfl rfl (Sq.v (r_asg (look_t rfl)) rfl rfl rfl (Sq.nil (To.next (Wp.ret ?_))))))))
    have e3 : k + (x0.length + x2.length - k) = (x0.take k ++ x2 ++ x0.drop k).length := by simp; omega
    rw [e3]
    repeat (apply To.ret)
    exact To.endO1 (some q1, cap1) (.cons_cons _ (List.nil_sublist _)) rfl rfl (rvo_t rfl)
  have hroom : x0.length + x2.length ≤ cap00 := by rw [hw] at hc2; simp only [decide_eq_false_iff_not] at hc2; omega
  have hml : maxLen = 9223372036854775807 := rfl
  have hw2 : w64 ((k : Int) + (x2.length : Int)) = ((k + x2.length : Nat) : Int) := by rw [w64_in (by omega) (by omega)]; simp
  refine Wp.skip (To.next (Wp.seq (Wp.reg (Sq.v (r_move (look_t rfl)) rfl rfl rfl (Sq.v (r_move (look_t rfl)) rfl rfl rfl (Sq.v (r_move (look_t rfl)) rfl rfl rfl (Sq.v (r_add (look_t rfl) (look_t rfl)) rfl rfl rfl ?_)))))))
  refine Sq.v (r_sliceE (α := T_api_Installed) (m := 0) (h := x0.length + x2.length) Try.underlying51 ty42 (look_t rfl) .none (.some (look_t rfl)) rfl hw ⟨by omega, by omega⟩) rfl rfl rfl ?_
  refine Sq.v (r_asg (look_t rfl)) rfl rfl rfl (Sq.nil (To.next (Wp.seq (Wp.seq (Wp.reg (Sq.v (r_move (look_t rfl)) rfl rfl rfl (Sq.v (r_move (look_t rfl)) rfl rfl rfl (Sq.v (r_move (look_t rfl)) rfl rfl rfl (Sq.v (r_move (look_t rfl)) rfl rfl rfl (Sq.v (r_add (look_t rfl) (look_t rfl)) rfl rfl rfl ?_))))))))))
  refine Sq.v (r_sliceE (α := T_api_Installed) (p := p) (n := x0.length + x2.length) (cap := cap00) (m := k + x2.length) (h := x0.length + x2.length) Try.underlying51 ty42 (look_z (size := Rp.size T_api_Installed) (look_t rfl)) (.some (look_t rfl)) .none hw2 rfl ⟨by omega, by omega⟩) rfl rfl rfl ?_
  refine Sq.v (r_ovl (α := T_api_Installed) (p := p) (q := q) (T := 42) (U := 42) (xs := x0) (vs := x2) (cap := cap00) (cap' := cap02) (i := 0) (j := 1) (tR := 4) (by kernel_rfl) Try.func53 (by kernel_rfl) (by kernel_rfl) (by kernel_rfl) (by kernel_rfl) Try.underlying51 ty42 (look_t rfl) (look_a (p := p) (lo := k + x2.length) (cap := cap00) (size := Rp.size T_api_Installed) (by omega) (look_t rfl)) rfl rfl hpq (by omega)) rfl rfl rfl ?_
  refine Sq.v (r_not (look_t rfl)) rfl rfl rfl (Sq.nil (To.next ?_))
  refine Wp.cond (look_t rfl) (fun _ => ?_) (fun hc3 => by cases hc3)
  · have hs0 : (x0.length + x2.length - 0) = x0.length + x2.length := by omega
    have hdt : (x0.drop k).take (x0.length - k) = x0.drop k := List.take_of_length_le (by simp)
    refine Wp.seq (Wp.le (E' := [(0, VP.eq (vslv (some p) 0 (x0.length + x2.length - 0) cap00 (Rp.size T_api_Installed))), (1, VP.of (k : Int)), (2, VP.eq (slv (some q) x2.length cap02)), (7, VP.of (x2.length : Int))]) .all ?_)
    refine Wp.dD mixed (Hp 69 [] [] (VP.eq (vslv (some p) 0 (x0.length + x2.length - 0) cap00 (Rp.size T_api_Installed))) :: Hp 70 [] [] (VP.of (k : Int)) :: Hp 71 [] [] (VP.of (x2.length : Int)) :: Hp 72 [1, 2] [] (VP.of (w64 ((k : Int) + (x2.length : Int)))) :: Hp 73 [0, 3] [] (VP.eq (vslv (some p) (k + x2.length) (x0.length + x2.length - (k + x2.length)) cap00 (Rp.size T_api_Installed))) :: Hp 74 [] [] (VP.eq (vslv (some p) 0 (x0.length + x2.length - 0) cap00 (Rp.size T_api_Installed))) :: Hp 75 [] [] (VP.of (k : Int)) :: Hp 76 [5, 6] [] (VP.eq (vslv (some p) k (x0.length + x2.length - k) cap00 (Rp.size T_api_Installed))) :: ⟨some 77, [4, 7], [0], [0], fun _ => VP.of ((((x0.drop k).take (x0.length - k)).length : Nat) : Int), fun _ _ => ⟨some p, .gap 42 x0 k x2.length cap00⟩⟩ :: []) [0, 1, 2, 7] ⟨?_, ?_, ?_, ?_, ?_, ?_, ?_, ?_, ?_, trivial⟩ fun hd => ?_
    · exact hd_v rfl rfl rfl fun hd E' L' hE hL => r_move (look_t (hE _ _ rfl))
    · exact hd_v rfl rfl rfl fun hd E' L' hE hL => r_move (look_t (hE _ _ rfl))
    · exact hd_v rfl rfl rfl fun hd E' L' hE hL => r_move (look_t (hE _ _ rfl))
    · exact hd_v rfl rfl rfl fun hd E' L' hE hL => r_add (look_t (hE _ _ rfl)) (look_t (hE _ _ rfl))
    · exact hd_v rfl rfl rfl fun hd E' L' hE hL => r_sliceE (α := T_api_Installed) (n := x0.length + x2.length) (m := k + x2.length) (h := x0.length + x2.length) Try.underlying51 ty42 (look_z (size := Rp.size T_api_Installed) (look_t (hE _ _ rfl))) (.some (look_t (hE _ _ rfl))) .none hw2 rfl ⟨by omega, by omega⟩
    · exact hd_v rfl rfl rfl fun hd E' L' hE hL => r_move (look_t (hE _ _ rfl))
    · exact hd_v rfl rfl rfl fun hd E' L' hE hL => r_move (look_t (hE _ _ rfl))
    · exact hd_v rfl rfl rfl fun hd E' L' hE hL => r_sliceE (α := T_api_Installed) (n := x0.length + x2.length) (m := k) (h := x0.length + x2.length) Try.underlying51 ty42 (look_z (size := Rp.size T_api_Installed) (look_t (hE _ _ rfl))) (.some (look_t (hE _ _ rfl))) .none rfl rfl ⟨by omega, by omega⟩
    · intro hd E' L' hE hL
      have h0 := hL 0 _ rfl rfl
      refine Sq.copyG (i := 0) (p := p) (off := (k + x2.length) * Rp.size T_api_Installed) (T := 42) (vs := (x0.drop k).take (x0.length - k)) (N := x0.length + x2.length - k) (dLen := x0.length + x2.length - (k + x2.length)) (dCap := cap00 - (k + x2.length)) (cp' := .gap 42 x0 k x2.length cap00) Try.underlying51 ty42 (look_a (p := p) (lo := k + x2.length) (cap := cap00) (size := Rp.size T_api_Installed) (by omega) (look_t (hE _ _ rfl))) (src_own (i := 0) (look_t (hE _ _ rfl)) h0 (by omega) (by omega)) (by rw [hdt]; rw [show (x0.drop k).length = x0.length + x2.length - (k + x2.length) by simp; omega]; exact Nat.min_eq_right (by omega)) h0 rfl (fun A W o cells h h' => gap_new hk hroom h (by rw [← hdt]; exact h')) ?_
      refine Sq.nil ?_
      exact To.fin (gm []) rfl rfl
    refine To.eqL (L2 := [⟨some p, .gap 42 x0 k x2.length cap00⟩, ⟨some q, .row 42 x2 cap02⟩]) rfl (To.le (E' := [(0, VP.eq (vslv (some p) 0 (x0.length + x2.length - 0) cap00 (Rp.size T_api_Installed))), (1, VP.of (k : Int)), (2, VP.eq (slv (some q) x2.length cap02))]) .all (To.next (Wp.seq (Wp.reg (Sq.v (r_move (look_t rfl)) rfl rfl rfl (Sq.v (r_move (look_t rfl)) rfl rfl rfl ?_))))))
    refine Sq.v (r_sliceE (α := T_api_Installed) (n := x0.length + x2.length) (m := k) (h := x0.length + x2.length) Try.underlying51 ty42 (look_z (size := Rp.size T_api_Installed) (look_t rfl)) (.some (look_t rfl)) .none rfl rfl ⟨by omega, by omega⟩) rfl rfl rfl ?_
    refine Sq.v (r_move (look_t rfl)) rfl rfl rfl ?_
    refine Sq.copyG (i := 0) (p := p) (off := k * Rp.size T_api_Installed) (dLen := x0.length + x2.length - k) (dCap := cap00 - k) (N := x2.length) (vs := x2) (T := 42) (cp' := .row 42 (x0.take k ++ x2 ++ x0.drop k) cap00) Try.underlying51 ty42 (look_a (p := p) (lo := k) (cap := cap00) (size := Rp.size T_api_Installed) (by omega) (look_t rfl)) (src_row (i := 1) (look_t rfl) rfl hv) (Nat.min_eq_left (by omega)) rfl rfl (fun A W o cells h h' => gap_fill hk h h') ?_
    refine Sq.nil (To.next (Wp.seq (Wp.reg (Sq.v (r_move (look_t rfl)) rfl rfl rfl (Sq.v (r_asg (look_t rfl)) rfl rfl rfl (Sq.nil (To.next (Wp.ret ?_))))))))
    have e3 : x0.length + x2.length - 0 = (x0.take k ++ x2 ++ x0.drop k).length := by simp; omega
    rw [vslv_zero, e3]
    repeat (apply To.ret)
    exact To.endO1 (some p, cap00) (.cons_cons _ (List.nil_sublist _)) rfl rfl (rvo_t rfl)
end Go.Proofs.Ytmlgdkccoomiaaa

namespace Go.Proofs.Ytmlgdkccoomiaaa
open Go Gv
set_option linter.unusedVariables false
set_option linter.unusedSimpArgs false
set_option maxRecDepth 100000
set_option maxHeartbeats 2000000
attribute [local irreducible] Sq Wp To HR Look Stp LQG LQW VP.of VP.ptr VP.eq VP.cond VP.tup
theorem Ch0_1_ordered_List_Put {x0 x1 pp0 key00_0 cap00_0 r} (h : Lh0_1_ordered_List_Put x0 x1 = some r) : MeetsO Try.prog 25 [VP.pb pp0, VP.of (x1)] [⟨some pp0, .varX ({ x0 with f_l := [] } : T_ordered_List) [(10, slv key00_0 x0.f_l.length cap00_0)]⟩, ⟨key00_0, .row 42 x0.f_l cap00_0⟩] (δ := (Option Nat × Nat)) (fun d => VP.of (r.1)) (fun d => [⟨some pp0, .varX ({ r.2 with f_l := [] } : T_ordered_List) [(10, slv d.1 (r.2.f_l).length d.2)]⟩, ⟨d.1, .row 42 r.2.f_l d.2⟩]) := by
 unfold Lh0_1_ordered_List_Put at h
 refine MeetsO.of Try.func25 rfl Try.ntmps25 rfl fun W A => ?_
 refine go1 fun p1 => ?_
 refine Qv (r_pnil Try.underlying36 (look_t rfl)) ?_
 refine go1 ?_
 refine Qbf h fun y1 hy1 h => Qg (fun hb => HR.lendT (β := T_ordered_List) (γ := T_api_Installed) (b' := x0) ((Lens.id T_ordered_List).comp le_T_ordered_List_l) 1 2 0 rfl rfl rfl rfl rfl rfl flat_int (HR.lend0 1 rfl flat_int (HR.lendV (z := (x0 : T_ordered_List)) 1 11 rfl (lvc hb) rfl flat_int (r_call en26 (Cf0_ordered_List_find (condM_some hy1 hb)) ⟨look_t rfl, look_tc rfl hb, trivial⟩)))) ?_
 refine go2 (fun h => ?_) (fun h => ?_)
 ·refine To.bring 2 rfl (To.bring 2 rfl ?_)
  cases h
  exact Qo1 (key00_0, cap00_0)
 ·refine Qv (r_mkB (look_t rfl)) ?_
  refine Qa (Qns ?_)
  refine Qbf h fun y2 hy2 h => Qwl [0, 1, 3, 4, 5, 8, 9, 10, 11, 12, 13, 14, 15, 16, 17, 18] ?_
  refine Wp.en 3 (Hp 20 [] [] _ :: Hp 21 [0] [] _ :: Hp 22 [1] [] _ :: Hp 23 [2] [1] (VP.eq (slv key00_0 x0.f_l.length cap00_0)) :: Hp 24 [] [0] _ :: Hp 25 [] [] _ :: Hp 26 [3, 4, 5] [1, 2] (VP.tup [VP.of (y2.1), VP.of (y2.2)]) :: Hp 19 [6] [] _ :: Hp 27 [7] [] _ :: Hp 28 [7] [] _ :: Hp 6 [8] [] _ :: Hp 7 [9] [] _ :: []) (ki ?_ (ki ?_ kn)) (fun hd1 => ?_)
  ·exact HeadD.q (Dv fun hd E' L' hE hL => r_loadH (i := 1) (q := 0) (β := T_ordered_List) (γ := T_api_Installed) ty51 (look_t (hE _ _ rfl)) (hL 1 _ rfl rfl) rfl)
  ·exact HeadD.q (Dv fun hd E' L' hE hL => HR.lendTS (β := T_ordered_List) (γ := T_api_Installed) (b' := x0) ((Lens.id T_ordered_List).comp le_T_ordered_List_l) 1 2 0 23 rfl (hL 1 _ rfl rfl) (hL 2 _ rfl rfl) rfl rfl rfl (hE _ _ rfl) (flat_tup2 flat_int flat_bool) (HR.lend0 1 (gss (gso rfl (hL 1 _ rfl rfl))) (flat_tup2 flat_int flat_bool) (HR.lendB2 (F := (fun a0 a1 => Lf0_ordered_List_order x0 a0 a1)) 1 25 (hE _ _ rfl) (gss (gss (gso rfl (hL 1 _ rfl rfl)))) en38 (fun _ _ _ h => Cf0_ordered_List_order h) (flat_tup2 flat_int flat_bool) (r_call en39 (C_slices_BinarySearchFunc_api_Installed hy2) ⟨look_t rfl, look_t (hE _ _ rfl), look_t rfl, trivial⟩))))
  refine To.eqL (L2 := [vr p1 x1, ⟨some pp0, .varX ({ x0 with f_l := [] } : T_ordered_List) [(10, slv key00_0 x0.f_l.length cap00_0)]⟩, ⟨key00_0, .row 42 x0.f_l cap00_0⟩]) rfl (Qte (To.next (Wp.seq ?_)))
  refine Qbf h fun y3 hy3 h => Qbf h fun y4 hy4 h => Wp.keep 1 (Qwl [0, 1, 3, 4, 5, 6, 7, 8, 9, 10, 11, 12, 13, 14, 15, 16, 17, 18, 19, 20, 21, 22, 23, 24, 25, 26, 27, 28] ?_)
  refine Wp.en 4 (Hp 29 [] [] _ :: Hp 30 [] [] _ :: Hp 31 [1] [] _ :: Hp 32 [2] [] _ :: Hp 33 [3] [1] (VP.eq (slv key00_0 x0.f_l.length cap00_0)) :: Hp 34 [] [] _ :: Hp 35 [] [0] _ :: Hp 36 [6] [] _ :: ⟨some 37, [7], [3], [3], fun hd => VP.eq (slv (hd 8 0) [y3].length 1), fun hd _ => ⟨(hd 8 0), .row 42 ([y3] : List T_api_Installed) 1⟩⟩ :: ⟨some 38, [4, 5, 8], [2, 3], [2, 3], fun hd => VP.eq (slv (hd 9 0) y4.length ((hd 9 1).getD 0)), fun hd j => bif Nat.beq j 2 then ⟨(hd 9 0), .row 42 y4 ((hd 9 1).getD 0)⟩ else ⟨none, .dead⟩⟩ :: Hp 39 [0] [] _ :: Hp 40 [10] [] _ :: Hs [4, 9, 11] [1] [1] (fun hd => ⟨some pp0, .varX ({ x0 with f_l := [] } : T_ordered_List) [(10, slv (hd 9 0) y4.length ((hd 9 1).getD 0))]⟩) :: []) (ki ?_ (ki ?_ (ki ?_ (ki ?_ kn)))) (fun hd2 => ?_)
  ·exact HeadD.q (Dv fun hd E' L' hE hL => r_loadH (i := 1) (q := 0) (β := T_ordered_List) (γ := T_api_Installed) ty51 (look_t (hE _ _ rfl)) (hL 1 _ rfl rfl) rfl)
  ·intro hd E' L' hE hL hP
   refine Sq.bslO (α := T_api_Installed) (r := [y3]) Try.underlying51 ty42 zr42 rfl rfl (.cons (by simp) (look_t (hE _ _ rfl)) (.nil)) rfl fun key1 => ?_
   refine Sq.nil (To.place 3 (hL 3 _ rfl rfl) ?_)
   exact To.fin (gm [key1]) rfl rfl
  ·intro hd E' L' hE hL hP
   refine Sq.callO2 (fun q => ⟨q.1, .row 42 y4 q.2⟩) 2 3 en40 (Cop0_2_slices_Insert_api_Installed hy4) ⟨look_t (hE _ _ rfl), look_t (hE _ _ rfl), look_t (hE _ _ rfl), trivial⟩ rfl (hL 2 _ rfl rfl) (hL 3 _ rfl rfl) (fun _ => rfl) rfl fun ⟨key2, cap1⟩ => ?_
   refine Sq.nil ?_
   exact To.fin (gm [key2, some cap1]) rfl rfl
  ·intro hd E' L' hE hL hP
   refine Sq.storeH (i := 1) (γ := T_api_Installed) (b' := ({ x0 with f_l := [] } : T_ordered_List)) (os' := [(10, slv (hd 9 0) y4.length ((hd 9 1).getD 0))]) ((Lens.id T_ordered_List).comp le_T_ordered_List_l) ty51 (look_t (hE _ _ rfl)) (look_t (hE _ _ rfl)) slv_one (hL 1 _ rfl rfl) rfl rfl rfl (Sq.nil ?_)
   exact To.fin (gm []) rfl rfl
  refine To.eqL (L2 := [vr p1 x1, ⟨some pp0, .varX ({ x0 with f_l := [] } : T_ordered_List) [(10, slv (hd2 9 0) y4.length ((hd2 9 1).getD 0))]⟩, ⟨(hd2 9 0), .row 42 y4 ((hd2 9 1).getD 0)⟩, ⟨none, .dead⟩]) rfl (Qte ?_)
  refine To.bring 3 rfl ?_
  refine go1 ?_
  refine To.bring 3 rfl (To.bring 3 rfl ?_)
  cases h
  exact Qo1 ((hd2 9 0), ((hd2 9 1).getD 0))
instance k29 : K2 Try.prog 29 _ _ _ L_ref13_Same VP.of VP.of VP.of := .i Try.func29 rfl Try.ntmps29 rfl fun x0 x1 r h W A => by
 unfold L_ref13_Same at h
 exact go
theorem Ch0_1_ordered_List_Lookup {x0 x1 pp0 key00_0 cap00_0 r} (h : Lh0_1_ordered_List_Lookup x0 x1 = some r) : MeetsO Try.prog 6 [VP.pb pp0, VP.of (x1)] [⟨some pp0, .varX ({ x0 with f_l := [] } : T_ordered_List) [(10, slv key00_0 x0.f_l.length cap00_0)]⟩, ⟨key00_0, .row 42 x0.f_l cap00_0⟩] (δ := Unit) (fun d => VP.tup [VP.of (r.1), VP.of (r.2)]) (fun d => [⟨some pp0, .varX ({ x0 with f_l := [] } : T_ordered_List) [(10, slv key00_0 (x0.f_l).length cap00_0)]⟩, ⟨key00_0, .row 42 x0.f_l cap00_0⟩]) := by
 unfold Lh0_1_ordered_List_Lookup at h
 refine MeetsO.ofM Try.func6 rfl Try.ntmps6 rfl fun W A => ?_
 refine go1 fun p1 p2 p3 => ?_
 refine Qv (r_pnil Try.underlying36 (look_t rfl)) (Qnx ?_)
 refine Wp.condF (look_t rfl) rfl ?_
 refine go1 ?_
 refine Qbf h fun y1 hy1 h => Qcl en21 (C_ordered_List_matching hy1) (Qnx (Wp.block ?_))
 refine Wp.bring 4 rfl (Wp.bring 4 rfl (Qbf h fun e1 hl h => ?_))
 refine range_wp (γ := Unit) (g0 := ()) (Lin := [⟨some pp0, .varX ({ x0 with f_l := [] } : T_ordered_List) [(10, slv key00_0 x0.f_l.length cap00_0)]⟩, ⟨key00_0, .row 42 x0.f_l cap00_0⟩]) (Ls := fun s1 g1 => [vr p3 (default : Bool), vr p2 (default : T_api_Installed), vr p1 x1]) (Lx := fun q1 g1 => [vr p3 q1.1, vr p2 q1.2, vr p1 x1]) (fun q1 => .ret) rfl en31 rfl Ch1_1_ordered_List_matching_fn1 hl rfl rfl (fun vx1 s1 r h g1 W0' X' A0' l D rec hrs => ?_) (fun s1 hr g1 D => ?_) (fun q1 hr g1 D => ?_)
 ·clear hl
  refine go1 fun p4 => ?_
  refine To.begin 1 rfl hrs ?_
  refine go1 fun y2 hy2 h => ?_
  cases h
  exact To.rleave () 1 rfl rfl rfl
 ·clear hl; subst hr; simp only [Sum.elim_inl] at h
  refine To.nL ?_
  refine go1 ?_
  refine To.bring 2 rfl (To.bring 2 rfl ?_)
  cases h
  refine To.endD 2 rfl rfl ?_
  exact To.endO2 () (.cons_cons _ (.cons_cons _ (List.nil_sublist _))) rfl rfl (rvo_c (i := 4) ty42 rfl rfl) (rvo_c (i := 3) ty4 rfl rfl)
 ·clear hl; subst hr; simp only [Sum.elim_inr] at h
  refine Wp.ret (To.nL ?_)
  refine To.bret (To.ret (To.bring 2 rfl (To.bring 2 rfl ?_)))
  cases h
  refine To.endD 2 rfl rfl ?_
  exact To.endO2 () (.cons_cons _ (.cons_cons _ (List.nil_sublist _))) rfl rfl (rvo_c (i := 4) ty42 rfl rfl) (rvo_c (i := 3) ty4 rfl rfl)
end Go.Proofs.Ytmlgdkccoomiaaa

namespace Go.Proofs.Ytmlgdkccoomiaaa
open Go Gv
set_option linter.unusedVariables false
set_option linter.unusedSimpArgs false
set_option maxRecDepth 100000
set_option maxHeartbeats 2000000
attribute [local irreducible] Sq Wp To HR Look Stp LQG LQW VP.of VP.ptr VP.eq VP.cond VP.tup
theorem Ch0_1_law13_put {x0 x1 x2 x3 x4 pp0 key00_0 cap00_0 pp1 r} (h : Lh0_1_law13_put x0 x1 x2 x3 x4 = some r) : MeetsO Try.prog 8 [VP.pb pp0, VP.pb pp1, VP.of (x2), VP.of (x3), VP.of (x4)] [⟨some pp0, .varX ({ x0 with f_l := [] } : T_ordered_List) [(10, slv key00_0 x0.f_l.length cap00_0)]⟩, ⟨key00_0, .row 42 x0.f_l cap00_0⟩, vr pp1 x1] (δ := (Option Nat × Nat)) (fun d => VP.tup [VP.of (r.1), VP.of (r.2.1)]) (fun d => [⟨some pp0, .varX ({ r.2.2.1 with f_l := [] } : T_ordered_List) [(10, slv d.1 (r.2.2.1.f_l).length d.2)]⟩, ⟨d.1, .row 42 r.2.2.1.f_l d.2⟩, vr pp1 r.2.2.2]) := by
 unfold Lh0_1_law13_put at h
 refine MeetsO.of Try.func8 rfl Try.ntmps8 rfl fun W A => Qsr (Qbx fun p1 => ?_)
 refine Qv (r_asg (look_nil (α := T_api_Installed))) ?_
 refine Qa (Qnr ?_)
 refine Sq.own (α := T_api_Installed) 42 (Qv (r_asg look_own) ?_)
 refine go1 ?_
 refine Qbf h fun e1 hl h => ?_
 refine Qlp (γ:=(Option Nat × Nat) × (Option Nat × Nat)) (δ:=(Option Nat × Nat) × (Option Nat × Nat)) hl [0, 1, 2, 3, 4, 7, 10, 11] (fun s1 g1 => [(12, VP.eq (slv g1.1.1 s1.2.1.length g1.1.2)), (13, VP.of (s1.1))]) (fun s1 g1 => [(0, ⟨g1.1.1, .row 42 s1.2.1 g1.1.2⟩), (2, ⟨some pp0, .varX s1.2.2.1 [(10, slv g1.2.1 s1.2.2.2.1.length g1.2.2)]⟩), (3, ⟨g1.2.1, .row 42 s1.2.2.2.1 g1.2.2⟩), (4, vr pp1 s1.2.2.2.2)]) (fun q1 => Sum.elim (fun q1 => Exit.exit 0) (fun q1 => Exit.ret) q1) (fun q1 g1 => Sum.elim (fun q1 => [(12, VP.eq (slv g1.1.1 q1.2.2.1.length g1.1.2)), (13, VP.of (q1.1)), (24, VP.of (q1.2.1))]) (fun q1 => [(12, VP.eq (slv g1.1.1 q1.2.2.2.2.2.2.2.1.length g1.1.2)), (13, VP.of (q1.1)), (15, VP.of (q1.2.1)), (24, VP.of (q1.2.2.1)), (36, VP.eq (slv g1.1.1 q1.2.2.2.2.2.2.2.1.length g1.1.2)), (37, VP.of (q1.2.2.2.1)), (38, VP.of (q1.2.2.2.2.1)), (39, VP.of (q1.2.2.2.2.2.1)), (55, VP.of (q1.2.2.2.2.2.2.1))]) q1) (fun q1 g1 => Sum.elim (fun q1 => [(0, ⟨g1.1.1, .row 42 q1.2.2.1 g1.1.2⟩), (2, ⟨some pp0, .varX q1.2.2.2.1 [(10, slv g1.2.1 q1.2.2.2.2.1.length g1.2.2)]⟩), (3, ⟨g1.2.1, .row 42 q1.2.2.2.2.1 g1.2.2⟩), (4, vr pp1 q1.2.2.2.2.2)]) (fun q1 => [(0, ⟨g1.1.1, .row 42 q1.2.2.2.2.2.2.2.1 g1.1.2⟩), (2, ⟨some pp0, .varX q1.2.2.2.2.2.2.2.2.1 [(10, slv g1.2.1 q1.2.2.2.2.2.2.2.2.2.1.length g1.2.2)]⟩), (3, ⟨g1.2.1, .row 42 q1.2.2.2.2.2.2.2.2.2.1 g1.2.2⟩), (4, vr pp1 q1.2.2.2.2.2.2.2.2.2.2)]) q1) ((none, 0), (key00_0, cap00_0)) (fun s1 r h g1 => ?_) fun g1 => ?_
 ·clear hl
  refine go1 ?_
  refine Qbf h fun y1 hy1 h => Qg (fun hb => HR.lendV (z := (s1.2.2.2.2 : T_mcase_Codes)) 4 22 rfl (lvc hb) rfl flat_bool (r_call en23 (Cf0_mcase_Codes_Left (condM_some hy1 hb)) ⟨look_t rfl, trivial⟩)) ?_
  refine go2 (fun h => ?_) (fun h => ?_)
  ·refine Sq.bring 4 rfl (Qbf h fun y2 hy2 h => QcO 1 en24 (C_mcase_Codes_Entry hy2) fun q2 => ?_)
   refine Qm ?_
   refine Sq.bring 0 rfl (Qbf h fun y3 hy3 h => QcO 1 en15 (C_mcase_Codes_Next hy3) fun q3 => ?_)
   refine Qm ?_
   refine Sq.bring 0 rfl (Qbf h fun y4 hy4 h => QcO 1 en15 (C_mcase_Codes_Next hy4) fun q4 => ?_)
   refine go1 fun z1 hz1 p2 h => ?_
   refine Qv (r_lenO (i := 2) Try.underlying51 (look_t rfl) rfl rfl) ?_
   refine Qm (Qnx (Wp.block ?_))
   refine Qbf h fun e2 hl h => ?_
   refine Qlp (γ:=Unit) (δ:=Unit) hl [0, 1, 2, 3, 4, 7, 10, 11, 12, 13, 14, 24, 36, 37] (fun s2 g2 => [(15, VP.of (s2.1)), (38, VP.of (s2.2))]) (fun s2 g2 => []) (fun q5 => Exit.exit 2) (fun q5 g2 => [(15, VP.of (q5.1)), (38, VP.of (q5.2.1)), (39, VP.of (q5.2.2))]) (fun q5 g2 => []) () (fun s2 r h g2 => ?_) fun g2 => ?_
   ·clear hl
    refine go1 (fun h => ?_)
    refine Qbf h fun k1 hk1 h => Qv (r_iaO (i := 2) (k := k1) (xs := (s1.2.1 : List T_api_Installed)) Try.underlying51 ty42 (look_t rfl) (look_t rfl) rfl (idx_some hk1)) ?_
    refine Qv (r_loadR (i := 2) (k := k1) (Lens.id T_api_Installed) (r := (lget s1.2.1 k1)) ty42 (look_t rfl) rfl (idx_some hk1).1 rfl rfl) ?_
    exact go
   ·clear hl
    refine go1 ?_
    refine Sq.clr (γ := T_api_Installed) (b' := ({ s1.2.2.1 with f_l := [] } : T_ordered_List)) ((Lens.id T_ordered_List).comp le_T_ordered_List_l) 4 0 rfl rfl rfl (Sq.bring 5 rfl (Sq.bring 5 rfl (Qbf h fun y5 hy5 h => QcO 2 en25 (Ch0_1_ordered_List_Put hy5) fun q6 => ?_)))
    refine go2 (fun h => ?_) (fun h => ?_)
    ·refine Qv (r_asg (look_nil (α := T_api_Installed))) ?_
     refine go1 ?_
     refine To.bring 5 rfl (To.bring 5 rfl (To.bring 4 rfl ?_))
     cases h
     exact Qlv ((g1.1.1, g1.1.2), (q6.1, q6.2)) 1
    ·refine Qbf h fun m1 hm1 h => ?_
     refine Qcm (γ:=(Option Nat × Nat)) [0, 1, 2, 3, 4, 7, 10, 11, 13, 14, 15, 24, 37, 38, 39, 55, 57] (fun g3 => [(12, VP.eq (slv g3.1 m1.length g3.2))]) (fun g3 => [(4, ⟨g3.1, .row 42 m1 g3.2⟩)]) (fun g3 => ?_) (fun hm hc => ?_) fun hm hc => ?_
     ·clear hm1
      refine go1 ?_
      refine To.bring 5 rfl (To.bring 5 rfl (To.bring 4 rfl ?_))
      cases h
      exact Qrd ((g3.1, g3.2), (q6.1, q6.2)) 1
     ·have h := cond_t hc hm1
      refine go1 ?_
      refine Qbf h fun y6 hy6 h => Qap 4 Try.underlying51 ty42 zr42 hy6 fun key1 cap1 => ?_
      refine Qa (Sq.nil ?_)
      cases h
      exact Qmt 0 (hm (key1, cap1))
     ·have h := cond_f hc hm1
      refine Wp.skip ?_
      cases h
      exact Qmt 0 (hm (g1.1.1, g1.1.2))
  ·cases h
   exact Qlv ((g1.1.1, g1.1.2), (g1.2.1, g1.2.2)) 0
 ·clear hl
  rcases e1 with e1 | e1
  ·simp only [Sum.elim_inl] at h
   refine go1 ?_
   refine To.freezeL (α := T_api_Installed) 0 [10, 12, 62] ⟨rfl, rfl, rfl, trivial⟩ rfl (To.clr (γ := T_api_Installed) (b' := ({ e1.2.2.2.1 with f_l := [] } : T_ordered_List)) ((Lens.id T_ordered_List).comp le_T_ordered_List_l) 2 0 rfl rfl rfl (To.bring 4 rfl (To.bring 4 rfl (To.bring 4 rfl ?_))))
   cases h
   exact Qo2 (g1.2.1, g1.2.2)
  ·simp only [Sum.elim_inr] at h
   refine To.bret (To.ret (To.clr (γ := T_api_Installed) (b' := ({ e1.2.2.2.2.2.2.2.2.1 with f_l := [] } : T_ordered_List)) ((Lens.id T_ordered_List).comp le_T_ordered_List_l) 2 0 rfl rfl rfl (To.bring 4 rfl (To.bring 4 rfl (To.bring 4 rfl ?_)))))
   cases h
   exact Qo2 (g1.2.1, g1.2.2)
instance k12 : K2 Try.prog 12 _ _ _ L_ref13_SameAll VP.of VP.of VP.of := .i Try.func12 rfl Try.ntmps12 rfl fun x0 x1 r h W A => by
 unfold L_ref13_SameAll at h
 refine go1 (fun h => ?_)
 refine Qbf h fun e1 hl h => ?_
 refine Qlp (γ:=Unit) (δ:=Unit) hl [0, 1, 4, 10, 12] (fun s1 g1 => [(13, VP.of (s1))]) (fun s1 g1 => []) (fun q1 => Sum.elim (fun q1 => Exit.exit 0) (fun q1 => Exit.ret) q1) (fun q1 g1 => Sum.elim (fun q1 => [(13, VP.of (q1.1)), (14, VP.of (q1.2))]) (fun q1 => [(5, VP.of (q1.1)), (13, VP.of (q1.2.1)), (14, VP.of (q1.2.2.1)), (25, VP.of (q1.2.2.2))]) q1) (fun q1 g1 => []) () (fun s1 r h g1 => ?_) fun g1 => ?_
 ·clear hl
  refine go1 (fun h => ?_)
  refine Qbf h fun k1 hk1 h => Qbf h fun k2 hk2 h => Qbf h fun y1 hy1 h => Wp.dw 10 ?_
  exact go
 ·clear hl
  rcases e1 with e1 | e1
  ·simp only [Sum.elim_inl] at h
   exact go
  ·simp only [Sum.elim_inr] at h
   exact go
theorem C_law13_begun   {r : Bool} (h : L_law13_begun  = some r) : Meets Try.prog 14 [] (VP.of (r)) := by
 unfold L_law13_begun at h
 refine Meets.of Try.func14 rfl Try.ntmps14 rfl fun W A => ?_
 refine go1 ?_
 refine Qbf h fun y1 hy1 h => QcO 0 en4 (C_mcase_New hy1) fun q1 => ?_
 refine Sq.bring 0 rfl (Qbf h fun y2 hy2 h => QcO 1 en5 (C_mcase_Codes_Schema hy2) fun q2 => ?_)
 refine go1 fun p1 => ?_
 refine Qbf h fun y3 hy3 h => QcO 0 en7 (Cq0_1_ordered_New hy3) fun q3 => ?_
 refine go1 ?_
 refine Qbf h fun y4 hy4 h => ?_
 refine Sq.mks Try.underlying37 ty58 zr58 rfl (by kernel_rfl) (look_int 2) (look_int 2) hy4 rfl fun key1 => ?_
 refine Sq.freeze (α := T_api_Match) 0 11 rfl rfl ?_
 refine go1 fun z1 hz1 p2 p3 z2 hz2 h => ?_
 refine Sq.bring 4 rfl (Sq.bring 4 rfl (Qbf h fun y5 hy5 h => QcO 2 en25 (Ch0_1_ordered_List_Put hy5) fun q4 => ?_))
 refine go1 fun z3 hz3 h => ?_
 refine Sq.bring 1 rfl (Sq.bring 1 rfl (Qbf h fun y6 hy6 h => QcO 2 en25 (Ch0_1_ordered_List_Put hy6) fun q5 => Qnr ?_))
 refine Qm ?_
 refine Qv (r_buildA (b := (default : Vector T_api_Value 4)) (sz := 2) rfl Try.underlying49 (by kernel_rfl) zr49 (.nil)) ?_
 refine Qbf h fun y7 hy7 h => Sq.vS (HS.call [0, 1] en6 (Ch0_1_ordered_List_Lookup hy7) ⟨look_t rfl, look_t rfl, trivial⟩ rfl ⟨rfl, rfl, trivial⟩ rfl) rfl rfl rfl ?_
 refine go1 fun p4 => ?_
 refine Qbf h fun y8 hy8 h => Qg (fun hb => HR.lendT (β := T_ordered_List) (γ := T_api_Installed) (b' := y6.2) ((Lens.id T_ordered_List).comp le_T_ordered_List_l) 1 2 0 rfl rfl rfl rfl rfl rfl flat_int (HR.lend0 1 rfl flat_int (HR.lendV (z := (y6.2 : T_ordered_List)) 1 36 rfl (lvc hb) rfl flat_int (r_call en9 (Cf0_ordered_List_Len (condM_some hy8 hb)) ⟨look_t rfl, trivial⟩)))) ?_
 exact go
end Go.Proofs.Ytmlgdkccoomiaaa

namespace Go.Proofs.Ytmlgdkccoomiaaa
open Go Gv
set_option linter.unusedVariables false
set_option linter.unusedSimpArgs false
set_option maxRecDepth 100000
set_option maxHeartbeats 2000000
attribute [local irreducible] Sq Wp To HR Look Stp LQG LQW VP.of VP.ptr VP.eq VP.cond VP.tup
theorem C_law13_OrderedOwn {x0 x1 x2 r} (h : L_law13_OrderedOwn x0 x1 x2 = some r) : Meets Try.prog 3 [VP.of (x0), VP.of (x1), VP.of (x2)] (VP.of (r)) := by
 unfold L_law13_OrderedOwn at h
 refine Meets.of Try.func3 rfl Try.ntmps3 rfl fun W A => ?_
 refine go1 ?_
 refine Qbf h fun y1 hy1 h => QcO 0 en4 (C_mcase_New hy1) fun q1 => ?_
 refine Sq.bring 0 rfl (Qbf h fun y2 hy2 h => QcO 1 en5 (C_mcase_Codes_Schema hy2) fun q2 => ?_)
 refine Qm ?_
 refine Qbf h fun y3 hy3 h => QcO 0 en4 (C_mcase_New hy3) fun q3 => ?_
 refine go1 fun p1 => ?_
 refine Qv (r_asg (look_e (.pointer none))) (Qnr ?_)
 refine Qm ?_
 refine Qv (r_buildA (b := (default : Vector T_api_Value 4)) (sz := 2) rfl Try.underlying49 (by kernel_rfl) zr49 (.nil)) ?_
 refine Qbf h fun y4 hy4 h => Qcl en6 (Cn0_ordered_List_Lookup hy4) ?_
 refine go1 fun p2 => ?_
 refine Qbf h fun y5 hy5 h => QcO 0 en7 (Cq0_1_ordered_New hy5) fun q4 => ?_
 refine go1 ?_
 refine Sq.bring 4 rfl (Sq.bring 2 rfl (Sq.bring 2 rfl (Qbf h fun y6 hy6 h => QcO 3 en8 (Ch0_1_law13_put hy6) fun q5 => ?_)))
 refine go1 ?_
 refine Qbf h fun y7 hy7 h => Qg (fun hb => r_call en9 (Cn0_ordered_List_Len (condM_some hy7 hb)) ⟨look_tc rfl hb, trivial⟩) ?_
 refine go1 ?_
 refine Qbf h fun y8 hy8 h => Qg (fun hb => r_call en10 (Cn0_ordered_List_Remove (condM_some hy8 hb)) ⟨look_tc rfl hb, look_int 1, trivial⟩) ?_
 refine go1 (fun h => ?_)
 obtain ⟨yA, hyA, _⟩ := Qbs h
 refine QcO 2 en11 (CR_All hyA) fun f => ?_
 refine Q1 (r_len Try.underlying51) ?_
 refine Qm (Qnx (Wp.block ?_))
 refine Wp.lenS 54 rfl fun hlen => Qwl [56, 54, 55, 12, 7, 13] ?_
 refine Wp.count (id := 0) (raws yA f).length (fun i hi => ?_) ?_ ?_
 ·refine Qsr (Q2 r_lss (Qns ?_))
  refine Wp.condT (look_t rfl) (decide_eq_true (by omega)) ?_
  refine Qkn (Wp.seq (Wp.block ?_))
  obtain ⟨b, m, cap, R, hR, hri⟩ := row_of hi (L := ([⟨some q4.1, .varX ({ y6.2.2.1 with f_l := [] } : T_ordered_List) [(10, slv q5.1 y6.2.2.1.f_l.length q5.2)]⟩, ⟨q5.1, .row 42 y6.2.2.1.f_l q5.2⟩] ++ ents yA f) ++ [vr q3 y6.2.2.2, vr p2 y4.1, vr p1 y2.1, vr q1 y2.2]) (fun e he => List.mem_append.2 (.inl (List.mem_append.2 (.inr he))))
  refine Wp.permL hR (Wp.lenE fun hm => Wp.openE fun ms hms => Qsr (Qix (idx_ok hi) Try.underlying51 gy42 ?_))
  refine Q1 (r_loadp gy42) ?_
  refine Qal gr42 fun p => ?_
  refine Qs0 0 gy42 (Qnr ?_)
  refine Q1 (r_fa fd42_0.fd) ?_
  refine Q1 (r_fa fd40_1.fd) ?_
  refine Qld 0 (ri_E.comp re_M) gy37 ?_
  refine Qv (r_lenO (i := 1) Try.underlying37 (look_ex (look_cast hri (look_t rfl))) hms.symm rfl) ?_
  refine Qm (Qnx (Wp.block ?_))
  refine Wp.permL (List.Perm.swap _ _ _) (Wp.closeE hms (Qwl [64, 63, 16, 56, 54, 55, 12, 7, 13] ?_))
  refine Wp.count (id := 2) m (fun k hk => ?_) ?_ ?_
  ·refine Qsr (Q2 r_lss (Qns ?_))
   refine Wp.condT (look_t rfl) (decide_eq_true (by omega)) ?_
   refine Qkn (Wp.seq (Wp.block (Wp.openE fun ns hns => ?_)))
   subst hns
   refine Qsr (Qm ?_)
   refine Qa (Qnx ?_)
   refine Wp.dv mixed 14 (rg 67 14) [[], [0], [1], [], [], [4], [5], [], [6, 7], [8], [9], [10], [2, 3], [12]] [_, _, _, _, _, _, _, _, _, _, _, _, _, _] ⟨H1 (r_fa fd42_0.fd), H1 (r_fa fd40_1.fd), Hld 1 (ri_E.comp re_M) gy37, H1 r_move, H1 (r_fa fd42_0.fd), H1 (r_fa fd40_1.fd), Hld 1 (ri_E.comp re_M) gy37, H1 r_move, (fun L' hL => .v (r_iaO (i := 0) (k := k) (xs := ns) Try.underlying37 ty58 (look_ex (look_cast hri (look_t rfl))) (look_t rfl) (hL 0 _ rfl rfl) ⟨hk, rfl⟩) rfl), H1 (r_fa fd58_0.fd), (fun L' hL => .v (r_loadR (i := 0) (k := k) (xs := ns) le_T_api_Match_Present ty4 (look_t rfl) (hL 0 _ rfl rfl) hk rfl rfl) rfl), H1 r_not, (fun L' hL => .v (r_iaO (i := 0) (k := k) (xs := ns) Try.underlying37 ty58 (look_ex (look_cast hri (look_t rfl))) (look_t rfl) (hL 0 _ rfl rfl) ⟨hk, rfl⟩) rfl), H1 (r_fa fd58_0.fd), trivial⟩ ?_
   refine Sq.storeR (i := 0) (k := k) (xs := ns) le_T_api_Match_Present ty4 (look_t rfl) (look_t rfl) rfl hk rfl rfl (Sq.nil (To.bnorm (To.next (Wp.reg (Q2 r_add ?_)))))
   refine Qm (Sq.nil ?_)
   rw [w64_sc (by omega)]
   refine To.closeE (lset_len rfl).symm (To.cnt 0 (.refl _) rfl (by repeat (first | exact Le.nil | refine Le.same rfl ?_)))
  ·refine Qsr (Q2 r_lss (Qns ?_))
   refine Wp.condF (look_t rfl) (decide_eq_false (by omega)) ?_
   refine Wp.exit (To.exit (To.cex (by repeat (first | exact Le.nil | refine Le.same rfl ?_))))
  ·refine To.bexit (To.bnorm (To.next (Wp.reg (Q2 r_add ?_))))
   refine Qm (Sq.nil ?_)
   rw [w64_sc (by omega)]
   exact To.cnt 1 ((List.Perm.swap _ _ _).trans (hR.symm.cons _)) rfl (by repeat (first | exact Le.nil | refine Le.same rfl ?_))
 ·refine Qsr (Q2 r_lss (Qns ?_))
  refine Wp.condF (look_t rfl) (decide_eq_false (by omega)) ?_
  refine Wp.exit (To.exit (To.cex (by repeat (first | exact Le.nil | refine Le.same rfl ?_))))
 refine To.bexit (To.dropP (X := ents yA f) (L2 := [⟨some q4.1, .varX ({ y6.2.2.1 with f_l := [] } : T_ordered_List) [(10, slv q5.1 y6.2.2.1.f_l.length q5.2)]⟩, ⟨q5.1, .row 42 y6.2.2.1.f_l q5.2⟩, vr q3 y6.2.2.2, vr p2 y4.1, vr p1 y2.1, vr q1 y2.2]) (by simpa using (List.perm_append_comm (l₁ := [⟨some q4.1, .varX ({ y6.2.2.1 with f_l := [] } : T_ordered_List) [(10, slv q5.1 y6.2.2.1.f_l.length q5.2)]⟩, ⟨q5.1, .row 42 y6.2.2.1.f_l q5.2⟩]) (l₂ := ents yA f)).append_right [vr q3 y6.2.2.2, vr p2 y4.1, vr p1 y2.1, vr q1 y2.2]) ?_)
 refine To.next (Wp.seq (Qbf h fun y9 hy9 h => Qbf h fun y10 hy10 h => Qbf h fun y11 hy11 h => Qbf h fun y12 hy12 h => Qwl [7, 12, 13] ?_))
 refine Wp.en 6 (Hp 83 [] [] _ :: Hp 84 [0] [0, 1] (VP.of (y9)) :: Hp 85 [] [4] _ :: Hp 86 [] [] _ :: Hp 87 [2, 3] [] _ :: Hp 88 [1, 4] [] _ :: Hp 89 [5] [] _ :: Hp 90 [6] [] (VP.cond (y11 = true) (VP.of (y12))) :: Hp 91 [6, 7] [] _ :: Hp 6 [8] [] _ :: []) (ki ?_ (ki ?_ kn)) (fun hd1 => ?_)
 ·intro hd E' L' hE hL hP
  refine Sq.vS (HS.call [0, 1] en11 (Ch0_1_ordered_List_All hy9) ⟨look_t (hE _ _ rfl), trivial⟩ rfl ⟨(hL 0 _ rfl rfl), (hL 1 _ rfl rfl), trivial⟩ rfl) rfl rfl rfl (Sq.nil ?_)
  exact To.fin (gm []) rfl rfl
 ·exact HeadD.q (hd_g rfl rfl rfl rfl (fun hd => rfl) fun hd E' L' hE hL hb => r_call en14 (C_law13_begun (condM_some hy12 hb)) trivial)
 refine To.eqL (L2 := [⟨some q4.1, .varX ({ y6.2.2.1 with f_l := [] } : T_ordered_List) [(10, slv q5.1 y6.2.2.1.f_l.length q5.2)]⟩, ⟨q5.1, .row 42 y6.2.2.1.f_l q5.2⟩, vr q3 y6.2.2.2, vr p2 y4.1, vr p1 y2.1, vr q1 y2.2]) rfl (Qte ?_)
 exact go
instance k3 : K3 Try.prog 3 _ _ _ _ L_law13_OrderedOwn VP.of VP.of VP.of VP.of :=
  ⟨⟨_, Try.func3, rfl, by kernel_rfl⟩, fun _ _ _ _ h => C_law13_OrderedOwn h⟩
end Go.Proofs.Ytmlgdkccoomiaaa

