/- Walks.
   No condition: these are laws of the clean machine and of this program. -/
import Derived.Test.YtndhbaidibioeaaGreatJb
namespace Go.Proofs.YtndhbaidibioeaaGreat.V
open Go
set_option linter.unusedVariables false
set_option linter.unusedSimpArgs false
set_option maxRecDepth 100000
set_option maxHeartbeats 4000000
theorem s_ref19_Rises (n : Nat) {h : Heap} (hw : Wf h) (p0 : (List TEvent)) {a0_0 : Option Addr} {c0_0 : Nat} (f0_0 : RL R_TEvent h a0_0 c0_0 p0) {r : Bool} (hF : F_ref19_Rises n p0 = some r) :
 Ev EE 37 [.slice a0_0 p0.length c0_0] h (fun v _ => v = .bool r) := by
 unfold F_ref19_Rises at hF
 refine ev_of hw rfl at_37 rfl rfl (go_seg0 ?_)
 refine go_seq (go_region (gAc rfl rfl (go_nil (go_seq (go_seq (go_region (gAc rfl rfl (go_nil ?_))))))))
 obtain ⟨s2, hF, hK2⟩ := obind hF
 refine go_joinc (β := (Unit)) (fun s h' => s2 = .go s) (fun s => [(2, true, .bool false)]) (fun s => (List.flatten [] : List Blk)) ?_ (fun J2 => ?_)
 ·
  rintro _ h2 e2 w2 hs2
  subst hs2
  replace hF := lpgo hK2
  refine go_seq (go_region (gAc rfl rfl (go_nil ?_)))
  obtain rfl := someI hF
  exact g_ret (rst rfl rs0) (fun h1 hf hs => ⟨(e2.trans hs.hext), rfl⟩)
 ·
  refine go_block ?_
  refine go_loop (α := (List TEvent) × Nat × Heap) (fun a => a.1 = List.drop a.2.1 p0 ∧ HExt h a.2.2 ∧ Wf a.2.2 ∧ F_ref19_Rises_L1 n p0 a.1 a.2.1 = some s2) (fun a => a.1.length) (fun a => [(0, true, .slice a0_0 p0.length c0_0), (2, true, .bool false), (3, true, .int .i64 (a.2.1 : Int))]) (fun a => (List.flatten [] : List Blk)) (fun a => a.2.2) ?_ (p0, 0, h) ⟨rfl, HExt.refl _, hw, hF⟩ (Sub.cons (Sub.cons (Sub.cons (Sub.nil _) rfl) rfl) rfl) rfl rfl
  rintro ⟨r3, i3, h3⟩ ⟨hr3, e3, w3, hF⟩ ih3
  rcases r3 with _ | ⟨z3, r3⟩
  ·
   have hi3 := drop_nil hr3
   rw [F_ref19_Rises_L1.eq_1] at hF
   refine go_seq (go_seq (go_region (gM rfl rfl (gM rfl rfl (gr rfl (r_len rfl (os1 (ot rfl) os0) (fun _ _ => ln_22)) (gr rfl (r_bin (ot rfl) (ot rfl) rfl) (go_cast (.bool false) (congrArg Value.bool (decide_eq_false hi3)) (go_nil ?_))))))))
   refine g_cond (b := false) (ot rfl) (fun hc4 => ?_) (fun hc4 => ?_)
   ·
    cases hc4
   refine go_exit rfl ?_
   obtain rfl := someI hF
   exact Goes.weak (J2 () _ e3 w3 rfl) (Sub.cons (Sub.nil _) rfl)
  ·
   obtain ⟨hi3, hx3, hr3⟩ := drop_cons hr3
   have hb3 := (f0_0.ext e3.kn).1
   rw [F_ref19_Rises_L1.eq_2] at hF
   refine go_seq (go_seq (go_region (gM rfl rfl (gM rfl rfl (gr rfl (r_len rfl (os1 (ot rfl) os0) (fun _ _ => ln_22)) (gr rfl (r_bin (ot rfl) (ot rfl) rfl) (go_cast (.bool true) (congrArg Value.bool (decide_eq_true (Int.ofNat_lt.mpr hi3))) (go_nil ?_))))))))
   refine g_cond (b := true) (ot rfl) (fun hc5 => ?_) (fun hc5 => ?_)
   rotate_left
   ·
    cases hc5
   refine go_skip (go_seq (go_block (go_seq (go_seq (go_regionq (by kernel_rfl) (gM rfl rfl (gM rfl rfl ?_)))))))
   obtain ⟨q6, row6, i6, cl6, rc6, sp6⟩ := ix (ik := .i64) (cap := c0_0) (E := EE) (f0_0.ext e3.kn) ((getI_nat _ _).trans hx3) ut_22 sz_36 rfl
   obtain rfl := rc6
   refine gr rfl (r_ia (ot rfl) (ot rfl) i6) (gF (fs_36_0 sp6) rfl rfl (gr rfl (r_load (ot rfl) (v := .int .i64 z3.Rev) (lo_e (fun hf kn => ld_field (r := [.int .i64 z3.Rev, .string z3.Key, .string z3.Val, .bool z3.Del]) ag_3 (kn.cellsAt cl6) rfl))) (gr rfl (r_bin (ot rfl) (oc rfl) rfl) (gM rfl rfl ?_))))
   obtain ⟨s8, hF, hK8⟩ := obind hF
   refine go_joinr 17 (β := Unit) (fun s h' => True) (fun s => [(0, true, .slice a0_0 p0.length c0_0), (2, true, .bool false), (3, true, .int .i64 (i3 : Int)), (5, true, .int .i64 (i3 : Int)), (6, true, .slice a0_0 p0.length c0_0), (7, true, .int .i64 (p0.length : Int)), (8, true, .bool true), (11, true, .slice a0_0 p0.length c0_0), (12, true, .int .i64 (i3 : Int)), (13, true, .pointer (some q6)), (14, true, .pointer (some ⟨q6.block, q6.off + 0, q6.spot⟩)), (15, true, .int .i64 z3.Rev), (16, true, .bool (decide (z3.Rev < 1))), (17, true, .bool s8.1), (34, true, .bool s8.2)]) (fun s => (List.flatten [] : List Blk)) ?_ (fun J8 => ?_)
   ·
    rintro _ h8 e8 w8 _
    replace hF := hK8
    refine gM rfl rfl ?_
    obtain ⟨s10, hF, hK10⟩ := obind hF
    refine go_joinr 14 (β := Unit) (fun s h' => True) (fun s => [(0, true, .slice a0_0 p0.length c0_0), (2, true, .bool false), (3, true, .int .i64 (i3 : Int)), (5, true, .int .i64 (i3 : Int)), (6, true, .slice a0_0 p0.length c0_0), (7, true, .int .i64 (p0.length : Int)), (8, true, .bool true), (11, true, .slice a0_0 p0.length c0_0), (12, true, .int .i64 (i3 : Int)), (13, true, .pointer (some q6)), (14, true, .pointer (some ⟨q6.block, q6.off + 0, q6.spot⟩)), (15, true, .int .i64 z3.Rev), (16, true, .bool (decide (z3.Rev < 1))), (17, true, .bool s8.1), (34, true, .bool s8.2), (35, true, .bool s10.1), (49, true, .bool s10.2)]) (fun s => (List.flatten [] : List Blk)) ?_ (fun J10 => ?_)
    ·
     rintro _ h10 e10 w10 _
     replace hF := hK10
     refine go_nil ?_
     refine g_cond (b := s10.2) (ot rfl) (fun hc11 => ?_) (fun hc11 => ?_)
     ·
      replace hF := ifT hc11 hF
      refine go_seq (go_region (gAc rfl rfl (go_nil ?_)))
      obtain rfl := someI hF
      obtain rfl := someI hK2
      exact g_ret (rst rfl rs0) (fun h1 hf hs => ⟨(e3.trans (e8.trans (e10.trans hs.hext))), rfl⟩)
     ·
      replace hF := ifF hc11 hF
      refine go_skip (go_seq (go_region (gAc rfl rfl (go_nil ?_))))
      obtain ⟨s12, hF, hK12⟩ := obind hF
      refine go_joinc (β := (Int × Int × Bool)) (fun s h' => s12 = .go s) (fun s => [(0, true, .slice a0_0 p0.length c0_0), (2, true, .bool false), (3, true, .int .i64 (i3 : Int)), (4, true, .int .i64 s.1), (5, true, .int .i64 (i3 : Int)), (6, true, .slice a0_0 p0.length c0_0), (7, true, .int .i64 (p0.length : Int)), (8, true, .bool true), (11, true, .slice a0_0 p0.length c0_0), (12, true, .int .i64 (i3 : Int)), (13, true, .pointer (some q6)), (14, true, .pointer (some ⟨q6.block, q6.off + 0, q6.spot⟩)), (15, true, .int .i64 z3.Rev), (16, true, .bool (decide (z3.Rev < 1))), (17, true, .bool s8.1), (34, true, .bool s8.2), (35, true, .bool s10.1), (49, true, .bool s10.2), (50, true, .int .i64 s.2.1), (51, true, .int .i64 (i3 : Int)), (52, true, .bool s.2.2)]) (fun s => (List.flatten [] : List Blk)) ?_ (fun J12 => ?_)
      ·
       rintro ⟨x12_0, x12_1, x12_2⟩ h12 e12 w12 hs12
       subst hs12
       replace hF := lpgo2 hK12
       refine go_endb (go_region (gM rfl rfl (gr rfl (r_bin (ot rfl) (oc rfl) rfl) (gA rfl rfl (go_nil (go_re 3 (v2 := .int .i64 ((i3 + 1 : Nat) : Int)) rfl (wrap_succ hi3 hb3) ?_))))))
       exact Goes.weak (ih3 (r3, i3 + 1, h12) ⟨hr3, (e3.trans (e8.trans (e10.trans e12))), w12, hF⟩ (Nat.lt_succ_self _)) (Sub.cons (Sub.cons (Sub.cons (Sub.nil _) rfl) rfl) rfl)
      ·
       refine go_block ?_
       refine go_loop (α := Nat × Int × Heap) (fun a => HExt h10 a.2.2 ∧ Wf a.2.2 ∧ F_ref19_Rises_L2 p0 i3 z3 a.1 a.2.1 = some s12) (fun a => a.1) (fun a => [(0, true, .slice a0_0 p0.length c0_0), (2, true, .bool false), (3, true, .int .i64 (i3 : Int)), (4, true, .int .i64 a.2.1), (5, true, .int .i64 (i3 : Int)), (6, true, .slice a0_0 p0.length c0_0), (7, true, .int .i64 (p0.length : Int)), (8, true, .bool true), (11, true, .slice a0_0 p0.length c0_0), (12, true, .int .i64 (i3 : Int)), (13, true, .pointer (some q6)), (14, true, .pointer (some ⟨q6.block, q6.off + 0, q6.spot⟩)), (15, true, .int .i64 z3.Rev), (16, true, .bool (decide (z3.Rev < 1))), (17, true, .bool s8.1), (34, true, .bool s8.2), (35, true, .bool s10.1), (49, true, .bool s10.2)]) (fun a => (List.flatten [] : List Blk)) (fun a => a.2.2) ?_ (n, 0, h10) ⟨HExt.refl _, w10, hF⟩ (Sub.cons (Sub.cons (Sub.cons (Sub.cons (Sub.cons (Sub.cons (Sub.cons (Sub.cons (Sub.cons (Sub.cons (Sub.cons (Sub.cons (Sub.cons (Sub.cons (Sub.cons (Sub.cons (Sub.cons (Sub.cons (Sub.nil _) rfl) rfl) rfl) rfl) rfl) rfl) rfl) rfl) rfl) rfl) rfl) rfl) rfl) rfl) rfl) rfl) rfl) rfl) rfl rfl
       rintro ⟨m13, y13_0, h13⟩ ⟨e13, w13, hF⟩ ih13
       rcases m13 with _ | m13
       ·
        rw [F_ref19_Rises_L2.eq_1] at hF; cases hF
       ·
        rw [F_ref19_Rises_L2.eq_2] at hF
        refine go_seq (go_seq (go_region (gM rfl rfl (gM rfl rfl (gr rfl (r_bin (ot rfl) (ot rfl) rfl) (go_nil ?_))))))
        refine g_cond (b := (decide (y13_0 < (i3 : Int)))) (ot rfl) (fun hc14 => ?_) (fun hc14 => ?_)
        ·
         replace hF := ifT hc14 hF
         refine go_skip (go_seq (go_block (go_seq (go_regionq (by kernel_rfl) (gM rfl rfl (gM rfl rfl ?_))))))
         obtain ⟨x15, hx15, hF⟩ := obind hF
         obtain ⟨q15, row15, i15, cl15, rc15, sp15⟩ := ix (ik := .i64) (cap := c0_0) (E := EE) ((((f0_0.ext e3.kn).ext e8.kn).ext e10.kn).ext e13.kn) hx15 ut_22 sz_36 rfl
         obtain rfl := rc15
         refine gr rfl (r_ia (ot rfl) (ot rfl) i15) (gF (fs_36_0 sp15) rfl rfl (gr rfl (r_load (ot rfl) (v := .int .i64 x15.Rev) (lo_e (fun hf kn => ld_field (r := [.int .i64 x15.Rev, .string x15.Key, .string x15.Val, .bool x15.Del]) ag_3 (kn.cellsAt cl15) rfl))) (gM rfl rfl (gM rfl rfl ?_))))
         obtain ⟨q16, row16, i16, cl16, rc16, sp16⟩ := ix (ik := .i64) (cap := c0_0) (E := EE) ((((f0_0.ext e3.kn).ext e8.kn).ext e10.kn).ext e13.kn) ((getI_nat _ _).trans hx3) ut_22 sz_36 rfl
         obtain rfl := rc16
         refine gr rfl (r_ia (ot rfl) (ot rfl) i16) (gF (fs_36_0 sp16) rfl rfl (gr rfl (r_load (ot rfl) (v := .int .i64 z3.Rev) (lo_e (fun hf kn => ld_field (r := [.int .i64 z3.Rev, .string z3.Key, .string z3.Val, .bool z3.Del]) ag_3 (kn.cellsAt cl16) rfl))) (gr rfl (r_bin (ot rfl) (ot rfl) rfl) (gM rfl rfl ?_))))
         obtain ⟨s18, hF, hK18⟩ := obind hF
         refine go_joinr 12 (β := Unit) (fun s h' => True) (fun s => [(0, true, .slice a0_0 p0.length c0_0), (2, true, .bool false), (3, true, .int .i64 (i3 : Int)), (4, true, .int .i64 y13_0), (5, true, .int .i64 (i3 : Int)), (6, true, .slice a0_0 p0.length c0_0), (7, true, .int .i64 (p0.length : Int)), (8, true, .bool true), (11, true, .slice a0_0 p0.length c0_0), (12, true, .int .i64 (i3 : Int)), (13, true, .pointer (some q6)), (14, true, .pointer (some ⟨q6.block, q6.off + 0, q6.spot⟩)), (15, true, .int .i64 z3.Rev), (16, true, .bool (decide (z3.Rev < 1))), (17, true, .bool s8.1), (34, true, .bool s8.2), (35, true, .bool s10.1), (49, true, .bool s10.2), (50, true, .int .i64 y13_0), (51, true, .int .i64 (i3 : Int)), (52, true, .bool (decide (y13_0 < (i3 : Int)))), (55, true, .slice a0_0 p0.length c0_0), (56, true, .int .i64 y13_0), (57, true, .pointer (some q15)), (58, true, .pointer (some ⟨q15.block, q15.off + 0, q15.spot⟩)), (59, true, .int .i64 x15.Rev), (60, true, .slice a0_0 p0.length c0_0), (61, true, .int .i64 (i3 : Int)), (62, true, .pointer (some q16)), (63, true, .pointer (some ⟨q16.block, q16.off + 0, q16.spot⟩)), (64, true, .int .i64 z3.Rev), (65, true, .bool (x15.Rev == z3.Rev)), (66, true, .bool s18.1), (78, true, .bool s18.2)]) (fun s => (List.flatten [] : List Blk)) ?_ (fun J18 => ?_)
         ·
          rintro _ h18 e18 w18 _
          replace hF := hK18
          refine go_nil ?_
          refine g_cond (b := s18.2) (ot rfl) (fun hc19 => ?_) (fun hc19 => ?_)
          ·
           replace hF := ifT hc19 hF
           refine go_seq (go_region (gAc rfl rfl (go_nil ?_)))
           obtain rfl := someI hF
           obtain rfl := someI hK12
           obtain rfl := someI hK2
           exact g_ret (rst rfl rs0) (fun h1 hf hs => ⟨(e3.trans (e8.trans (e10.trans (e13.trans (e18.trans hs.hext))))), rfl⟩)
          ·
           replace hF := ifF hc19 hF
           refine go_skip (go_endb (go_region (gM rfl rfl (gr rfl (r_bin (ot rfl) (oc rfl) rfl) (gA rfl rfl (go_nil ?_))))))
           exact Goes.weak (ih13 (m13, (IntKind.i64.wrap (y13_0 + 1)), h18) ⟨(e13.trans e18), w18, hF⟩ (Nat.lt_succ_self _)) (Sub.cons (Sub.cons (Sub.cons (Sub.cons (Sub.cons (Sub.cons (Sub.cons (Sub.cons (Sub.cons (Sub.cons (Sub.cons (Sub.cons (Sub.cons (Sub.cons (Sub.cons (Sub.cons (Sub.cons (Sub.cons (Sub.nil _) rfl) rfl) rfl) rfl) rfl) rfl) rfl) rfl) rfl) rfl) rfl) rfl) rfl) rfl) rfl) rfl) rfl) rfl)
         ·
          rcases Bool.eq_false_or_eq_true (x15.Rev == z3.Rev) with hb17 | hb17
          ·
           replace hF := ifT hb17 hF
           refine go_re 66 (v2 := .bool true) rfl (congrArg Value.bool hb17) (g_do rfl rfl rfl (gM rfl rfl (g_do rfl rfl rfl (gM rfl rfl (g_do rfl rfl rfl ?_)))))
           obtain ⟨x20, hx20, hF⟩ := obind hF
           obtain ⟨q20, row20, i20, cl20, rc20, sp20⟩ := ix (ik := .i64) (cap := c0_0) (E := EE) ((((f0_0.ext e3.kn).ext e8.kn).ext e10.kn).ext e13.kn) hx20 ut_22 sz_36 rfl
           obtain rfl := rc20
           refine gr rfl (r_ia (ot rfl) (ot rfl) i20) (g_do rfl rfl rfl (gF (fs_36_1 sp20) rfl rfl (g_do rfl rfl rfl (gr rfl (r_load (ot rfl) (v := .string x20.Key) (lo_e (fun hf kn => ld_field (r := [.int .i64 x20.Rev, .string x20.Key, .string x20.Val, .bool x20.Del]) ag_9 (kn.cellsAt cl20) rfl))) (g_do rfl rfl rfl (gM rfl rfl (g_do rfl rfl rfl (gM rfl rfl (g_do rfl rfl rfl ?_)))))))))
           obtain ⟨q21, row21, i21, cl21, rc21, sp21⟩ := ix (ik := .i64) (cap := c0_0) (E := EE) ((((f0_0.ext e3.kn).ext e8.kn).ext e10.kn).ext e13.kn) ((getI_nat _ _).trans hx3) ut_22 sz_36 rfl
           obtain rfl := rc21
           refine gr rfl (r_ia (ot rfl) (ot rfl) i21) (g_do rfl rfl rfl (gF (fs_36_1 sp21) rfl rfl (g_do rfl rfl rfl (gr rfl (r_load (ot rfl) (v := .string z3.Key) (lo_e (fun hf kn => ld_field (r := [.int .i64 z3.Rev, .string z3.Key, .string z3.Val, .bool z3.Del]) ag_9 (kn.cellsAt cl21) rfl))) (g_do rfl rfl rfl (gr rfl (r_bin (ot rfl) (ot rfl) rfl) (gr rfl (r_pkT (ot rfl) (ot rfl)) ?_)))))))
           obtain rfl := someI hF
           exact Goes.weak (J18 () _ (HExt.refl _) w13 trivial) (Sub.cons (Sub.cons (Sub.cons (Sub.cons (Sub.cons (Sub.cons (Sub.cons (Sub.cons (Sub.cons (Sub.cons (Sub.cons (Sub.cons (Sub.cons (Sub.cons (Sub.cons (Sub.cons (Sub.cons (Sub.cons (Sub.cons (Sub.cons (Sub.cons (Sub.cons (Sub.cons (Sub.cons (Sub.cons (Sub.cons (Sub.cons (Sub.cons (Sub.cons (Sub.cons (Sub.cons (Sub.cons (Sub.cons (Sub.cons (Sub.nil _) rfl) rfl) rfl) rfl) rfl) rfl) rfl) rfl) rfl) rfl) rfl) rfl) rfl) rfl) rfl) rfl) rfl) rfl) rfl) rfl) rfl) rfl) rfl) rfl) rfl) rfl) rfl) rfl) rfl) rfl) rfl) rfl) rfl) rfl)
          ·
           replace hF := ifF hb17 hF
           refine go_re 66 (v2 := .bool false) rfl (congrArg Value.bool hb17) (g_no rfl rfl rfl rfl rfl (g_no rfl rfl rfl rfl rfl (g_no rfl rfl rfl rfl rfl (g_no rfl rfl rfl rfl rfl (g_no rfl rfl rfl rfl rfl (g_no rfl rfl rfl rfl rfl (g_no rfl rfl rfl rfl rfl (g_no rfl rfl rfl rfl rfl (g_no rfl rfl rfl rfl rfl (g_no rfl rfl rfl rfl rfl (g_no rfl rfl rfl rfl rfl (gr rfl (r_pkF (ot rfl) (oc rfl)) ?_))))))))))))
           obtain rfl := someI hF
           exact Goes.weak (J18 () _ (HExt.refl _) w13 trivial) (Sub.cons (Sub.cons (Sub.cons (Sub.cons (Sub.cons (Sub.cons (Sub.cons (Sub.cons (Sub.cons (Sub.cons (Sub.cons (Sub.cons (Sub.cons (Sub.cons (Sub.cons (Sub.cons (Sub.cons (Sub.cons (Sub.cons (Sub.cons (Sub.cons (Sub.cons (Sub.cons (Sub.cons (Sub.cons (Sub.cons (Sub.cons (Sub.cons (Sub.cons (Sub.cons (Sub.cons (Sub.cons (Sub.cons (Sub.cons (Sub.nil _) rfl) rfl) rfl) rfl) rfl) rfl) rfl) rfl) rfl) rfl) rfl) rfl) rfl) rfl) rfl) rfl) rfl) rfl) rfl) rfl) rfl) rfl) rfl) rfl) rfl) rfl) rfl) rfl) rfl) rfl) rfl) rfl) rfl) rfl)
        ·
         replace hF := ifF hc14 hF
         refine go_exit rfl ?_
         obtain rfl := someI hF
         exact Goes.weak (J12 (y13_0, y13_0, (decide (y13_0 < (i3 : Int)))) _ e13 w13 rfl) (Sub.cons (Sub.cons (Sub.cons (Sub.cons (Sub.cons (Sub.cons (Sub.cons (Sub.cons (Sub.cons (Sub.cons (Sub.cons (Sub.cons (Sub.cons (Sub.cons (Sub.cons (Sub.cons (Sub.cons (Sub.cons (Sub.cons (Sub.cons (Sub.cons (Sub.nil _) rfl) rfl) rfl) rfl) rfl) rfl) rfl) rfl) rfl) rfl) rfl) rfl) rfl) rfl) rfl) rfl) rfl) rfl) rfl) rfl) rfl)
    ·
     rcases Bool.eq_false_or_eq_true s8.2 with hb9 | hb9
     ·
      replace hF := ifT hb9 hF
      refine go_re 35 (v2 := .bool true) rfl (congrArg Value.bool hb9) (g_no rfl rfl rfl rfl rfl (g_no rfl rfl rfl rfl rfl (g_no rfl rfl rfl rfl rfl (g_no rfl rfl rfl rfl rfl (g_no rfl rfl rfl rfl rfl (g_no rfl rfl rfl rfl rfl (g_nu rfl rfl rfl rfl (g_nu rfl rfl rfl rfl (g_nu rfl rfl rfl rfl (g_nu rfl rfl rfl rfl (g_nu rfl rfl rfl rfl (g_nu rfl rfl rfl rfl (g_no rfl rfl rfl rfl rfl (gr rfl (r_pkT (ot rfl) (oc rfl)) ?_))))))))))))))
      obtain rfl := someI hF
      exact Goes.weak (J10 () _ (HExt.refl _) w8 trivial) (Sub.cons (Sub.cons (Sub.cons (Sub.cons (Sub.cons (Sub.cons (Sub.cons (Sub.cons (Sub.cons (Sub.cons (Sub.cons (Sub.cons (Sub.cons (Sub.cons (Sub.cons (Sub.cons (Sub.cons (Sub.nil _) rfl) rfl) rfl) rfl) rfl) rfl) rfl) rfl) rfl) rfl) rfl) rfl) rfl) rfl) rfl) rfl) rfl)
     ·
      replace hF := ifF hb9 hF
      refine go_re 35 (v2 := .bool false) rfl (congrArg Value.bool hb9) (g_do rfl rfl rfl (gM rfl rfl (g_do rfl rfl rfl (gM rfl rfl (g_do rfl rfl rfl ?_)))))
      obtain ⟨q22, row22, i22, cl22, rc22, sp22⟩ := ix (ik := .i64) (cap := c0_0) (E := EE) ((f0_0.ext e3.kn).ext e8.kn) ((getI_nat _ _).trans hx3) ut_22 sz_36 rfl
      obtain rfl := rc22
      refine gr rfl (r_ia (ot rfl) (ot rfl) i22) (g_do rfl rfl rfl (gF (fs_36_3 sp22) rfl rfl (g_do rfl rfl rfl (gr rfl (r_load (ot rfl) (v := .bool z3.Del) (lo_e (fun hf kn => ld_field (r := [.int .i64 z3.Rev, .string z3.Key, .string z3.Val, .bool z3.Del]) ag_4 (kn.cellsAt cl22) rfl))) (g_do rfl rfl rfl (gM rfl rfl ?_))))))
      obtain ⟨s24, hF, hK24⟩ := obind hF
      refine go_joinr 7 (β := Unit) (fun s h' => True) (fun s => [(0, true, .slice a0_0 p0.length c0_0), (2, true, .bool false), (3, true, .int .i64 (i3 : Int)), (5, true, .int .i64 (i3 : Int)), (6, true, .slice a0_0 p0.length c0_0), (7, true, .int .i64 (p0.length : Int)), (8, true, .bool true), (11, true, .slice a0_0 p0.length c0_0), (12, true, .int .i64 (i3 : Int)), (13, true, .pointer (some q6)), (14, true, .pointer (some ⟨q6.block, q6.off + 0, q6.spot⟩)), (15, true, .int .i64 z3.Rev), (16, true, .bool (decide (z3.Rev < 1))), (17, true, .bool s8.1), (34, true, .bool s8.2), (35, true, .bool false), (36, true, .slice a0_0 p0.length c0_0), (37, true, .int .i64 (i3 : Int)), (38, true, .pointer (some q22)), (39, true, .pointer (some ⟨q22.block, q22.off + 3, q22.spot⟩)), (40, true, .bool z3.Del), (41, true, .bool s24.1), (48, true, .bool s24.2)]) (fun s => (List.flatten [] : List Blk)) ?_ (fun J24 => ?_)
      ·
       rintro _ h24 e24 w24 _
       replace hF := hK24
       refine gr rfl (r_pkF (ot rfl) (ot rfl)) ?_
       obtain rfl := someI hF
       exact Goes.weak (J10 () _ e24 w24 trivial) (Sub.cons (Sub.cons (Sub.cons (Sub.cons (Sub.cons (Sub.cons (Sub.cons (Sub.cons (Sub.cons (Sub.cons (Sub.cons (Sub.cons (Sub.cons (Sub.cons (Sub.cons (Sub.cons (Sub.cons (Sub.nil _) rfl) rfl) rfl) rfl) rfl) rfl) rfl) rfl) rfl) rfl) rfl) rfl) rfl) rfl) rfl) rfl) rfl)
      ·
       rcases Bool.eq_false_or_eq_true z3.Del with hb23 | hb23
       ·
        replace hF := ifT hb23 hF
        refine go_re 41 (v2 := .bool true) rfl (congrArg Value.bool hb23) (g_do rfl rfl rfl (gM rfl rfl (g_do rfl rfl rfl (gM rfl rfl (g_do rfl rfl rfl ?_)))))
        obtain ⟨q25, row25, i25, cl25, rc25, sp25⟩ := ix (ik := .i64) (cap := c0_0) (E := EE) ((f0_0.ext e3.kn).ext e8.kn) ((getI_nat _ _).trans hx3) ut_22 sz_36 rfl
        obtain rfl := rc25
        refine gr rfl (r_ia (ot rfl) (ot rfl) i25) (g_do rfl rfl rfl (gF (fs_36_2 sp25) rfl rfl (g_do rfl rfl rfl (gr rfl (r_load (ot rfl) (v := .string z3.Val) (lo_e (fun hf kn => ld_field (r := [.int .i64 z3.Rev, .string z3.Key, .string z3.Val, .bool z3.Del]) ag_9 (kn.cellsAt cl25) rfl))) (g_do rfl rfl rfl (gr rfl (r_bin (ot rfl) (oc rfl) rfl) (g_do rfl rfl rfl (gr rfl (r_pkT (ot rfl) (ot rfl)) ?_))))))))
        obtain rfl := someI hF
        exact Goes.weak (J24 () _ (HExt.refl _) w8 trivial) (Sub.cons (Sub.cons (Sub.cons (Sub.cons (Sub.cons (Sub.cons (Sub.cons (Sub.cons (Sub.cons (Sub.cons (Sub.cons (Sub.cons (Sub.cons (Sub.cons (Sub.cons (Sub.cons (Sub.cons (Sub.cons (Sub.cons (Sub.cons (Sub.cons (Sub.cons (Sub.cons (Sub.nil _) rfl) rfl) rfl) rfl) rfl) rfl) rfl) rfl) rfl) rfl) rfl) rfl) rfl) rfl) rfl) rfl) rfl) rfl) rfl) rfl) rfl) rfl) rfl)
       ·
        replace hF := ifF hb23 hF
        refine go_re 41 (v2 := .bool false) rfl (congrArg Value.bool hb23) (g_no rfl rfl rfl rfl rfl (g_no rfl rfl rfl rfl rfl (g_no rfl rfl rfl rfl rfl (g_no rfl rfl rfl rfl rfl (g_no rfl rfl rfl rfl rfl (g_no rfl rfl rfl rfl rfl (g_do rfl rfl rfl (gr rfl (r_pkF (ot rfl) (oc rfl)) ?_))))))))
        obtain rfl := someI hF
        exact Goes.weak (J24 () _ (HExt.refl _) w8 trivial) (Sub.cons (Sub.cons (Sub.cons (Sub.cons (Sub.cons (Sub.cons (Sub.cons (Sub.cons (Sub.cons (Sub.cons (Sub.cons (Sub.cons (Sub.cons (Sub.cons (Sub.cons (Sub.cons (Sub.cons (Sub.cons (Sub.cons (Sub.cons (Sub.cons (Sub.cons (Sub.cons (Sub.nil _) rfl) rfl) rfl) rfl) rfl) rfl) rfl) rfl) rfl) rfl) rfl) rfl) rfl) rfl) rfl) rfl) rfl) rfl) rfl) rfl) rfl) rfl) rfl)
   ·
    rcases Bool.eq_false_or_eq_true (decide (z3.Rev < 1)) with hb7 | hb7
    ·
     replace hF := ifT hb7 hF
     refine go_re 17 (v2 := .bool true) rfl (congrArg Value.bool hb7) (g_no rfl rfl rfl rfl rfl (g_no rfl rfl rfl rfl rfl (g_no rfl rfl rfl rfl rfl (g_nu rfl rfl rfl rfl (g_nu rfl rfl rfl rfl (g_nu rfl rfl rfl rfl (g_nu rfl rfl rfl rfl (g_nu rfl rfl rfl rfl (g_nu rfl rfl rfl rfl (g_nu rfl rfl rfl rfl (g_nu rfl rfl rfl rfl (g_nu rfl rfl rfl rfl (g_nu rfl rfl rfl rfl (g_nu rfl rfl rfl rfl (g_nu rfl rfl rfl rfl (g_no rfl rfl rfl rfl rfl (gr rfl (r_pkT (ot rfl) (oc rfl)) ?_)))))))))))))))))
     obtain rfl := someI hF
     exact Goes.weak (J8 () _ (HExt.refl _) w3 trivial) (Sub.cons (Sub.cons (Sub.cons (Sub.cons (Sub.cons (Sub.cons (Sub.cons (Sub.cons (Sub.cons (Sub.cons (Sub.cons (Sub.cons (Sub.cons (Sub.cons (Sub.cons (Sub.nil _) rfl) rfl) rfl) rfl) rfl) rfl) rfl) rfl) rfl) rfl) rfl) rfl) rfl) rfl) rfl)
    ·
     replace hF := ifF hb7 hF
     refine go_re 17 (v2 := .bool false) rfl (congrArg Value.bool hb7) (g_do rfl rfl rfl (gM rfl rfl (g_do rfl rfl rfl (gr rfl (r_bin (ot rfl) (oc rfl) rfl) (g_do rfl rfl rfl (gM rfl rfl ?_))))))
     obtain ⟨s27, hF, hK27⟩ := obind hF
     refine go_joinr 13 (β := Unit) (fun s h' => True) (fun s => [(0, true, .slice a0_0 p0.length c0_0), (2, true, .bool false), (3, true, .int .i64 (i3 : Int)), (5, true, .int .i64 (i3 : Int)), (6, true, .slice a0_0 p0.length c0_0), (7, true, .int .i64 (p0.length : Int)), (8, true, .bool true), (11, true, .slice a0_0 p0.length c0_0), (12, true, .int .i64 (i3 : Int)), (13, true, .pointer (some q6)), (14, true, .pointer (some ⟨q6.block, q6.off + 0, q6.spot⟩)), (15, true, .int .i64 z3.Rev), (16, true, .bool (decide (z3.Rev < 1))), (17, true, .bool false), (18, true, .int .i64 (i3 : Int)), (19, true, .bool (decide ((i3 : Int) > 0))), (20, true, .bool s27.1), (33, true, .bool s27.2)]) (fun s => (List.flatten [] : List Blk)) ?_ (fun J27 => ?_)
     ·
      rintro _ h27 e27 w27 _
      replace hF := hK27
      refine gr rfl (r_pkF (ot rfl) (ot rfl)) ?_
      obtain rfl := someI hF
      exact Goes.weak (J8 () _ e27 w27 trivial) (Sub.cons (Sub.cons (Sub.cons (Sub.cons (Sub.cons (Sub.cons (Sub.cons (Sub.cons (Sub.cons (Sub.cons (Sub.cons (Sub.cons (Sub.cons (Sub.cons (Sub.cons (Sub.nil _) rfl) rfl) rfl) rfl) rfl) rfl) rfl) rfl) rfl) rfl) rfl) rfl) rfl) rfl) rfl)
     ·
      rcases Bool.eq_false_or_eq_true (decide ((i3 : Int) > 0)) with hb26 | hb26
      ·
       replace hF := ifT hb26 hF
       refine go_re 20 (v2 := .bool true) rfl (congrArg Value.bool hb26) (g_do rfl rfl rfl (gM rfl rfl (g_do rfl rfl rfl (gM rfl rfl (g_do rfl rfl rfl ?_)))))
       obtain ⟨q28, row28, i28, cl28, rc28, sp28⟩ := ix (ik := .i64) (cap := c0_0) (E := EE) (f0_0.ext e3.kn) ((getI_nat _ _).trans hx3) ut_22 sz_36 rfl
       obtain rfl := rc28
       refine gr rfl (r_ia (ot rfl) (ot rfl) i28) (g_do rfl rfl rfl (gF (fs_36_0 sp28) rfl rfl (g_do rfl rfl rfl (gr rfl (r_load (ot rfl) (v := .int .i64 z3.Rev) (lo_e (fun hf kn => ld_field (r := [.int .i64 z3.Rev, .string z3.Key, .string z3.Val, .bool z3.Del]) ag_3 (kn.cellsAt cl28) rfl))) (g_do rfl rfl rfl (gM rfl rfl (g_do rfl rfl rfl (gM rfl rfl (g_do rfl rfl rfl (gr rfl (r_bin (ot rfl) (oc rfl) rfl) (g_do rfl rfl rfl ?_)))))))))))
       obtain ⟨x29, hx29, hF⟩ := obind hF
       obtain ⟨q29, row29, i29, cl29, rc29, sp29⟩ := ix (ik := .i64) (cap := c0_0) (E := EE) (f0_0.ext e3.kn) hx29 ut_22 sz_36 rfl
       obtain rfl := rc29
       refine gr rfl (r_ia (ot rfl) (ot rfl) i29) (g_do rfl rfl rfl (gF (fs_36_0 sp29) rfl rfl (g_do rfl rfl rfl (gr rfl (r_load (ot rfl) (v := .int .i64 x29.Rev) (lo_e (fun hf kn => ld_field (r := [.int .i64 x29.Rev, .string x29.Key, .string x29.Val, .bool x29.Del]) ag_3 (kn.cellsAt cl29) rfl))) (g_do rfl rfl rfl (gr rfl (r_bin (ot rfl) (ot rfl) rfl) (g_do rfl rfl rfl (gr rfl (r_pkT (ot rfl) (ot rfl)) ?_))))))))
       obtain rfl := someI hF
       exact Goes.weak (J27 () _ (HExt.refl _) w3 trivial) (Sub.cons (Sub.cons (Sub.cons (Sub.cons (Sub.cons (Sub.cons (Sub.cons (Sub.cons (Sub.cons (Sub.cons (Sub.cons (Sub.cons (Sub.cons (Sub.cons (Sub.cons (Sub.cons (Sub.cons (Sub.cons (Sub.nil _) rfl) rfl) rfl) rfl) rfl) rfl) rfl) rfl) rfl) rfl) rfl) rfl) rfl) rfl) rfl) rfl) rfl) rfl)
      ·
       replace hF := ifF hb26 hF
       refine go_re 20 (v2 := .bool false) rfl (congrArg Value.bool hb26) (g_no rfl rfl rfl rfl rfl (g_no rfl rfl rfl rfl rfl (g_no rfl rfl rfl rfl rfl (g_no rfl rfl rfl rfl rfl (g_no rfl rfl rfl rfl rfl (g_no rfl rfl rfl rfl rfl (g_no rfl rfl rfl rfl rfl (g_no rfl rfl rfl rfl rfl (g_no rfl rfl rfl rfl rfl (g_no rfl rfl rfl rfl rfl (g_no rfl rfl rfl rfl rfl (g_no rfl rfl rfl rfl rfl (g_do rfl rfl rfl (gr rfl (r_pkF (ot rfl) (oc rfl)) ?_))))))))))))))
       obtain rfl := someI hF
       exact Goes.weak (J27 () _ (HExt.refl _) w3 trivial) (Sub.cons (Sub.cons (Sub.cons (Sub.cons (Sub.cons (Sub.cons (Sub.cons (Sub.cons (Sub.cons (Sub.cons (Sub.cons (Sub.cons (Sub.cons (Sub.cons (Sub.cons (Sub.cons (Sub.cons (Sub.cons (Sub.nil _) rfl) rfl) rfl) rfl) rfl) rfl) rfl) rfl) rfl) rfl) rfl) rfl) rfl) rfl) rfl) rfl) rfl) rfl)
theorem s_law19_few (n : Nat) {h : Heap} (hw : Wf h) (p0 : (List TEvent)) {a0_0 : Option Addr} {c0_0 : Nat} (f0_0 : RL R_TEvent h a0_0 c0_0 p0) {r : Bool} (hF : F_law19_few n p0 = some r) :
 Ev EE 10 [.slice a0_0 p0.length c0_0] h (fun v _ => v = .bool r) := by
 unfold F_law19_few at hF
 refine ev_of hw rfl at_10 rfl rfl (go_seg0 ?_)
 refine go_seq (go_region (gAc rfl rfl (go_nil (go_seq (go_region (gM rfl rfl (gr rfl (r_len rfl (os1 (ot rfl) os0) (fun _ _ => ln_22)) (gr rfl (r_bin (ot rfl) (oc rfl) rfl) (gM rfl rfl ?_)))))))))
 obtain ⟨s3, hF, hK3⟩ := obind hF
 refine go_joinr 3 (β := Unit) (fun s h' => True) (fun s => [(2, true, .bool false), (9, true, .bool s3)]) (fun s => (List.flatten [] : List Blk)) ?_ (fun J3 => ?_)
 ·
  rintro _ h3 e3 w3 _
  replace hF := hK3
  refine gA rfl rfl (go_nil ?_)
  obtain rfl := someI hF
  exact g_ret (rst rfl rs0) (fun h1 hf hs => ⟨(e3.trans hs.hext), rfl⟩)
 ·
  rcases Bool.eq_false_or_eq_true (decide ((p0.length : Int) ≤ 40)) with hb2 | hb2
  ·
   replace hF := ifT hb2 hF
   refine go_re 6 (v2 := .bool true) rfl (congrArg Value.bool hb2) (g_do rfl rfl rfl (gM rfl rfl (g_do rfl rfl rfl ?_)))
   obtain ⟨x4, hx4, hF⟩ := obind hF
   refine g_callp (v := .bool x4) EE_fr rfl of (os1 (ot rfl) os0) hb_37 (fun _ => rfl) (fun hf kn w => by exact s_ref19_Rises n w p0 (f0_0.ext kn) hx4) (gr rfl (r_pkT (ot rfl) (ot rfl)) ?_)
   obtain rfl := someI hF
   exact Goes.weak (J3 () _ (HExt.refl _) hw trivial) (Sub.cons (Sub.cons (Sub.nil _) rfl) rfl)
  ·
   replace hF := ifF hb2 hF
   refine go_re 6 (v2 := .bool false) rfl (congrArg Value.bool hb2) (g_no rfl rfl rfl rfl rfl (g_no rfl rfl rfl rfl rfl (gr rfl (r_pkF (ot rfl) (oc rfl)) ?_)))
   obtain rfl := someI hF
   exact Goes.weak (J3 () _ (HExt.refl _) hw trivial) (Sub.cons (Sub.cons (Sub.nil _) rfl) rfl)
end Go.Proofs.YtndhbaidibioeaaGreat.V
