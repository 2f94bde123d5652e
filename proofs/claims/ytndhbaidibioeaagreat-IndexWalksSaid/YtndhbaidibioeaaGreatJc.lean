/- Walks.
   No condition: these are laws of the clean machine and of this program. -/
import Derived.Test.YtndhbaidibioeaaGreatJb
namespace Go.Proofs.YtndhbaidibioeaaGreat.V
open Go
set_option linter.unusedVariables false
set_option linter.unusedSimpArgs false
set_option maxRecDepth 100000
set_option maxHeartbeats 4000000
theorem s_ref19_Rises (n : Nat) {h : Heap} (hw : Wf h) (p0 : (List TEvent)) {a0_0 : Option Addr} {c0_0 : Nat} (f0_0 : RL R_TEvent h a0_0 c0_0 p0) {r : Bool} (hF : F_ref19_Rises n p0 = some r) :
    Ev EE 37 [.slice a0_0 p0.length c0_0] h (fun v _ => v = .bool r) := by
 unfold F_ref19_Rises at hF
 refine ev_of hw rfl at_37 rfl rfl (go_seg0 ?_)
 refine go_seq (go_region (gAc rfl rfl (go_nil (go_seq (go_seq (go_region (gAc rfl rfl (go_nil ?_))))))))
 obtain ⟨s2, hF, hK2⟩ := obind hF
 refine go_joinc (β := (Unit)) (fun s h' => s2 = .go s) (fun s => [(2, true, .bool false)]) (fun s => (List.flatten [] : List Blk)) ?_ (fun J2 => ?_)
 ·
  rintro _ h2 e2 w2 hs2
  subst hs2
  replace hF := lpgo hK2
  refine go_seq (go_region (gAc rfl rfl (go_nil ?_)))
  obtain rfl := someI hF
  exact g_ret (rst rfl rs0) (fun h1 hf hs => ⟨(e2.trans hs.hext), rfl⟩)
 ·
  refine go_block ?_
  refine go_loop (α := (List TEvent) × Nat × Heap) (fun a => a.1 = List.drop a.2.1 p0 ∧ HExt h a.2.2 ∧ Wf a.2.2 ∧ F_ref19_Rises_L1 n p0 a.1 a.2.1 = some s2) (fun a => a.1.length) (fun a => [(0, true, .slice a0_0 p0.length c0_0), (2, true, .bool false), (3, true, .int .i64 (a.2.1 : Int))]) (fun a => (List.flatten [] : List Blk)) (fun a => a.2.2) ?_ (p0, 0, h) ⟨rfl, HExt.refl _, hw, hF⟩ (Sub.cons (Sub.cons (Sub.cons (Sub.nil _) rfl) rfl) rfl) rfl rfl
  rintro ⟨r3, i3, h3⟩ ⟨hr3, e3, w3, hF⟩ ih3
  rcases r3 with _ | ⟨z3, r3⟩
  ·
   have hi3 := drop_nil hr3
   rw [F_ref19_Rises_L1.eq_1] at hF
   refine go_seq (go_seq (go_region (gM rfl rfl (gM rfl rfl (gr rfl (r_len rfl (os1 (ot rfl) os0) (fun _ _ => ln_22)) (gr rfl (r_bin (ot rfl) (ot rfl) rfl) (go_cast (.bool false) (congrArg Value.bool (decide_eq_false hi3)) (go_nil ?_))))))))
   refine g_cond (b := false) (ot rfl) (fun hc4 => ?_) (fun hc4 => ?_)
   · cases hc4
   refine go_exit rfl ?_
   obtain rfl := someI hF
   exact Goes.weak (J2 () _ e3 w3 rfl) (Sub.cons (Sub.nil _) rfl)
  ·
   obtain ⟨hi3, hx3, hr3⟩ := drop_cons hr3
   have hb3 := (f0_0.ext e3.kn).1
   rw [F_ref19_Rises_L1.eq_2] at hF
   refine go_seq (go_seq (go_region (gM rfl rfl (gM rfl rfl (gr rfl (r_len rfl (os1 (ot rfl) os0) (fun _ _ => ln_22)) (gr rfl (r_bin (ot rfl) (ot rfl) rfl) (go_cast (.bool true) (congrArg Value.bool (decide_eq_true (Int.ofNat_lt.mpr hi3))) (go_nil ?_))))))))
   refine g_cond (b := true) (ot rfl) (fun hc5 => ?_) (fun hc5 => ?_)
   rotate_left
   · cases hc5
   refine go_skip (go_seq (go_block (go_seq (go_seq (go_regionq (by kernel_rfl) (gM rfl rfl (gM rfl rfl ?_)))))))
   obtain ⟨q6, row6, i6, cl6, rc6, sp6⟩ := ix (ik := .i64) (cap := c0_0) (E := EE) (f0_0.ext e3.kn) ((getI_nat _ _).trans hx3) ut_22 sz_36 rfl
   obtain rfl := rc6
   refine gr rfl (r_ia (ot rfl) (ot rfl) i6) (gF (fs_36_0 sp6) rfl rfl (gr rfl (r_load (ot rfl) (v := .int .i64 z3.Rev) (lo_e (fun hf kn => ld_field (r := [.int .i64 z3.Rev, .string z3.Key, .string z3.Val, .bool z3.Del]) ag_3 (kn.cellsAt cl6) rfl))) (gr rfl (r_bin (ot rfl) (oc rfl) rfl) (gM rfl rfl ?_))))
   obtain ⟨s8, hF, hK8⟩ := obind hF
   refine go_joinr 17 (β := Unit) (fun s h' => True) (fun s => [(0, true, .slice a0_0 p0.length c0_0), (2, true, .bool false), (3, true, .int .i64 (i3 : Int)), (5, true, .int .i64 (i3 : Int)), (6, true, .slice a0_0 p0.length c0_0), (7, true, .int .i64 (p0.length : Int)), (8, true, .bool true), (11, true, .slice a0_0 p0.length c0_0), (12, true, .int .i64 (i3 : Int)), (13, true, .pointer (some q6)), (14, true, .pointer (some ⟨q6.block, q6.off + 0, q6.spot⟩)), (15, true, .int .i64 z3.Rev), (16, true, .bool (decide (z3.Rev < 1))), (17, true, .bool s8.1), (34, true, .bool s8.2)]) (fun s => (List.flatten [] : List Blk)) ?_ (fun J8 => ?_)
   ·
    rintro _ h8 e8 w8 _
    replace hF := hK8
    refine gM rfl rfl ?_
    obtain ⟨s10, hF, hK10⟩ := obind hF
    refine go_joinr 14 (β := Unit) (fun s h' => True) (fun s => [(0, true, .slice a0_0 p0.length c0_0), (2, true, .bool false), (3, true, .int .i64 (i3 : Int)), (5, true, .int .i64 (i3 : Int)), (6, true, .slice a0_0 p0.length c0_0), (7, true, .int .i64 (p0.length : Int)), (8, true, .bool true), (11, true, .slice a0_0 p0.length c0_0), (12, true, .int .i64 (i3 : Int)), (13, true, .pointer (some q6)), (14, true, .pointer (some ⟨q6.block, q6.off + 0, q6.spot⟩)), (15, true, .int .i64 z3.Rev), (16, true, .bool (decide (z3.Rev < 1))), (17, true, .bool s8.1), (34, true, .bool s8.2), (35, true, .bool s10.1), (49, true, .bool s10.2)]) (fun s => (List.flatten [] : List Blk)) ?_ (fun J10 => ?_)
    ·
     rintro _ h10 e10 w10 _
     replace hF := hK10
     refine go_nil ?_
     refine g_cond (b := s10.2) (ot rfl) (fun hc11 => ?_) (fun hc11 => ?_)
     ·
      replace hF := ifT hc11 hF
      refine go_seq (go_region (gAc rfl rfl (go_nil ?_)))
      obtain rfl := someI hF
      obtain rfl := someI hK2
      exact g_ret (rst rfl rs0) (fun h1 hf hs => ⟨(e3.trans (e8.trans (e10.trans hs.hext))), rfl⟩)
     ·
      replace hF := ifF hc11 hF
      refine go_skip (go_seq (go_region (gAc rfl rfl (go_nil ?_))))
      obtain ⟨s12, hF, hK12⟩ := obind hF
      refine go_joinc (β := (Int × Int × Bool)) (fun s h' => s12 = .go s) (fun s => [(0, true, .slice a0_0 p0.length c0_0), (2, true, .bool false), (3, true, .int .i64 (i3 : Int)), (4, true, .int .i64 s.1), (5, true, .int .i64 (i3 : Int)), (6, true, .slice a0_0 p0.length c0_0), (7, true, .int .i64 (p0.length : Int)), (8, true, .bool true), (11, true, .slice a0_0 p0.length c0_0), (12, true, .int .i64 (i3 : Int)), (13, true, .pointer (some q6)), (14, true, .pointer (some ⟨q6.block, q6.off + 0, q6.spot⟩)), (15, true, .int .i64 z3.Rev), (16, true, .bool (decide (z3.Rev < 1))), (17, true, .bool s8.1), (34, true, .bool s8.2), (35, true, .bool s10.1), (49, true, .bool s10.2), (50, true, .int .i64 s.2.1), (51, true, .int .i64 (i3 : Int)), (52, true, .bool s.2.2)]) (fun s => (List.flatten [] : List Blk)) ?_ (fun J12 => ?_)
      ·
       rintro ⟨x12_0, x12_1, x12_2⟩ h12 e12 w12 hs12
       subst hs12
       replace hF := lpgo2 hK12
       refine go_endb (go_region (gM rfl rfl (gr rfl (r_bin (ot rfl) (oc rfl) rfl) (gA rfl rfl (go_nil (go_re 3 (v2 := .int .i64 ((i3 + 1 : Nat) : Int)) rfl (wrap_succ hi3 hb3) ?_))))))
       exact Goes.weak (ih3 (r3, i3 + 1, h12) ⟨hr3, (e3.trans (e8.trans (e10.trans e12))), w12, hF⟩ (Nat.lt_succ_self _)) (Sub.cons (Sub.cons (Sub.cons (Sub.nil _) rfl) rfl) rfl)
      ·
       refine go_block ?_
       refine go_loop (α := Nat × Int × Heap) (fun a => HExt h10 a.2.2 ∧ Wf a.2.2 ∧ F_ref19_Rises_L2 p0 i3 z3 a.1 a.2.1 = some s12) (fun a => a.1) (fun a => [(0, true, .slice a0_0 p0.length c0_0), (2, true, .bool false), (3, true, .int .i64 (i3 : Int)), (4, true, .int .i64 a.2.1), (5, true, .int .i64 (i3 : Int)), (6, true, .slice a0_0 p0.length c0_0), (7, true, .int .i64 (p0.length : Int)), (8, true, .bool true), (11, true, .slice a0_0 p0.length c0_0), (12, true, .int .i64 (i3 : Int)), (13, true, .pointer (some q6)), (14, true, .pointer (some ⟨q6.block, q6.off + 0, q6.spot⟩)), (15, true, .int .i64 z3.Rev), (16, true, .bool (decide (z3.Rev < 1))), (17, true, .bool s8.1), (34, true, .bool s8.2), (35, true, .bool s10.1), (49, true, .bool s10.2)]) (fun a => (List.flatten [] : List Blk)) (fun a => a.2.2) ?_ (n, 0, h10) ⟨HExt.refl _, w10, hF⟩ (Sub.cons (Sub.cons (Sub.cons (Sub.cons (Sub.cons (Sub.cons (Sub.cons (Sub.cons (Sub.cons (Sub.cons (Sub.cons (Sub.cons (Sub.cons (Sub.cons (Sub.cons (Sub.cons (Sub.cons (Sub.cons (Sub.nil _) rfl) rfl) rfl) rfl) rfl) rfl) rfl) rfl) rfl) rfl) rfl) rfl) rfl) rfl) rfl) rfl) rfl) rfl) rfl rfl
       rintro ⟨m13, y13_0, h13⟩ ⟨e13, w13, hF⟩ ih13
       rcases m13 with _ | m13
       ·
        rw [F_ref19_Rises_L2.eq_1] at hF; cases hF
       ·
        rw [F_ref19_Rises_L2.eq_2] at hF
        refine go_seq (go_seq (go_region (gM rfl rfl (gM rfl rfl (gr rfl (r_bin (ot rfl) (ot rfl) rfl) (go_nil ?_))))))
        refine g_cond (b := (decide (y13_0 < (i3 : Int)))) (ot rfl) (fun hc14 => ?_) (fun hc14 => ?_)
        ·
         replace hF := ifT hc14 hF
         refine go_skip (go_seq (go_block (go_seq (go_regionq (by kernel_rfl) (gM rfl rfl (gM rfl rfl ?_))))))
         obtain ⟨x15, hx15, hF⟩ := obind hF
         obtain ⟨q15, row15, i15, cl15, rc15, sp15⟩ := ix (ik := .i64) (cap := c0_0) (E := EE) ((((f0_0.ext e3.kn).ext e8.kn).ext e10.kn).ext e13.kn) hx15 ut_22 sz_36 rfl
         obtain rfl := rc15
         refine gr rfl (r_ia (ot rfl) (ot rfl) i15) (gF (fs_36_0 sp15) rfl rfl (gr rfl (r_load (ot rfl) (v := .int .i64 x15.Rev) (lo_e (fun hf kn => ld_field (r := [.int .i64 x15.Rev, .string x15.Key, .string x15.Val, .bool x15.Del]) ag_3 (kn.cellsAt cl15) rfl))) (gM rfl rfl (gM rfl rfl ?_))))
         obtain ⟨q16, row16, i16, cl16, rc16, sp16⟩ := ix (ik := .i64) (cap := c0_0) (E := EE) ((((f0_0.ext e3.kn).ext e8.kn).ext e10.kn).ext e13.kn) ((getI_nat _ _).trans hx3) ut_22 sz_36 rfl
         obtain rfl := rc16
         refine gr rfl (r_ia (ot rfl) (ot rfl) i16) (gF (fs_36_0 sp16) rfl rfl (gr rfl (r_load (ot rfl) (v := .int .i64 z3.Rev) (lo_e (fun hf kn => ld_field (r := [.int .i64 z3.Rev, .string z3.Key, .string z3.Val, .bool z3.Del]) ag_3 (kn.cellsAt cl16) rfl))) (gr rfl (r_bin (ot rfl) (ot rfl) rfl) (gM rfl rfl ?_))))
         obtain ⟨s18, hF, hK18⟩ := obind hF
         refine go_joinr 12 (β := Unit) (fun s h' => True) (fun s => [(0, true, .slice a0_0 p0.length c0_0), (2, true, .bool false), (3, true, .int .i64 (i3 : Int)), (4, true, .int .i64 y13_0), (5, true, .int .i64 (i3 : Int)), (6, true, .slice a0_0 p0.length c0_0), (7, true, .int .i64 (p0.length : Int)), (8, true, .bool true), (11, true, .slice a0_0 p0.length c0_0), (12, true, .int .i64 (i3 : Int)), (13, true, .pointer (some q6)), (14, true, .pointer (some ⟨q6.block, q6.off + 0, q6.spot⟩)), (15, true, .int .i64 z3.Rev), (16, true, .bool (decide (z3.Rev < 1))), (17, true, .bool s8.1), (34, true, .bool s8.2), (35, true, .bool s10.1), (49, true, .bool s10.2), (50, true, .int .i64 y13_0), (51, true, .int .i64 (i3 : Int)), (52, true, .bool (decide (y13_0 < (i3 : Int)))), (55, true, .slice a0_0 p0.length c0_0), (56, true, .int .i64 y13_0), (57, true, .pointer (some q15)), (58, true, .pointer (some ⟨q15.block, q15.off + 0, q15.spot⟩)), (59, true, .int .i64 x15.Rev), (60, true, .slice a0_0 p0.length c0_0), (61, true, .int .i64 (i3 : Int)), (62, true, .pointer (some q16)), (63, true, .pointer (some ⟨q16.block, q16.off + 0, q16.spot⟩)), (64, true, .int .i64 z3.Rev), (65, true, .bool (x15.Rev == z3.Rev)), (66, true, .bool s18.1), (78, true, .bool s18.2)]) (fun s => (List.flatten [] : List Blk)) ?_ (fun J18 => ?_)
         ·
          rintro _ h18 e18 w18 _
          replace hF := hK18
          refine go_nil ?_
          refine g_cond (b := s18.2) (ot rfl) (fun hc19 => ?_) (fun hc19 => ?_)
          ·
           replace hF := ifT hc19 hF
           refine go_seq (go_region (gAc rfl rfl (go_nil ?_)))
           obtain rfl := someI hF
           obtain rfl := someI hK12
           obtain rfl := someI hK2
           exact g_ret (rst rfl rs0) (fun h1 hf hs => ⟨(e3.trans (e8.trans (e10.trans (e13.trans (e18.trans hs.hext))))), rfl⟩)
          ·
           replace hF := ifF hc19 hF
           refine go_skip (go_endb (go_region (gM rfl rfl (gr rfl (r_bin (ot rfl) (oc rfl) rfl) (gA rfl rfl (go_nil ?_))))))
           exact Goes.weak (ih13 (m13, (IntKind.i64.wrap (y13_0 + 1)), h18) ⟨(e13.trans e18), w18, hF⟩ (Nat.lt_succ_self _)) (Sub.cons (Sub.cons (Sub.cons (Sub.cons (Sub.cons (Sub.cons (Sub.cons (Sub.cons (Sub.cons (Sub.cons (Sub.cons (Sub.cons (Sub.cons (Sub.cons (Sub.cons (Sub.cons (Sub.cons (Sub.cons (Sub.nil _) rfl) rfl) rfl) rfl) rfl) rfl) rfl) rfl) rfl) rfl) rfl) rfl) rfl) rfl) rfl) rfl) rfl) rfl)
         ·
          rcases Bool.eq_false_or_eq_true (x15.Rev == z3.Rev) with hb17 | hb17
          ·
           replace hF := ifT hb17 hF
           refine go_re 66 (v2 := .bool true) rfl (congrArg Value.bool hb17) (g_do rfl rfl rfl (gM rfl rfl (g_do rfl rfl rfl (gM rfl rfl (g_do rfl rfl rfl ?_)))))
           obtain ⟨x20, hx20, hF⟩ := obind hF
           obtain ⟨q20, row20, i20, cl20, rc20, sp20⟩ := ix (ik := .i64) (cap := c0_0) (E := EE) ((((f0_0.ext e3.kn).ext e8.kn).ext e10.kn).ext e13.kn) hx20 ut_22 sz_36 rfl
           obtain rfl := rc20
           refine gr rfl (r_ia (ot rfl) (ot rfl) i20) (g_do rfl rfl rfl (gF (fs_36_1 sp20) rfl rfl (g_do rfl rfl rfl (gr rfl (r_load (ot rfl) (v := .string x20.Key) (lo_e (fun hf kn => ld_field (r := [.int .i64 x20.Rev, .string x20.Key, .string x20.Val, .bool x20.Del]) ag_9 (kn.cellsAt cl20) rfl))) (g_do rfl rfl rfl (gM rfl rfl (g_do rfl rfl rfl (gM rfl rfl (g_do rfl rfl rfl ?_)))))))))
           obtain ⟨q21, row21, i21, cl21, rc21, sp21⟩ := ix (ik := .i64) (cap := c0_0) (E := EE) ((((f0_0.ext e3.kn).ext e8.kn).ext e10.kn).ext e13.kn) ((getI_nat _ _).trans hx3) ut_22 sz_36 rfl
           obtain rfl := rc21
           refine gr rfl (r_ia (ot rfl) (ot rfl) i21) (g_do rfl rfl rfl (gF (fs_36_1 sp21) rfl rfl (g_do rfl rfl rfl (gr rfl (r_load (ot rfl) (v := .string z3.Key) (lo_e (fun hf kn => ld_field (r := [.int .i64 z3.Rev, .string z3.Key, .string z3.Val, .bool z3.Del]) ag_9 (kn.cellsAt cl21) rfl))) (g_do rfl rfl rfl (gr rfl (r_bin (ot rfl) (ot rfl) rfl) (gr rfl (r_pkT (ot rfl) (ot rfl)) ?_)))))))
           obtain rfl := someI hF
           exact Goes.weak (J18 () _ (HExt.refl _) w13 trivial) (Sub.cons (Sub.cons (Sub.cons (Sub.cons (Sub.cons (Sub.cons (Sub.cons (Sub.cons (Sub.cons (Sub.cons (Sub.cons (Sub.cons (Sub.cons (Sub.cons (Sub.cons (Sub.cons (Sub.cons (Sub.cons (Sub.cons (Sub.cons (Sub.cons (Sub.cons (Sub.cons (Sub.cons (Sub.cons (Sub.cons (Sub.cons (Sub.cons (Sub.cons (Sub.cons (Sub.cons (Sub.cons (Sub.cons (Sub.cons (Sub.nil _) rfl) rfl) rfl) rfl) rfl) rfl) rfl) rfl) rfl) rfl) rfl) rfl) rfl) rfl) rfl) rfl) rfl) rfl) rfl) rfl) rfl) rfl) rfl) rfl) rfl) rfl) rfl) rfl) rfl) rfl) rfl) rfl) rfl) rfl)
          ·
           replace hF := ifF hb17 hF
           refine go_re 66 (v2 := .bool false) rfl (congrArg Value.bool hb17) (g_no rfl rfl rfl rfl rfl (g_no rfl rfl rfl rfl rfl (g_no rfl rfl rfl rfl rfl (g_no rfl rfl rfl rfl rfl (g_no rfl rfl rfl rfl rfl (g_no rfl rfl rfl rfl rfl (g_no rfl rfl rfl rfl rfl (g_no rfl rfl rfl rfl rfl (g_no rfl rfl rfl rfl rfl (g_no rfl rfl rfl rfl rfl (g_no rfl rfl rfl rfl rfl (gr rfl (r_pkF (ot rfl) (oc rfl)) ?_))))))))))))
           obtain rfl := someI hF
           exact Goes.weak (J18 () _ (HExt.refl _) w13 trivial) (Sub.cons (Sub.cons (Sub.cons (Sub.cons (Sub.cons (Sub.cons (Sub.cons (Sub.cons (Sub.cons (Sub.cons (Sub.cons (Sub.cons (Sub.cons (Sub.cons (Sub.cons (Sub.cons (Sub.cons (Sub.cons (Sub.cons (Sub.cons (Sub.cons (Sub.cons (Sub.cons (Sub.cons (Sub.cons (Sub.cons (Sub.cons (Sub.cons (Sub.cons (Sub.cons (Sub.cons (Sub.cons (Sub.cons (Sub.cons (Sub.nil _) rfl) rfl) rfl) rfl) rfl) rfl) rfl) rfl) rfl) rfl) rfl) rfl) rfl) rfl) rfl) rfl) rfl) rfl) rfl) rfl) rfl) rfl) rfl) rfl) rfl) rfl) rfl) rfl) rfl) rfl) rfl) rfl) rfl) rfl)
        ·
         replace hF := ifF hc14 hF
         refine go_exit rfl ?_
         obtain rfl := someI hF
         exact Goes.weak (J12 (y13_0, y13_0, (decide (y13_0 < (i3 : Int)))) _ e13 w13 rfl) (Sub.cons (Sub.cons (Sub.cons (Sub.cons (Sub.cons (Sub.cons (Sub.cons (Sub.cons (Sub.cons (Sub.cons (Sub.cons (Sub.cons (Sub.cons (Sub.cons (Sub.cons (Sub.cons (Sub.cons (Sub.cons (Sub.cons (Sub.cons (Sub.cons (Sub.nil _) rfl) rfl) rfl) rfl) rfl) rfl) rfl) rfl) rfl) rfl) rfl) rfl) rfl) rfl) rfl) rfl) rfl) rfl) rfl) rfl) rfl)
    ·
     rcases Bool.eq_false_or_eq_true s8.2 with hb9 | hb9
     ·
      replace hF := ifT hb9 hF
      refine go_re 35 (v2 := .bool true) rfl (congrArg Value.bool hb9) (g_no rfl rfl rfl rfl rfl (g_no rfl rfl rfl rfl rfl (g_no rfl rfl rfl rfl rfl (g_no rfl rfl rfl rfl rfl (g_no rfl rfl rfl rfl rfl (g_no rfl rfl rfl rfl rfl (g_nu rfl rfl rfl rfl (g_nu rfl rfl rfl rfl (g_nu rfl rfl rfl rfl (g_nu rfl rfl rfl rfl (g_nu rfl rfl rfl rfl (g_nu rfl rfl rfl rfl (g_no rfl rfl rfl rfl rfl (gr rfl (r_pkT (ot rfl) (oc rfl)) ?_))))))))))))))
      obtain rfl := someI hF
      exact Goes.weak (J10 () _ (HExt.refl _) w8 trivial) (Sub.cons (Sub.cons (Sub.cons (Sub.cons (Sub.cons (Sub.cons (Sub.cons (Sub.cons (Sub.cons (Sub.cons (Sub.cons (Sub.cons (Sub.cons (Sub.cons (Sub.cons (Sub.cons (Sub.cons (Sub.nil _) rfl) rfl) rfl) rfl) rfl) rfl) rfl) rfl) rfl) rfl) rfl) rfl) rfl) rfl) rfl) rfl) rfl)
     ·
      replace hF := ifF hb9 hF
      refine go_re 35 (v2 := .bool false) rfl (congrArg Value.bool hb9) (g_do rfl rfl rfl (gM rfl rfl (g_do rfl rfl rfl (gM rfl rfl (g_do rfl rfl rfl ?_)))))
      obtain ⟨q22, row22, i22, cl22, rc22, sp22⟩ := ix (ik := .i64) (cap := c0_0) (E := EE) ((f0_0.ext e3.kn).ext e8.kn) ((getI_nat _ _).trans hx3) ut_22 sz_36 rfl
      obtain rfl := rc22
      refine gr rfl (r_ia (ot rfl) (ot rfl) i22) (g_do rfl rfl rfl (gF (fs_36_3 sp22) rfl rfl (g_do rfl rfl rfl (gr rfl (r_load (ot rfl) (v := .bool z3.Del) (lo_e (fun hf kn => ld_field (r := [.int .i64 z3.Rev, .string z3.Key, .string z3.Val, .bool z3.Del]) ag_4 (kn.cellsAt cl22) rfl))) (g_do rfl rfl rfl (gM rfl rfl ?_))))))
      obtain ⟨s24, hF, hK24⟩ := obind hF
      refine go_joinr 7 (β := Unit) (fun s h' => True) (fun s => [(0, true, .slice a0_0 p0.length c0_0), (2, true, .bool false), (3, true, .int .i64 (i3 : Int)), (5, true, .int .i64 (i3 : Int)), (6, true, .slice a0_0 p0.length c0_0), (7, true, .int .i64 (p0.length : Int)), (8, true, .bool true), (11, true, .slice a0_0 p0.length c0_0), (12, true, .int .i64 (i3 : Int)), (13, true, .pointer (some q6)), (14, true, .pointer (some ⟨q6.block, q6.off + 0, q6.spot⟩)), (15, true, .int .i64 z3.Rev), (16, true, .bool (decide (z3.Rev < 1))), (17, true, .bool s8.1), (34, true, .bool s8.2), (35, true, .bool false), (36, true, .slice a0_0 p0.length c0_0), (37, true, .int .i64 (i3 : Int)), (38, true, .pointer (some q22)), (39, true, .pointer (some ⟨q22.block, q22.off + 3, q22.spot⟩)), (40, true, .bool z3.Del), (41, true, .bool s24.1), (48, true, .bool s24.2)]) (fun s => (List.flatten [] : List Blk)) ?_ (fun J24 => ?_)
      ·
       rintro _ h24 e24 w24 _
       replace hF := hK24
       refine gr rfl (r_pkF (ot rfl) (ot rfl)) ?_
       obtain rfl := someI hF
       exact Goes.weak (J10 () _ e24 w24 trivial) (Sub.cons (Sub.cons (Sub.cons (Sub.cons (Sub.cons (Sub.cons (Sub.cons (Sub.cons (Sub.cons (Sub.cons (Sub.cons (Sub.cons (Sub.cons (Sub.cons (Sub.cons (Sub.cons (Sub.cons (Sub.nil _) rfl) rfl) rfl) rfl) rfl) rfl) rfl) rfl) rfl) rfl) rfl) rfl) rfl) rfl) rfl) rfl) rfl)
      ·
       rcases Bool.eq_false_or_eq_true z3.Del with hb23 | hb23
       ·
        replace hF := ifT hb23 hF
        refine go_re 41 (v2 := .bool true) rfl (congrArg Value.bool hb23) (g_do rfl rfl rfl (gM rfl rfl (g_do rfl rfl rfl (gM rfl rfl (g_do rfl rfl rfl ?_)))))
        obtain ⟨q25, row25, i25, cl25, rc25, sp25⟩ := ix (ik := .i64) (cap := c0_0) (E := EE) ((f0_0.ext e3.kn).ext e8.kn) ((getI_nat _ _).trans hx3) ut_22 sz_36 rfl
        obtain rfl := rc25
        refine gr rfl (r_ia (ot rfl) (ot rfl) i25) (g_do rfl rfl rfl (gF (fs_36_2 sp25) rfl rfl (g_do rfl rfl rfl (gr rfl (r_load (ot rfl) (v := .string z3.Val) (lo_e (fun hf kn => ld_field (r := [.int .i64 z3.Rev, .string z3.Key, .string z3.Val, .bool z3.Del]) ag_9 (kn.cellsAt cl25) rfl))) (g_do rfl rfl rfl (gr rfl (r_bin (ot rfl) (oc rfl) rfl) (g_do rfl rfl rfl (gr rfl (r_pkT (ot rfl) (ot rfl)) ?_))))))))
        obtain rfl := someI hF
        exact Goes.weak (J24 () _ (HExt.refl _) w8 trivial) (Sub.cons (Sub.cons (Sub.cons (Sub.cons (Sub.cons (Sub.cons (Sub.cons (Sub.cons (Sub.cons (Sub.cons (Sub.cons (Sub.cons (Sub.cons (Sub.cons (Sub.cons (Sub.cons (Sub.cons (Sub.cons (Sub.cons (Sub.cons (Sub.cons (Sub.cons (Sub.cons (Sub.nil _) rfl) rfl) rfl) rfl) rfl) rfl) rfl) rfl) rfl) rfl) rfl) rfl) rfl) rfl) rfl) rfl) rfl) rfl) rfl) rfl) rfl) rfl) rfl)
       ·
        replace hF := ifF hb23 hF
        refine go_re 41 (v2 := .bool false) rfl (congrArg Value.bool hb23) (g_no rfl rfl rfl rfl rfl (g_no rfl rfl rfl rfl rfl (g_no rfl rfl rfl rfl rfl (g_no rfl rfl rfl rfl rfl (g_no rfl rfl rfl rfl rfl (g_no rfl rfl rfl rfl rfl (g_do rfl rfl rfl (gr rfl (r_pkF (ot rfl) (oc rfl)) ?_))))))))
        obtain rfl := someI hF
        exact Goes.weak (J24 () _ (HExt.refl _) w8 trivial) (Sub.cons (Sub.cons (Sub.cons (Sub.cons (Sub.cons (Sub.cons (Sub.cons (Sub.cons (Sub.cons (Sub.cons (Sub.cons (Sub.cons (Sub.cons (Sub.cons (Sub.cons (Sub.cons (Sub.cons (Sub.cons (Sub.cons (Sub.cons (Sub.cons (Sub.cons (Sub.cons (Sub.nil _) rfl) rfl) rfl) rfl) rfl) rfl) rfl) rfl) rfl) rfl) rfl) rfl) rfl) rfl) rfl) rfl) rfl) rfl) rfl) rfl) rfl) rfl) rfl)
   ·
    rcases Bool.eq_false_or_eq_true (decide (z3.Rev < 1)) with hb7 | hb7
    ·
     replace hF := ifT hb7 hF
     refine go_re 17 (v2 := .bool true) rfl (congrArg Value.bool hb7) (g_no rfl rfl rfl rfl rfl (g_no rfl rfl rfl rfl rfl (g_no rfl rfl rfl rfl rfl (g_nu rfl rfl rfl rfl (g_nu rfl rfl rfl rfl (g_nu rfl rfl rfl rfl (g_nu rfl rfl rfl rfl (g_nu rfl rfl rfl rfl (g_nu rfl rfl rfl rfl (g_nu rfl rfl rfl rfl (g_nu rfl rfl rfl rfl (g_nu rfl rfl rfl rfl (g_nu rfl rfl rfl rfl (g_nu rfl rfl rfl rfl (g_nu rfl rfl rfl rfl (g_no rfl rfl rfl rfl rfl (gr rfl (r_pkT (ot rfl) (oc rfl)) ?_)))))))))))))))))
     obtain rfl := someI hF
     exact Goes.weak (J8 () _ (HExt.refl _) w3 trivial) (Sub.cons (Sub.cons (Sub.cons (Sub.cons (Sub.cons (Sub.cons (Sub.cons (Sub.cons (Sub.cons (Sub.cons (Sub.cons (Sub.cons (Sub.cons (Sub.cons (Sub.cons (Sub.nil _) rfl) rfl) rfl) rfl) rfl) rfl) rfl) rfl) rfl) rfl) rfl) rfl) rfl) rfl) rfl)
    ·
     replace hF := ifF hb7 hF
     refine go_re 17 (v2 := .bool false) rfl (congrArg Value.bool hb7) (g_do rfl rfl rfl (gM rfl rfl (g_do rfl rfl rfl (gr rfl (r_bin (ot rfl) (oc rfl) rfl) (g_do rfl rfl rfl (gM rfl rfl ?_))))))
     obtain ⟨s27, hF, hK27⟩ := obind hF
     refine go_joinr 13 (β := Unit) (fun s h' => True) (fun s => [(0, true, .slice a0_0 p0.length c0_0), (2, true, .bool false), (3, true, .int .i64 (i3 : Int)), (5, true, .int .i64 (i3 : Int)), (6, true, .slice a0_0 p0.length c0_0), (7, true, .int .i64 (p0.length : Int)), (8, true, .bool true), (11, true, .slice a0_0 p0.length c0_0), (12, true, .int .i64 (i3 : Int)), (13, true, .pointer (some q6)), (14, true, .pointer (some ⟨q6.block, q6.off + 0, q6.spot⟩)), (15, true, .int .i64 z3.Rev), (16, true, .bool (decide (z3.Rev < 1))), (17, true, .bool false), (18, true, .int .i64 (i3 : Int)), (19, true, .bool (decide ((i3 : Int) > 0))), (20, true, .bool s27.1), (33, true, .bool s27.2)]) (fun s => (List.flatten [] : List Blk)) ?_ (fun J27 => ?_)
     ·
      rintro _ h27 e27 w27 _
      replace hF := hK27
      refine gr rfl (r_pkF (ot rfl) (ot rfl)) ?_
      obtain rfl := someI hF
      exact Goes.weak (J8 () _ e27 w27 trivial) (Sub.cons (Sub.cons (Sub.cons (Sub.cons (Sub.cons (Sub.cons (Sub.cons (Sub.cons (Sub.cons (Sub.cons (Sub.cons (Sub.cons (Sub.cons (Sub.cons (Sub.cons (Sub.nil _) rfl) rfl) rfl) rfl) rfl) rfl) rfl) rfl) rfl) rfl) rfl) rfl) rfl) rfl) rfl)
     ·
      rcases Bool.eq_false_or_eq_true (decide ((i3 : Int) > 0)) with hb26 | hb26
      ·
       replace hF := ifT hb26 hF
       refine go_re 20 (v2 := .bool true) rfl (congrArg Value.bool hb26) (g_do rfl rfl rfl (gM rfl rfl (g_do rfl rfl rfl (gM rfl rfl (g_do rfl rfl rfl ?_)))))
       obtain ⟨q28, row28, i28, cl28, rc28, sp28⟩ := ix (ik := .i64) (cap := c0_0) (E := EE) (f0_0.ext e3.kn) ((getI_nat _ _).trans hx3) ut_22 sz_36 rfl
       obtain rfl := rc28
       refine gr rfl (r_ia (ot rfl) (ot rfl) i28) (g_do rfl rfl rfl (gF (fs_36_0 sp28) rfl rfl (g_do rfl rfl rfl (gr rfl (r_load (ot rfl) (v := .int .i64 z3.Rev) (lo_e (fun hf kn => ld_field (r := [.int .i64 z3.Rev, .string z3.Key, .string z3.Val, .bool z3.Del]) ag_3 (kn.cellsAt cl28) rfl))) (g_do rfl rfl rfl (gM rfl rfl (g_do rfl rfl rfl (gM rfl rfl (g_do rfl rfl rfl (gr rfl (r_bin (ot rfl) (oc rfl) rfl) (g_do rfl rfl rfl ?_)))))))))))
       obtain ⟨x29, hx29, hF⟩ := obind hF
       obtain ⟨q29, row29, i29, cl29, rc29, sp29⟩ := ix (ik := .i64) (cap := c0_0) (E := EE) (f0_0.ext e3.kn) hx29 ut_22 sz_36 rfl
       obtain rfl := rc29
       refine gr rfl (r_ia (ot rfl) (ot rfl) i29) (g_do rfl rfl rfl (gF (fs_36_0 sp29) rfl rfl (g_do rfl rfl rfl (gr rfl (r_load (ot rfl) (v := .int .i64 x29.Rev) (lo_e (fun hf kn => ld_field (r := [.int .i64 x29.Rev, .string x29.Key, .string x29.Val, .bool x29.Del]) ag_3 (kn.cellsAt cl29) rfl))) (g_do rfl rfl rfl (gr rfl (r_bin (ot rfl) (ot rfl) rfl) (g_do rfl rfl rfl (gr rfl (r_pkT (ot rfl) (ot rfl)) ?_))))))))
       obtain rfl := someI hF
       exact Goes.weak (J27 () _ (HExt.refl _) w3 trivial) (Sub.cons (Sub.cons (Sub.cons (Sub.cons (Sub.cons (Sub.cons (Sub.cons (Sub.cons (Sub.cons (Sub.cons (Sub.cons (Sub.cons (Sub.cons (Sub.cons (Sub.cons (Sub.cons (Sub.cons (Sub.cons (Sub.nil _) rfl) rfl) rfl) rfl) rfl) rfl) rfl) rfl) rfl) rfl) rfl) rfl) rfl) rfl) rfl) rfl) rfl) rfl)
      ·
       replace hF := ifF hb26 hF
       refine go_re 20 (v2 := .bool false) rfl (congrArg Value.bool hb26) (g_no rfl rfl rfl rfl rfl (g_no rfl rfl rfl rfl rfl (g_no rfl rfl rfl rfl rfl (g_no rfl rfl rfl rfl rfl (g_no rfl rfl rfl rfl rfl (g_no rfl rfl rfl rfl rfl (g_no rfl rfl rfl rfl rfl (g_no rfl rfl rfl rfl rfl (g_no rfl rfl rfl rfl rfl (g_no rfl rfl rfl rfl rfl (g_no rfl rfl rfl rfl rfl (g_no rfl rfl rfl rfl rfl (g_do rfl rfl rfl (gr rfl (r_pkF (ot rfl) (oc rfl)) ?_))))))))))))))
       obtain rfl := someI hF
       exact Goes.weak (J27 () _ (HExt.refl _) w3 trivial) (Sub.cons (Sub.cons (Sub.cons (Sub.cons (Sub.cons (Sub.cons (Sub.cons (Sub.cons (Sub.cons (Sub.cons (Sub.cons (Sub.cons (Sub.cons (Sub.cons (Sub.cons (Sub.cons (Sub.cons (Sub.cons (Sub.nil _) rfl) rfl) rfl) rfl) rfl) rfl) rfl) rfl) rfl) rfl) rfl) rfl) rfl) rfl) rfl) rfl) rfl) rfl)
theorem s_law19_few (n : Nat) {h : Heap} (hw : Wf h) (p0 : (List TEvent)) {a0_0 : Option Addr} {c0_0 : Nat} (f0_0 : RL R_TEvent h a0_0 c0_0 p0) {r : Bool} (hF : F_law19_few n p0 = some r) :
    Ev EE 10 [.slice a0_0 p0.length c0_0] h (fun v _ => v = .bool r) := by
 unfold F_law19_few at hF
 refine ev_of hw rfl at_10 rfl rfl (go_seg0 ?_)
 refine go_seq (go_region (gAc rfl rfl (go_nil (go_seq (go_region (gM rfl rfl (gr rfl (r_len rfl (os1 (ot rfl) os0) (fun _ _ => ln_22)) (gr rfl (r_bin (ot rfl) (oc rfl) rfl) (gM rfl rfl ?_)))))))))
 obtain ⟨s3, hF, hK3⟩ := obind hF
 refine go_joinr 3 (β := Unit) (fun s h' => True) (fun s => [(2, true, .bool false), (9, true, .bool s3)]) (fun s => (List.flatten [] : List Blk)) ?_ (fun J3 => ?_)
 ·
  rintro _ h3 e3 w3 _
  replace hF := hK3
  refine gA rfl rfl (go_nil ?_)
  obtain rfl := someI hF
  exact g_ret (rst rfl rs0) (fun h1 hf hs => ⟨(e3.trans hs.hext), rfl⟩)
 ·
  rcases Bool.eq_false_or_eq_true (decide ((p0.length : Int) ≤ 40)) with hb2 | hb2
  ·
   replace hF := ifT hb2 hF
   refine go_re 6 (v2 := .bool true) rfl (congrArg Value.bool hb2) (g_do rfl rfl rfl (gM rfl rfl (g_do rfl rfl rfl ?_)))
   obtain ⟨x4, hx4, hF⟩ := obind hF
   refine g_callp (v := .bool x4) EE_fr rfl of (os1 (ot rfl) os0) hb_37 (fun _ => rfl) (fun hf kn w => by exact s_ref19_Rises n w p0 (f0_0.ext kn) hx4) (gr rfl (r_pkT (ot rfl) (ot rfl)) ?_)
   obtain rfl := someI hF
   exact Goes.weak (J3 () _ (HExt.refl _) hw trivial) (Sub.cons (Sub.cons (Sub.nil _) rfl) rfl)
  ·
   replace hF := ifF hb2 hF
   refine go_re 6 (v2 := .bool false) rfl (congrArg Value.bool hb2) (g_no rfl rfl rfl rfl rfl (g_no rfl rfl rfl rfl rfl (gr rfl (r_pkF (ot rfl) (oc rfl)) ?_)))
   obtain rfl := someI hF
   exact Goes.weak (J3 () _ (HExt.refl _) hw trivial) (Sub.cons (Sub.cons (Sub.nil _) rfl) rfl)
theorem s_law19_made (n : Nat) {h : Heap} (hw : Wf h) (p0 : (List TEvent)) {a0_0 : Option Addr} {c0_0 : Nat} (f0_0 : RL R_TEvent h a0_0 c0_0 p0) {r : Obst_Tree × Omem_Mem × Ochain_Store} (hF : F_law19_made n p0 = some r) :
    EvO EE 11 [.slice a0_0 p0.length c0_0] [] h (fun v S h1 => ∃ bw0 bw0_1 bw0_2 bw0_3 zw0, v = pt bw0 ∧ S = [zw0] ∧ Zindex_Index h1 bw0 bw0_1 bw0_2 bw0_3 zw0 r.1 r.2.1 r.2.2) := by
 unfold F_law19_made at hF
 refine evo_of rfl at_11 rfl rfl ?_
 refine go_seq (go_region (gAc rfl rfl (go_nil (go_seq (go_region ?_)))))
 obtain ⟨x2, hx2, hF⟩ := obind hF
 refine kcX EE_fr hw .nil rfl of (ops_c rfl os0) hb_24 (s_mem_New_nil hw   hx2) ?_
 rintro _ _ h2 e2 w2 ⟨b2_w0, z2_w0, rfl, rfl, f2_0⟩
 simp only [ca_, na_]
 obtain ⟨x3, hx3, hF⟩ := obind hF
 refine kcX EE_fr w2 (.cons .z .nil) rfl of (ops_t rfl os0) hb_23 (s_index_New w2 x2 f2_0 hx3) ?_
 rintro _ _ h3 e3 w3 ⟨b3_w0, b3_w0_1, b3_w0_3, z3_w0, rfl, rfl, f3_0⟩
 simp only [ca_, na_]
 refine gA rfl rfl (go_nil (go_seq (go_seq (go_region (gAc rfl rfl (go_nil ?_))))))
 obtain ⟨s4, hF, hK4⟩ := obind hF
 refine go_joinc (β := List Blk) (fun s h' => Zindex_Index h' b3_w0 b3_w0_1 b2_w0 b3_w0_3 s s4.1 s4.2.1 s4.2.2) (fun s => [(2, true, .pointer none), (3, true, pt b3_w0)]) (fun s => (List.flatten [s] : List Blk)) ?_ (fun J4 => ?_)
 ·
  rintro a4_0 h4 e4 w4 f4_0
  try dsimp only at f4_0
  replace hF := hK4
  refine go_seq (go_region (gM rfl rfl (gA rfl rfl (go_nil ?_))))
  obtain rfl := someI hF
  exact g_retO (rst rfl rs0) (.cons .z .nil) (e2.trans (e3.trans e4)) w4 (nd1 f4_0.nd nd0) ⟨_, _, _, _, _, rfl, rfl, f4_0⟩
 ·
  refine go_block ?_
  refine go_loop (α := (List TEvent) × Nat × (Obst_Tree × Omem_Mem × Ochain_Store) × List Blk × Heap) (fun a => a.1 = List.drop a.2.1 p0 ∧ HExt h3 a.2.2.2.2 ∧ Wf a.2.2.2.2 ∧ F_law19_made_L1 n a.1 a.2.1 a.2.2.1 = some s4 ∧ Zindex_Index a.2.2.2.2 b3_w0 b3_w0_1 b2_w0 b3_w0_3 a.2.2.2.1 a.2.2.1.1 a.2.2.1.2.1 a.2.2.1.2.2) (fun a => a.1.length) (fun a => [(0, true, .slice a0_0 p0.length c0_0), (2, true, .pointer none), (3, true, pt b3_w0), (4, true, .int .i64 (a.2.1 : Int))]) (fun a => (List.flatten [a.2.2.2.1] : List Blk)) (fun a => a.2.2.2.2) ?_ (p0, 0, (x3.1, x3.2.1, x3.2.2), z3_w0, h3) ⟨rfl, HExt.refl _, w3, hF, f3_0⟩ (Sub.cons (Sub.cons (Sub.cons (Sub.cons (Sub.nil _) rfl) rfl) rfl) rfl) rfl rfl
  rintro ⟨r5, i5, y5_0, a5_0, h5⟩ ⟨hr5, e5, w5, hF, f5_0⟩ ih5
  try dsimp only at f5_0
  rcases r5 with _ | ⟨z5, r5⟩
  ·
   have hi5 := drop_nil hr5
   rw [F_law19_made_L1.eq_1] at hF
   refine go_seq (go_seq (go_region (gM rfl rfl (gM rfl rfl (gr rfl (r_len rfl (os1 (ot rfl) os0) (fun _ _ => ln_22)) (gr rfl (r_bin (ot rfl) (ot rfl) rfl) (go_cast (.bool false) (congrArg Value.bool (decide_eq_false hi5)) (go_nil ?_))))))))
   refine g_cond (b := false) (ot rfl) (fun hc6 => ?_) (fun hc6 => ?_)
   · cases hc6
   refine go_exit rfl ?_
   obtain rfl := someI hF
   exact Goes.weak (J4 a5_0 _ e5 w5 f5_0) (Sub.cons (Sub.cons (Sub.nil _) rfl) rfl)
  ·
   obtain ⟨hi5, hx5, hr5⟩ := drop_cons hr5
   have hb5 := (((f0_0.ext e2.kn).ext e3.kn).ext e5.kn).1
   rw [F_law19_made_L1.eq_2] at hF
   refine go_seq (go_seq (go_region (gM rfl rfl (gM rfl rfl (gr rfl (r_len rfl (os1 (ot rfl) os0) (fun _ _ => ln_22)) (gr rfl (r_bin (ot rfl) (ot rfl) rfl) (go_cast (.bool true) (congrArg Value.bool (decide_eq_true (Int.ofNat_lt.mpr hi5))) (go_nil ?_))))))))
   refine g_cond (b := true) (ot rfl) (fun hc7 => ?_) (fun hc7 => ?_)
   rotate_left
   · cases hc7
   refine go_skip (go_seq (go_block (go_region (gM rfl rfl (gM rfl rfl (gM rfl rfl ?_))))))
   obtain ⟨q8, row8, i8, cl8, rc8, sp8⟩ := ix (ik := .i64) (cap := c0_0) (E := EE) (((f0_0.ext e2.kn).ext e3.kn).ext e5.kn) ((getI_nat _ _).trans hx5) ut_22 sz_36 rfl
   obtain rfl := rc8
   refine gr rfl (r_ia (ot rfl) (ot rfl) i8) (gr rfl (r_load (ot rfl) (v := .agg #[.int .i64 z5.Rev, .string z5.Key, .string z5.Val, .bool z5.Del]) (lo_e (fun hf kn => ld_of (r := [.int .i64 z5.Rev, .string z5.Key, .string z5.Val, .bool z5.Del]) ag_36 sz_36 (kn.cellsAt cl8)))) ?_)
   obtain ⟨x9, hx9, hF⟩ := obind hF
   refine kcX EE_fr w5 (.cons .z .nil) rfl of (ops_t rfl (ops_t rfl os0)) hb_25 (s_index_Index_Put n w5 y5_0.1 y5_0.2.1 y5_0.2.2 z5 f5_0 hx9) ?_
   rintro _ _ h9 e9 w9 ⟨z9_y0, b9_w0, z9_w0, rfl, rfl, f9_0, f9_1⟩
   simp only [ca_, na_]
   obtain ⟨x10, hx10, hF⟩ := obind hF
   refine kcX EE_fr w9 (.cons .z (.cons .z .nil)) rfl of (ops_t rfl os0) hb_14 (s_index_Run n w9 x9.2.1 x9.2.2.1 x9.2.2.2 x9.1 f9_0 f9_1 hx10) ?_
   rintro _ _ h10 e10 w10 ⟨z10_y0, z10_y1, rfl, rfl, f10_0, f10_1⟩
   simp only [ca_, na_]
   refine go_nil (go_endb (go_region (gM rfl rfl (gr rfl (r_bin (ot rfl) (oc rfl) rfl) (gA rfl rfl (go_nil (gs_sub (.cons_cons _ (.cons _ (.refl _))) (go_re 4 (v2 := .int .i64 ((i5 + 1 : Nat) : Int)) rfl (wrap_succ hi5 hb5) ?_))))))))
   exact Goes.weak (ih5 (r5, i5 + 1, (x10.1, x10.2.1, x10.2.2.1), z10_y0, h10) ⟨hr5, (e5.trans (e9.trans e10)), w10, hF, f10_0⟩ (Nat.lt_succ_self _)) (Sub.cons (Sub.cons (Sub.cons (Sub.cons (Sub.nil _) rfl) rfl) rfl) rfl)
theorem s_ref05_One (n : Nat) {h : Heap} (hw : Wf h) (p0 : (List TKV)) (p1 : TEvent) {a0_0 : Option Addr} {c0_0 : Nat} (f0_0 : RL R_TKV h a0_0 c0_0 p0) {r : (List TKV)} (hF : F_ref05_One n p0 p1 = some r) :
    Ev EE 38 [.slice a0_0 p0.length c0_0, .agg #[.int .i64 p1.Rev, .string p1.Key, .string p1.Val, .bool p1.Del]] h (fun v h1 => ∃ a0 c0, v = .slice a0 r.length c0 ∧ RL R_TKV h1 a0 c0 r) := by
 unfold F_ref05_One at hF
 refine ev_of hw rfl at_38 rfl rfl (go_seg0 ?_)
 refine go_seq (go_region (gs_box rfl (ot rfl) rfl (fun b3_3 => gAc rfl rfl (go_nil (go_seq (go_region (gAc rfl rfl (go_nil (go_seq (go_region (gAc rfl rfl (go_nil (go_seq ?_)))))))))))))
 obtain ⟨s4, hF, hK4⟩ := obind hF
 refine go_joinc (β := Option Addr × List Blk) (fun s h' => AccR R_TKV 56 h' s.2 (.slice s.1 s4.1.length s4.1.length) s4.1) (fun s => [(0, true, .slice a0_0 p0.length c0_0), (3, true, pt b3_3), (4, true, .slice none 0 0), (5, true, .slice s.1 s4.1.length s4.1.length), (6, true, .int .i64 s4.2)]) (fun s => (List.flatten [s.2, [⟨b3_3, .cells [.int .i64 p1.Rev, .string p1.Key, .string p1.Val, .bool p1.Del] 36⟩]] : List Blk)) ?_ (fun J4 => ?_)
 ·
  rintro ⟨a4_0, a4_1⟩ h4 e4 w4 f4_0
  replace hF := hK4
  refine go_seq (go_seq (go_region (gF (fa_36_3 _ _) rfl rfl (gls 1 ag_4 rfl rfl rfl rfl (gr rfl (r_un (ot rfl) rfl) (go_nil ?_))))))
  obtain ⟨s6, hF, hK6⟩ := obind hF
  refine go_joinc (β := Option Addr × List Blk) (fun s h' => AccR R_TKV 56 h' s.2 (.slice s.1 s6.length s6.length) s6) (fun s => [(0, true, .slice a0_0 p0.length c0_0), (3, true, pt b3_3), (4, true, .slice none 0 0), (5, true, .slice s.1 s6.length s6.length), (6, true, .int .i64 s4.2)]) (fun s => (List.flatten [s.2, [⟨b3_3, .cells [.int .i64 p1.Rev, .string p1.Key, .string p1.Val, .bool p1.Del] 36⟩]] : List Blk)) ?_ (fun J6 => ?_)
  ·
   rintro ⟨a6_0, a6_1⟩ h6 e6 w6 f6_0
   replace hF := hK6
   refine go_seq (go_seq (go_region (gM rfl rfl (gA rfl rfl (go_nil ?_)))))
   obtain ⟨s7, hF, hK7⟩ := obind hF
   refine go_joinc (β := Option Addr × List Blk) (fun s h' => AccR R_TKV 56 h' s.2 (.slice s.1 s7.length s7.length) s7) (fun s => [(4, true, .slice none 0 0), (5, true, .slice s.1 s7.length s7.length)]) (fun s => (List.flatten [s.2, [⟨b3_3, .cells [.int .i64 p1.Rev, .string p1.Key, .string p1.Val, .bool p1.Del] 36⟩]] : List Blk)) ?_ (fun J7 => ?_)
   ·
    rintro ⟨a7_0, a7_1⟩ h7 e7 w7 f7_0
    replace hF := hK7
    refine go_seq (go_region (gM rfl rfl (gA rfl rfl (go_nil ?_))))
    refine gs_accpub .z f7_0 (fun h8 e8 w8 f8_ => ?_) rfl
    obtain rfl := someI hF
    exact g_ret (rst rfl rs0) (fun h1 hf hs => ⟨(e4.trans (e6.trans (e7.trans (e8.trans hs.hext)))), ⟨_, _, rfl, (f8_.ext hs.hext.kn)⟩⟩)
   ·
    refine go_block ?_
    refine go_loop (α := Nat × (List TKV) × Int × Option Addr × List Blk × Heap) (fun a => HExt h6 a.2.2.2.2.2 ∧ Wf a.2.2.2.2.2 ∧ F_ref05_One_L1 p0 p1 a.1 a.2.1 a.2.2.1 = some s7 ∧ AccR R_TKV 56 a.2.2.2.2.2 a.2.2.2.2.1 (.slice a.2.2.2.1 a.2.1.length a.2.1.length) a.2.1) (fun a => a.1) (fun a => [(0, true, .slice a0_0 p0.length c0_0), (3, true, pt b3_3), (4, true, .slice none 0 0), (5, true, .slice a.2.2.2.1 a.2.1.length a.2.1.length), (7, true, .int .i64 a.2.2.1)]) (fun a => (List.flatten [a.2.2.2.2.1, [⟨b3_3, .cells [.int .i64 p1.Rev, .string p1.Key, .string p1.Val, .bool p1.Del] 36⟩]] : List Blk)) (fun a => a.2.2.2.2.2) ?_ (n, s6, s4.2, a6_0, a6_1, h6) ⟨HExt.refl _, w6, hF, f6_0⟩ (Sub.cons (Sub.cons (Sub.cons (Sub.cons (Sub.cons (Sub.nil _) rfl) rfl) rfl) rfl) rfl) rfl rfl
    rintro ⟨m9, y9_0, y9_1, a9_0, a9_1, h9⟩ ⟨e9, w9, hF, f9_0⟩ ih9
    rcases m9 with _ | m9
    ·
     rw [F_ref05_One_L1.eq_1] at hF; cases hF
    ·
     rw [F_ref05_One_L1.eq_2] at hF
     refine go_seq (go_seq (go_region (gM rfl rfl (gM rfl rfl (gr rfl (r_len rfl (os1 (ot rfl) os0) (fun _ _ => ln_29)) (gr rfl (r_bin (ot rfl) (ot rfl) rfl) (go_nil ?_)))))))
     refine g_cond (b := (decide (y9_1 < (p0.length : Int)))) (ot rfl) (fun hc10 => ?_) (fun hc10 => ?_)
     ·
      replace hF := ifT hc10 hF
      refine go_skip (go_seq (go_block (go_seq (go_regionq (by kernel_rfl) (gM rfl rfl (gM rfl rfl ?_))))))
      obtain ⟨x11, hx11, hF⟩ := obind hF
      obtain ⟨q11, row11, i11, cl11, rc11, sp11⟩ := ix (ik := .i64) (cap := c0_0) (E := EE) (((f0_0.ext e4.kn).ext e6.kn).ext e9.kn) hx11 ut_29 sz_56 rfl
      obtain rfl := rc11
      refine gr rfl (r_ia (ot rfl) (ot rfl) i11) (gF (fs_56_0 sp11) rfl rfl (gr rfl (r_load (ot rfl) (v := .string x11.Key) (lo_e (fun hf kn => ld_field (r := [.string x11.Key, .string x11.Val, .int .i64 x11.Rev]) ag_9 (kn.cellsAt cl11) rfl))) (gF (fa_36_1 _ _) rfl rfl (gls 1 ag_9 rfl rfl rfl rfl (gr rfl (r_bin (ot rfl) (ot rfl) rfl) (go_nil ?_))))))
      obtain ⟨s13, hF, hK13⟩ := obind hF
      refine go_joinc (β := Option Addr × List Blk) (fun s h' => AccR R_TKV 56 h' s.2 (.slice s.1 s13.length s13.length) s13) (fun s => [(0, true, .slice a0_0 p0.length c0_0), (3, true, pt b3_3), (4, true, .slice none 0 0), (5, true, .slice s.1 s13.length s13.length), (7, true, .int .i64 y9_1), (45, true, .int .i64 y9_1), (46, true, .slice a0_0 p0.length c0_0), (47, true, .int .i64 (p0.length : Int)), (48, true, .bool (decide (y9_1 < (p0.length : Int)))), (51, true, .slice a0_0 p0.length c0_0), (52, true, .int .i64 y9_1), (53, true, .pointer (some q11)), (54, true, .pointer (some ⟨q11.block, q11.off + 0, q11.spot⟩)), (55, true, .string x11.Key), (56, true, .pointer (some ⟨b3_3, 1, none⟩)), (57, true, .string p1.Key), (58, true, .bool (!eqB x11.Key p1.Key))]) (fun s => (List.flatten [s.2, [⟨b3_3, .cells [.int .i64 p1.Rev, .string p1.Key, .string p1.Val, .bool p1.Del] 36⟩]] : List Blk)) ?_ (fun J13 => ?_)
      ·
       rintro ⟨a13_0, a13_1⟩ h13 e13 w13 f13_0
       replace hF := hK13
       refine go_endb (go_region (gM rfl rfl (gr rfl (r_bin (ot rfl) (oc rfl) rfl) (gA rfl rfl (go_nil ?_)))))
       exact Goes.weak (ih9 (m9, s13, (IntKind.i64.wrap (y9_1 + 1)), a13_0, a13_1, h13) ⟨(e9.trans e13), w13, hF, f13_0⟩ (Nat.lt_succ_self _)) (Sub.cons (Sub.cons (Sub.cons (Sub.cons (Sub.cons (Sub.nil _) rfl) rfl) rfl) rfl) rfl)
      ·
       refine g_cond (b := (!eqB x11.Key p1.Key)) (ot rfl) (fun hc12 => ?_) (fun hc12 => ?_)
       ·
        replace hF := ifT hc12 hF
        refine go_region (gM rfl rfl (gM rfl rfl (gM rfl rfl ?_)))
        obtain ⟨x14, hx14, hF⟩ := obind hF
        obtain ⟨q14, row14, i14, cl14, rc14, sp14⟩ := ix (ik := .i64) (cap := c0_0) (E := EE) (((f0_0.ext e4.kn).ext e6.kn).ext e9.kn) hx14 ut_29 sz_56 rfl
        obtain rfl := rc14
        refine gr rfl (r_ia (ot rfl) (ot rfl) i14) (gr rfl (r_load (ot rfl) (v := .agg #[.string x14.Key, .string x14.Val, .int .i64 x14.Rev]) (lo_e (fun hf kn => ld_of (r := [.string x14.Key, .string x14.Val, .int .i64 x14.Rev]) ag_56 sz_56 (kn.cellsAt cl14)))) (gs_bslice (cs := [.string x14.Key, .string x14.Val, .int .i64 x14.Rev]) rfl (op1 (ot rfl) op0) ut_29 sz_56 zo_56 rfl rfl (fun b64_15 => ?_)))
        obtain ⟨x16, hx16, hF⟩ := obind hF
        obtain ⟨hr16, hz16_⟩ := appL_some hx16; subst x16
        refine gs_front (.s (.z)) (gs_app (rows2 := [[.string x14.Key, .string x14.Val, .int .i64 x14.Rev]]) (R := R_TKV) rfl (os1 (ot rfl) (os1 (ot rfl) os0)) rfl ut_29 sz_56 rfl (by decide) by_56 zo_56 rfl zs_29_29 rfl rfl (first_m (mem_seg 1 rfl) rfl (by decide)) (Rws.one (x := x14) rfl) f9_0 hr16 (fun p16_ tl16 f16_ => gA rfl rfl (go_nil ?_)))
        obtain rfl := someI hF
        refine gs_sub (.cons_cons _ (.cons _ (.cons_cons _ (.refl _)))) ?_
        exact Goes.weak (J13 (p16_, tl16) _ (HExt.refl _) w9 f16_) (Sub.cons (Sub.cons (Sub.cons (Sub.cons (Sub.cons (Sub.cons (Sub.cons (Sub.cons (Sub.cons (Sub.cons (Sub.cons (Sub.cons (Sub.cons (Sub.cons (Sub.cons (Sub.cons (Sub.cons (Sub.nil _) rfl) rfl) rfl) rfl) rfl) rfl) rfl) rfl) rfl) rfl) rfl) rfl) rfl) rfl) rfl) rfl) rfl)
       ·
        replace hF := ifF hc12 hF
        refine go_skip ?_
        obtain rfl := someI hF
        exact Goes.weak (J13 (a9_0, a9_1) _ (HExt.refl _) w9 f9_0) (Sub.cons (Sub.cons (Sub.cons (Sub.cons (Sub.cons (Sub.cons (Sub.cons (Sub.cons (Sub.cons (Sub.cons (Sub.cons (Sub.cons (Sub.cons (Sub.cons (Sub.cons (Sub.cons (Sub.cons (Sub.nil _) rfl) rfl) rfl) rfl) rfl) rfl) rfl) rfl) rfl) rfl) rfl) rfl) rfl) rfl) rfl) rfl) rfl)
     ·
      replace hF := ifF hc10 hF
      refine go_exit rfl ?_
      obtain rfl := someI hF
      exact Goes.weak (J7 (a9_0, a9_1) _ e9 w9 f9_0) (Sub.cons (Sub.cons (Sub.nil _) rfl) rfl)
  ·
   refine g_cond (b := (!p1.Del)) (ot rfl) (fun hc5 => ?_) (fun hc5 => ?_)
   ·
    replace hF := ifT hc5 hF
    refine go_region (gM rfl rfl (gF (fa_36_1 _ _) rfl rfl (gls 1 ag_9 rfl rfl rfl rfl (gF (fa_36_2 _ _) rfl rfl (gls 1 ag_9 rfl rfl rfl rfl (gF (fa_36_0 _ _) rfl rfl (gls 1 ag_3 rfl rfl rfl rfl (gr rfl (r_build (op1 (ot rfl) (op1 (ot rfl) (op1 (ot rfl) op0))) rfl) (gs_bslice (cs := [.string p1.Key, .string p1.Val, .int .i64 p1.Rev]) rfl (op1 (ot rfl) op0) ut_29 sz_56 zo_56 rfl rfl (fun b42_17 => ?_))))))))))
    obtain ⟨x18, hx18, hF⟩ := obind hF
    obtain ⟨hr18, hz18_⟩ := appL_some hx18; subst x18
    refine gs_front (.s (.z)) (gs_app (rows2 := [[.string p1.Key, .string p1.Val, .int .i64 p1.Rev]]) (R := R_TKV) rfl (os1 (ot rfl) (os1 (ot rfl) os0)) rfl ut_29 sz_56 rfl (by decide) by_56 zo_56 rfl zs_29_29 rfl rfl (first_m (mem_seg 1 rfl) rfl (by decide)) (Rws.one (x := (⟨p1.Key, p1.Val, p1.Rev⟩ : TKV)) rfl) f4_0 hr18 (fun p18_ tl18 f18_ => gA rfl rfl (go_nil ?_)))
    obtain rfl := someI hF
    refine gs_sub (.cons_cons _ (.cons _ (.cons_cons _ (.refl _)))) ?_
    exact Goes.weak (J6 (p18_, tl18) _ (HExt.refl _) w4 f18_) (Sub.cons (Sub.cons (Sub.cons (Sub.cons (Sub.cons (Sub.nil _) rfl) rfl) rfl) rfl) rfl)
   ·
    replace hF := ifF hc5 hF
    refine go_skip ?_
    obtain rfl := someI hF
    exact Goes.weak (J6 (a4_0, a4_1) _ (HExt.refl _) w4 f4_0) (Sub.cons (Sub.cons (Sub.cons (Sub.cons (Sub.cons (Sub.nil _) rfl) rfl) rfl) rfl) rfl)
 ·
  refine go_block ?_
  refine go_loop (α := (List TKV) × Nat × (List TKV) × Option Addr × List Blk × Heap) (fun a => a.1 = List.drop a.2.1 p0 ∧ HExt h a.2.2.2.2.2 ∧ Wf a.2.2.2.2.2 ∧ F_ref05_One_L2 p1 a.1 a.2.1 a.2.2.1 = some s4 ∧ AccR R_TKV 56 a.2.2.2.2.2 a.2.2.2.2.1 (.slice a.2.2.2.1 a.2.2.1.length a.2.2.1.length) a.2.2.1) (fun a => a.1.length) (fun a => [(0, true, .slice a0_0 p0.length c0_0), (3, true, pt b3_3), (4, true, .slice none 0 0), (5, true, .slice a.2.2.2.1 a.2.2.1.length a.2.2.1.length), (6, true, .int .i64 (a.2.1 : Int))]) (fun a => (List.flatten [a.2.2.2.2.1, [⟨b3_3, .cells [.int .i64 p1.Rev, .string p1.Key, .string p1.Val, .bool p1.Del] 36⟩]] : List Blk)) (fun a => a.2.2.2.2.2) ?_ (p0, 0, ([] : List TKV), none, [], h) ⟨rfl, HExt.refl _, hw, hF, (AccR.nil _ _ _)⟩ (Sub.cons (Sub.cons (Sub.cons (Sub.cons (Sub.cons (Sub.nil _) rfl) rfl) rfl) rfl) rfl) rfl rfl
  rintro ⟨r19, i19, y19_0, a19_0, a19_1, h19⟩ ⟨hr19, e19, w19, hF, f19_0⟩ ih19
  rcases r19 with _ | ⟨z19, r19⟩
  ·
   have hi19 := drop_nil hr19
   rw [F_ref05_One_L2.eq_1] at hF
   refine go_seq (go_seq (go_regionq (by kernel_rfl) (gM rfl rfl (gM rfl rfl (gr rfl (r_len rfl (os1 (ot rfl) os0) (fun _ _ => ln_29)) (gr rfl (r_bin (ot rfl) (ot rfl) rfl) (go_cast (.bool false) (congrArg Value.bool (decide_eq_false hi19)) (gM rfl rfl (g_no rfl rfl rfl rfl rfl (g_no rfl rfl rfl rfl rfl (g_no rfl rfl rfl rfl rfl (g_no rfl rfl rfl rfl rfl (g_no rfl rfl rfl rfl rfl (g_no rfl rfl rfl rfl rfl (g_no rfl rfl rfl rfl rfl (g_no rfl rfl rfl rfl rfl (gr rfl (r_pkF (ot rfl) (oc rfl)) (go_nil ?_))))))))))))))))))
   refine g_cond (b := false) (ot rfl) (fun hc20 => ?_) (fun hc20 => ?_)
   · cases hc20
   refine go_exit rfl ?_
   obtain rfl := someI hF
   exact Goes.weak (J4 (a19_0, a19_1) _ e19 w19 f19_0) (Sub.cons (Sub.cons (Sub.cons (Sub.cons (Sub.cons (Sub.nil _) rfl) rfl) rfl) rfl) rfl)
  ·
   obtain ⟨hi19, hx19, hr19⟩ := drop_cons hr19
   have hb19 := (f0_0.ext e19.kn).1
   rw [F_ref05_One_L2.eq_2] at hF
   refine go_seq (go_seq (go_regionq (by kernel_rfl) (gM rfl rfl (gM rfl rfl (gr rfl (r_len rfl (os1 (ot rfl) os0) (fun _ _ => ln_29)) (gr rfl (r_bin (ot rfl) (ot rfl) rfl) (go_cast (.bool true) (congrArg Value.bool (decide_eq_true (Int.ofNat_lt.mpr hi19))) (gM rfl rfl (g_do rfl rfl rfl (gM rfl rfl (g_do rfl rfl rfl (gM rfl rfl (g_do rfl rfl rfl ?_)))))))))))))
   obtain ⟨q21, row21, i21, cl21, rc21, sp21⟩ := ix (ik := .i64) (cap := c0_0) (E := EE) (f0_0.ext e19.kn) ((getI_nat _ _).trans hx19) ut_29 sz_56 rfl
   obtain rfl := rc21
   refine gr rfl (r_ia (ot rfl) (ot rfl) i21) (g_do rfl rfl rfl (gF (fs_56_0 sp21) rfl rfl (g_do rfl rfl rfl (gr rfl (r_load (ot rfl) (v := .string z19.Key) (lo_e (fun hf kn => ld_field (r := [.string z19.Key, .string z19.Val, .int .i64 z19.Rev]) ag_9 (kn.cellsAt cl21) rfl))) (g_do rfl rfl rfl (gF (fa_36_1 _ _) rfl rfl (g_do rfl rfl rfl (gls 1 ag_9 rfl rfl rfl rfl (g_do rfl rfl rfl (gr rfl (r_bin (ot rfl) (ot rfl) rfl) (gr rfl (r_pkT (ot rfl) (ot rfl)) (go_nil ?_))))))))))))
   refine g_cond (b := (lessB z19.Key p1.Key)) (ot rfl) (fun hc22 => ?_) (fun hc22 => ?_)
   ·
    replace hF := ifT hc22 hF
    refine go_skip (go_block (go_seq (go_region (gM rfl rfl (gM rfl rfl (gM rfl rfl ?_))))))
    obtain ⟨q23, row23, i23, cl23, rc23, sp23⟩ := ix (ik := .i64) (cap := c0_0) (E := EE) (f0_0.ext e19.kn) ((getI_nat _ _).trans hx19) ut_29 sz_56 rfl
    obtain rfl := rc23
    refine gr rfl (r_ia (ot rfl) (ot rfl) i23) (gr rfl (r_load (ot rfl) (v := .agg #[.string z19.Key, .string z19.Val, .int .i64 z19.Rev]) (lo_e (fun hf kn => ld_of (r := [.string z19.Key, .string z19.Val, .int .i64 z19.Rev]) ag_56 sz_56 (kn.cellsAt cl23)))) (gs_bslice (cs := [.string z19.Key, .string z19.Val, .int .i64 z19.Rev]) rfl (op1 (ot rfl) op0) ut_29 sz_56 zo_56 rfl rfl (fun b27_24 => ?_)))
    obtain ⟨x25, hx25, hF⟩ := obind hF
    obtain ⟨hr25, hz25_⟩ := appL_some hx25; subst x25
    refine gs_front (.s (.z)) (gs_app (rows2 := [[.string z19.Key, .string z19.Val, .int .i64 z19.Rev]]) (R := R_TKV) rfl (os1 (ot rfl) (os1 (ot rfl) os0)) rfl ut_29 sz_56 rfl (by decide) by_56 zo_56 rfl zs_29_29 rfl rfl (first_m (mem_seg 1 rfl) rfl (by decide)) (Rws.one (x := z19) rfl) f19_0 hr25 (fun p25_ tl25 f25_ => gA rfl rfl (go_nil (go_region (gM rfl rfl (gr rfl (r_bin (ot rfl) (oc rfl) rfl) (gA rfl rfl (go_nil (go_endb (gs_sub (.cons_cons _ (.cons _ (.cons_cons _ (.refl _)))) (go_re 6 (v2 := .int .i64 ((i19 + 1 : Nat) : Int)) rfl (wrap_succ hi19 hb19) ?_)))))))))))
    exact Goes.weak (ih19 (r19, i19 + 1, (y19_0 ++ ([z19] : List TKV)), p25_, tl25, h19) ⟨hr19, e19, w19, hF, f25_⟩ (Nat.lt_succ_self _)) (Sub.cons (Sub.cons (Sub.cons (Sub.cons (Sub.cons (Sub.nil _) rfl) rfl) rfl) rfl) rfl)
   ·
    replace hF := ifF hc22 hF
    refine go_exit rfl ?_
    obtain rfl := someI hF
    exact Goes.weak (J4 (a19_0, a19_1) _ e19 w19 f19_0) (Sub.cons (Sub.cons (Sub.cons (Sub.cons (Sub.cons (Sub.nil _) rfl) rfl) rfl) rfl) rfl)
theorem s_ref19_Map (n : Nat) {h : Heap} (hw : Wf h) (p0 : (List TEvent)) (p1 : Int) {a0_0 : Option Addr} {c0_0 : Nat} (f0_0 : RL R_TEvent h a0_0 c0_0 p0) {r : (List TKV)} (hF : F_ref19_Map n p0 p1 = some r) :
    Ev EE 12 [.slice a0_0 p0.length c0_0, .int .i64 p1] h (fun v h1 => ∃ a0 c0, v = .slice a0 r.length c0 ∧ RL R_TKV h1 a0 c0 r) := by
 unfold F_ref19_Map at hF
 refine ev_of hw rfl at_12 rfl rfl (go_seg0 ?_)
 refine go_seq (go_region (gAc rfl rfl (go_nil (go_seq (go_region (gAc rfl rfl (go_nil (go_seq (go_seq (go_region (gAc rfl rfl (go_nil ?_))))))))))))
 obtain ⟨s3, hF, hK3⟩ := obind hF
 refine go_joinc (β := Option Addr × Nat) (fun s h' => RL R_TKV h' s.1 s.2 s3) (fun s => [(4, true, .slice none 0 0), (5, true, .slice s.1 s3.length s.2)]) (fun s => (List.flatten [] : List Blk)) ?_ (fun J3 => ?_)
 ·
  rintro ⟨a3_0, a3_1⟩ h3 e3 w3 f3_0
  replace hF := hK3
  refine go_seq (go_region (gM rfl rfl (gA rfl rfl (go_nil ?_))))
  obtain rfl := someI hF
  exact g_ret (rst rfl rs0) (fun h1 hf hs => ⟨(e3.trans hs.hext), ⟨_, _, rfl, (f3_0.ext hs.hext.kn)⟩⟩)
 ·
  refine go_block ?_
  refine go_loop (α := (List TEvent) × Nat × (List TKV) × Option Addr × Nat × Heap) (fun a => a.1 = List.drop a.2.1 p0 ∧ HExt h a.2.2.2.2.2 ∧ Wf a.2.2.2.2.2 ∧ F_ref19_Map_L1 n p1 a.1 a.2.1 a.2.2.1 = some s3 ∧ RL R_TKV a.2.2.2.2.2 a.2.2.2.1 a.2.2.2.2.1 a.2.2.1) (fun a => a.1.length) (fun a => [(0, true, .slice a0_0 p0.length c0_0), (1, true, .int .i64 p1), (4, true, .slice none 0 0), (5, true, .slice a.2.2.2.1 a.2.2.1.length a.2.2.2.2.1), (6, true, .int .i64 (a.2.1 : Int))]) (fun a => (List.flatten [] : List Blk)) (fun a => a.2.2.2.2.2) ?_ (p0, 0, ([] : List TKV), none, 0, h) ⟨rfl, HExt.refl _, hw, hF, (RL.nil _ _ _)⟩ (Sub.cons (Sub.cons (Sub.cons (Sub.cons (Sub.cons (Sub.nil _) rfl) rfl) rfl) rfl) rfl) rfl rfl
  rintro ⟨r4, i4, y4_0, a4_0, a4_1, h4⟩ ⟨hr4, e4, w4, hF, f4_0⟩ ih4
  rcases r4 with _ | ⟨z4, r4⟩
  ·
   have hi4 := drop_nil hr4
   rw [F_ref19_Map_L1.eq_1] at hF
   refine go_seq (go_seq (go_region (gM rfl rfl (gM rfl rfl (gr rfl (r_len rfl (os1 (ot rfl) os0) (fun _ _ => ln_22)) (gr rfl (r_bin (ot rfl) (ot rfl) rfl) (go_cast (.bool false) (congrArg Value.bool (decide_eq_false hi4)) (go_nil ?_))))))))
   refine g_cond (b := false) (ot rfl) (fun hc5 => ?_) (fun hc5 => ?_)
   · cases hc5
   refine go_exit rfl ?_
   obtain rfl := someI hF
   exact Goes.weak (J3 (a4_0, a4_1) _ e4 w4 f4_0) (Sub.cons (Sub.cons (Sub.nil _) rfl) rfl)
  ·
   obtain ⟨hi4, hx4, hr4⟩ := drop_cons hr4
   have hb4 := (f0_0.ext e4.kn).1
   rw [F_ref19_Map_L1.eq_2] at hF
   refine go_seq (go_seq (go_region (gM rfl rfl (gM rfl rfl (gr rfl (r_len rfl (os1 (ot rfl) os0) (fun _ _ => ln_22)) (gr rfl (r_bin (ot rfl) (ot rfl) rfl) (go_cast (.bool true) (congrArg Value.bool (decide_eq_true (Int.ofNat_lt.mpr hi4))) (go_nil ?_))))))))
   refine g_cond (b := true) (ot rfl) (fun hc6 => ?_) (fun hc6 => ?_)
   rotate_left
   · cases hc6
   refine go_skip (go_seq (go_block (go_seq (go_region (gM rfl rfl (gM rfl rfl ?_))))))
   obtain ⟨q7, row7, i7, cl7, rc7, sp7⟩ := ix (ik := .i64) (cap := c0_0) (E := EE) (f0_0.ext e4.kn) ((getI_nat _ _).trans hx4) ut_22 sz_36 rfl
   obtain rfl := rc7
   refine gr rfl (r_ia (ot rfl) (ot rfl) i7) (gF (fs_36_0 sp7) rfl rfl (gr rfl (r_load (ot rfl) (v := .int .i64 z4.Rev) (lo_e (fun hf kn => ld_field (r := [.int .i64 z4.Rev, .string z4.Key, .string z4.Val, .bool z4.Del]) ag_3 (kn.cellsAt cl7) rfl))) (gM rfl rfl (gr rfl (r_bin (ot rfl) (ot rfl) rfl) (go_nil ?_)))))
   obtain ⟨s9, hF, hK9⟩ := obind hF
   refine go_joinc (β := Option Addr × Nat) (fun s h' => RL R_TKV h' s.1 s.2 s9) (fun s => [(0, true, .slice a0_0 p0.length c0_0), (1, true, .int .i64 p1), (4, true, .slice none 0 0), (5, true, .slice s.1 s9.length s.2), (6, true, .int .i64 (i4 : Int)), (7, true, .int .i64 (i4 : Int)), (8, true, .slice a0_0 p0.length c0_0), (9, true, .int .i64 (p0.length : Int)), (10, true, .bool true), (13, true, .slice a0_0 p0.length c0_0), (14, true, .int .i64 (i4 : Int)), (15, true, .pointer (some q7)), (16, true, .pointer (some ⟨q7.block, q7.off + 0, q7.spot⟩)), (17, true, .int .i64 z4.Rev), (18, true, .int .i64 p1), (19, true, .bool (decide (z4.Rev ≤ p1)))]) (fun s => (List.flatten [] : List Blk)) ?_ (fun J9 => ?_)
   ·
    rintro ⟨a9_0, a9_1⟩ h9 e9 w9 f9_0
    replace hF := hK9
    refine go_endb (go_region (gM rfl rfl (gr rfl (r_bin (ot rfl) (oc rfl) rfl) (gA rfl rfl (go_nil (go_re 6 (v2 := .int .i64 ((i4 + 1 : Nat) : Int)) rfl (wrap_succ hi4 hb4) ?_))))))
    exact Goes.weak (ih4 (r4, i4 + 1, s9, a9_0, a9_1, h9) ⟨hr4, (e4.trans e9), w9, hF, f9_0⟩ (Nat.lt_succ_self _)) (Sub.cons (Sub.cons (Sub.cons (Sub.cons (Sub.cons (Sub.nil _) rfl) rfl) rfl) rfl) rfl)
   ·
    refine g_cond (b := (decide (z4.Rev ≤ p1))) (ot rfl) (fun hc8 => ?_) (fun hc8 => ?_)
    ·
     replace hF := ifT hc8 hF
     refine go_region (gM rfl rfl (gM rfl rfl (gM rfl rfl ?_)))
     obtain ⟨q10, row10, i10, cl10, rc10, sp10⟩ := ix (ik := .i64) (cap := c0_0) (E := EE) (f0_0.ext e4.kn) ((getI_nat _ _).trans hx4) ut_22 sz_36 rfl
     obtain rfl := rc10
     refine gr rfl (r_ia (ot rfl) (ot rfl) i10) (gr rfl (r_load (ot rfl) (v := .agg #[.int .i64 z4.Rev, .string z4.Key, .string z4.Val, .bool z4.Del]) (lo_e (fun hf kn => ld_of (r := [.int .i64 z4.Rev, .string z4.Key, .string z4.Val, .bool z4.Del]) ag_36 sz_36 (kn.cellsAt cl10)))) ?_)
     obtain ⟨x11, hx11, hF⟩ := obind hF
     refine g_call EE_fr (fun _ h => by cases h; rfl) of (os1 (ot rfl) (os1 (ot rfl) os0)) hb_38 (fun hf kn w => by exact s_ref05_One n w y4_0 z4 (f4_0.ext kn) hx11) ?_
     rintro v11 h11 e11 w11 ⟨a11_0, c11_0, rfl, f11_0⟩
     refine gA rfl rfl (go_nil ?_)
     obtain rfl := someI hF
     exact Goes.weak (J9 (a11_0, c11_0) _ e11 w11 f11_0) (Sub.cons (Sub.cons (Sub.cons (Sub.cons (Sub.cons (Sub.cons (Sub.cons (Sub.cons (Sub.cons (Sub.cons (Sub.cons (Sub.cons (Sub.cons (Sub.cons (Sub.cons (Sub.cons (Sub.nil _) rfl) rfl) rfl) rfl) rfl) rfl) rfl) rfl) rfl) rfl) rfl) rfl) rfl) rfl) rfl) rfl)
    ·
     replace hF := ifF hc8 hF
     refine go_skip ?_
     obtain rfl := someI hF
     exact Goes.weak (J9 (a4_0, a4_1) _ (HExt.refl _) w4 f4_0) (Sub.cons (Sub.cons (Sub.cons (Sub.cons (Sub.cons (Sub.cons (Sub.cons (Sub.cons (Sub.cons (Sub.cons (Sub.cons (Sub.cons (Sub.cons (Sub.cons (Sub.cons (Sub.cons (Sub.nil _) rfl) rfl) rfl) rfl) rfl) rfl) rfl) rfl) rfl) rfl) rfl) rfl) rfl) rfl) rfl) rfl)
theorem s_ref19_Key {h : Heap} (hw : Wf h) (p0 : (List TKV)) (p1 : ByteArray) {a0_0 : Option Addr} {c0_0 : Nat} (f0_0 : RL R_TKV h a0_0 c0_0 p0) {r : (List TKV)} (hF : F_ref19_Key p0 p1 = some r) :
    Ev EE 17 [.slice a0_0 p0.length c0_0, .string p1] h (fun v h1 => ∃ a0 c0, v = .slice a0 r.length c0 ∧ RL R_TKV h1 a0 c0 r) := by
 unfold F_ref19_Key at hF
 refine ev_of hw rfl at_17 rfl rfl (go_seg0 ?_)
 refine go_seq (go_region (gAc rfl rfl (go_nil (go_seq (go_region (gAc rfl rfl (go_nil (go_seq (go_seq (go_region (gAc rfl rfl (go_nil ?_))))))))))))
 obtain ⟨s3, hF, hK3⟩ := obind hF
 refine go_joinc (β := Option Addr × List Blk) (fun s h' => AccR R_TKV 56 h' s.2 (.slice s.1 s3.length s3.length) s3) (fun s => [(4, true, .slice none 0 0), (5, true, .slice s.1 s3.length s3.length)]) (fun s => (List.flatten [s.2] : List Blk)) ?_ (fun J3 => ?_)
 ·
  rintro ⟨a3_0, a3_1⟩ h3 e3 w3 f3_0
  replace hF := hK3
  refine go_seq (go_region (gM rfl rfl (gA rfl rfl (go_nil ?_))))
  refine gs_accpub .z f3_0 (fun h4 e4 w4 f4_ => ?_) rfl
  obtain rfl := someI hF
  exact g_ret (rst rfl rs0) (fun h1 hf hs => ⟨(e3.trans (e4.trans hs.hext)), ⟨_, _, rfl, (f4_.ext hs.hext.kn)⟩⟩)
 ·
  refine go_block ?_
  refine go_loop (α := (List TKV) × Nat × (List TKV) × Option Addr × List Blk × Heap) (fun a => a.1 = List.drop a.2.1 p0 ∧ HExt h a.2.2.2.2.2 ∧ Wf a.2.2.2.2.2 ∧ F_ref19_Key_L1 p1 a.1 a.2.1 a.2.2.1 = some s3 ∧ AccR R_TKV 56 a.2.2.2.2.2 a.2.2.2.2.1 (.slice a.2.2.2.1 a.2.2.1.length a.2.2.1.length) a.2.2.1) (fun a => a.1.length) (fun a => [(0, true, .slice a0_0 p0.length c0_0), (1, true, .string p1), (4, true, .slice none 0 0), (5, true, .slice a.2.2.2.1 a.2.2.1.length a.2.2.1.length), (6, true, .int .i64 (a.2.1 : Int))]) (fun a => (List.flatten [a.2.2.2.2.1] : List Blk)) (fun a => a.2.2.2.2.2) ?_ (p0, 0, ([] : List TKV), none, [], h) ⟨rfl, HExt.refl _, hw, hF, (AccR.nil _ _ _)⟩ (Sub.cons (Sub.cons (Sub.cons (Sub.cons (Sub.cons (Sub.nil _) rfl) rfl) rfl) rfl) rfl) rfl rfl
  rintro ⟨r5, i5, y5_0, a5_0, a5_1, h5⟩ ⟨hr5, e5, w5, hF, f5_0⟩ ih5
  rcases r5 with _ | ⟨z5, r5⟩
  ·
   have hi5 := drop_nil hr5
   rw [F_ref19_Key_L1.eq_1] at hF
   refine go_seq (go_seq (go_region (gM rfl rfl (gM rfl rfl (gr rfl (r_len rfl (os1 (ot rfl) os0) (fun _ _ => ln_29)) (gr rfl (r_bin (ot rfl) (ot rfl) rfl) (go_cast (.bool false) (congrArg Value.bool (decide_eq_false hi5)) (go_nil ?_))))))))
   refine g_cond (b := false) (ot rfl) (fun hc6 => ?_) (fun hc6 => ?_)
   · cases hc6
   refine go_exit rfl ?_
   obtain rfl := someI hF
   exact Goes.weak (J3 (a5_0, a5_1) _ e5 w5 f5_0) (Sub.cons (Sub.cons (Sub.nil _) rfl) rfl)
  ·
   obtain ⟨hi5, hx5, hr5⟩ := drop_cons hr5
   have hb5 := (f0_0.ext e5.kn).1
   rw [F_ref19_Key_L1.eq_2] at hF
   refine go_seq (go_seq (go_region (gM rfl rfl (gM rfl rfl (gr rfl (r_len rfl (os1 (ot rfl) os0) (fun _ _ => ln_29)) (gr rfl (r_bin (ot rfl) (ot rfl) rfl) (go_cast (.bool true) (congrArg Value.bool (decide_eq_true (Int.ofNat_lt.mpr hi5))) (go_nil ?_))))))))
   refine g_cond (b := true) (ot rfl) (fun hc7 => ?_) (fun hc7 => ?_)
   rotate_left
   · cases hc7
   refine go_skip (go_seq (go_block (go_seq (go_region (gM rfl rfl (gM rfl rfl ?_))))))
   obtain ⟨q8, row8, i8, cl8, rc8, sp8⟩ := ix (ik := .i64) (cap := c0_0) (E := EE) (f0_0.ext e5.kn) ((getI_nat _ _).trans hx5) ut_29 sz_56 rfl
   obtain rfl := rc8
   refine gr rfl (r_ia (ot rfl) (ot rfl) i8) (gF (fs_56_0 sp8) rfl rfl (gr rfl (r_load (ot rfl) (v := .string z5.Key) (lo_e (fun hf kn => ld_field (r := [.string z5.Key, .string z5.Val, .int .i64 z5.Rev]) ag_9 (kn.cellsAt cl8) rfl))) (gM rfl rfl (gr rfl (r_bin (ot rfl) (ot rfl) rfl) (go_nil ?_)))))
   obtain ⟨s10, hF, hK10⟩ := obind hF
   refine go_joinc (β := Option Addr × List Blk) (fun s h' => AccR R_TKV 56 h' s.2 (.slice s.1 s10.length s10.length) s10) (fun s => [(0, true, .slice a0_0 p0.length c0_0), (1, true, .string p1), (4, true, .slice none 0 0), (5, true, .slice s.1 s10.length s10.length), (6, true, .int .i64 (i5 : Int)), (7, true, .int .i64 (i5 : Int)), (8, true, .slice a0_0 p0.length c0_0), (9, true, .int .i64 (p0.length : Int)), (10, true, .bool true), (13, true, .slice a0_0 p0.length c0_0), (14, true, .int .i64 (i5 : Int)), (15, true, .pointer (some q8)), (16, true, .pointer (some ⟨q8.block, q8.off + 0, q8.spot⟩)), (17, true, .string z5.Key), (18, true, .string p1), (19, true, .bool (eqB z5.Key p1))]) (fun s => (List.flatten [s.2] : List Blk)) ?_ (fun J10 => ?_)
   ·
    rintro ⟨a10_0, a10_1⟩ h10 e10 w10 f10_0
    replace hF := hK10
    refine go_endb (go_region (gM rfl rfl (gr rfl (r_bin (ot rfl) (oc rfl) rfl) (gA rfl rfl (go_nil (go_re 6 (v2 := .int .i64 ((i5 + 1 : Nat) : Int)) rfl (wrap_succ hi5 hb5) ?_))))))
    exact Goes.weak (ih5 (r5, i5 + 1, s10, a10_0, a10_1, h10) ⟨hr5, (e5.trans e10), w10, hF, f10_0⟩ (Nat.lt_succ_self _)) (Sub.cons (Sub.cons (Sub.cons (Sub.cons (Sub.cons (Sub.nil _) rfl) rfl) rfl) rfl) rfl)
   ·
    refine g_cond (b := (eqB z5.Key p1)) (ot rfl) (fun hc9 => ?_) (fun hc9 => ?_)
    ·
     replace hF := ifT hc9 hF
     refine go_region (gM rfl rfl (gM rfl rfl (gM rfl rfl ?_)))
     obtain ⟨q11, row11, i11, cl11, rc11, sp11⟩ := ix (ik := .i64) (cap := c0_0) (E := EE) (f0_0.ext e5.kn) ((getI_nat _ _).trans hx5) ut_29 sz_56 rfl
     obtain rfl := rc11
     refine gr rfl (r_ia (ot rfl) (ot rfl) i11) (gr rfl (r_load (ot rfl) (v := .agg #[.string z5.Key, .string z5.Val, .int .i64 z5.Rev]) (lo_e (fun hf kn => ld_of (r := [.string z5.Key, .string z5.Val, .int .i64 z5.Rev]) ag_56 sz_56 (kn.cellsAt cl11)))) (gs_bslice (cs := [.string z5.Key, .string z5.Val, .int .i64 z5.Rev]) rfl (op1 (ot rfl) op0) ut_29 sz_56 zo_56 rfl rfl (fun b25_12 => ?_)))
     obtain ⟨x13, hx13, hF⟩ := obind hF
     obtain ⟨hr13, hz13_⟩ := appL_some hx13; subst x13
     refine gs_front (.s (.z)) (gs_app (rows2 := [[.string z5.Key, .string z5.Val, .int .i64 z5.Rev]]) (R := R_TKV) rfl (os1 (ot rfl) (os1 (ot rfl) os0)) rfl ut_29 sz_56 rfl (by decide) by_56 zo_56 rfl zs_29_29 rfl rfl (first_m (mem_seg 1 rfl) rfl (by decide)) (Rws.one (x := z5) rfl) f5_0 hr13 (fun p13_ tl13 f13_ => gA rfl rfl (go_nil ?_)))
     obtain rfl := someI hF
     refine gs_sub (.cons_cons _ (.cons _ (.refl _))) ?_
     exact Goes.weak (J10 (p13_, tl13) _ (HExt.refl _) w5 f13_) (Sub.cons (Sub.cons (Sub.cons (Sub.cons (Sub.cons (Sub.cons (Sub.cons (Sub.cons (Sub.cons (Sub.cons (Sub.cons (Sub.cons (Sub.cons (Sub.cons (Sub.cons (Sub.cons (Sub.nil _) rfl) rfl) rfl) rfl) rfl) rfl) rfl) rfl) rfl) rfl) rfl) rfl) rfl) rfl) rfl) rfl)
    ·
     replace hF := ifF hc9 hF
     refine go_skip ?_
     obtain rfl := someI hF
     exact Goes.weak (J10 (a5_0, a5_1) _ (HExt.refl _) w5 f5_0) (Sub.cons (Sub.cons (Sub.cons (Sub.cons (Sub.cons (Sub.cons (Sub.cons (Sub.cons (Sub.cons (Sub.cons (Sub.cons (Sub.cons (Sub.cons (Sub.cons (Sub.cons (Sub.cons (Sub.nil _) rfl) rfl) rfl) rfl) rfl) rfl) rfl) rfl) rfl) rfl) rfl) rfl) rfl) rfl) rfl) rfl)
theorem s_ref05_KVs {h : Heap} (hw : Wf h) (p0 : (List TKV)) (p1 : (List TKV)) {a0_0 : Option Addr} {c0_0 : Nat} {a1_0 : Option Addr} {c1_0 : Nat} (f0_0 : RL R_TKV h a0_0 c0_0 p0) (f1_0 : RL R_TKV h a1_0 c1_0 p1) {r : Bool} (hF : F_ref05_KVs p0 p1 = some r) :
    Ev EE 13 [.slice a0_0 p0.length c0_0, .slice a1_0 p1.length c1_0] h (fun v _ => v = .bool r) := by
 unfold F_ref05_KVs at hF
 refine ev_of hw rfl at_13 rfl rfl (go_seg0 ?_)
 refine go_seq (go_region (gAc rfl rfl (go_nil (go_seq (go_seq (go_region (gM rfl rfl (gr rfl (r_len rfl (os1 (ot rfl) os0) (fun _ _ => ln_29)) (gM rfl rfl (gr rfl (r_len rfl (os1 (ot rfl) os0) (fun _ _ => ln_29)) (gr rfl (r_bin (ot rfl) (ot rfl) rfl) (go_nil ?_))))))))))))
 refine g_cond (b := ((p0.length : Int) != (p1.length : Int))) (ot rfl) (fun hc3 => ?_) (fun hc3 => ?_)
 ·
  replace hF := ifT hc3 hF
  refine go_seq (go_region (gAc rfl rfl (go_nil ?_)))
  obtain rfl := someI hF
  exact g_ret (rst rfl rs0) (fun h1 hf hs => ⟨hs.hext, rfl⟩)
 ·
  replace hF := ifF hc3 hF
  refine go_skip (go_seq (go_seq (go_region (gAc rfl rfl (go_nil ?_)))))
  obtain ⟨s4, hF, hK4⟩ := obind hF
  refine go_joinc (β := (Unit)) (fun s h' => s4 = .go s) (fun s => [(4, true, .bool false)]) (fun s => (List.flatten [] : List Blk)) ?_ (fun J4 => ?_)
  ·
   rintro _ h4 e4 w4 hs4
   subst hs4
   replace hF := lpgo hK4
   refine go_seq (go_region (gAc rfl rfl (go_nil ?_)))
   obtain rfl := someI hF
   exact g_ret (rst rfl rs0) (fun h1 hf hs => ⟨(e4.trans hs.hext), rfl⟩)
  ·
   refine go_block ?_
   refine go_loop (α := (List TKV) × Nat × Heap) (fun a => a.1 = List.drop a.2.1 p0 ∧ HExt h a.2.2 ∧ Wf a.2.2 ∧ F_ref05_KVs_L1 p1 a.1 a.2.1 = some s4) (fun a => a.1.length) (fun a => [(0, true, .slice a0_0 p0.length c0_0), (1, true, .slice a1_0 p1.length c1_0), (4, true, .bool false), (5, true, .int .i64 (a.2.1 : Int))]) (fun a => (List.flatten [] : List Blk)) (fun a => a.2.2) ?_ (p0, 0, h) ⟨rfl, HExt.refl _, hw, hF⟩ (Sub.cons (Sub.cons (Sub.cons (Sub.cons (Sub.nil _) rfl) rfl) rfl) rfl) rfl rfl
   rintro ⟨r5, i5, h5⟩ ⟨hr5, e5, w5, hF⟩ ih5
   rcases r5 with _ | ⟨z5, r5⟩
   ·
    have hi5 := drop_nil hr5
    rw [F_ref05_KVs_L1.eq_1] at hF
    refine go_seq (go_seq (go_region (gM rfl rfl (gM rfl rfl (gr rfl (r_len rfl (os1 (ot rfl) os0) (fun _ _ => ln_29)) (gr rfl (r_bin (ot rfl) (ot rfl) rfl) (go_cast (.bool false) (congrArg Value.bool (decide_eq_false hi5)) (go_nil ?_))))))))
    refine g_cond (b := false) (ot rfl) (fun hc6 => ?_) (fun hc6 => ?_)
    · cases hc6
    refine go_exit rfl ?_
    obtain rfl := someI hF
    exact Goes.weak (J4 () _ e5 w5 rfl) (Sub.cons (Sub.nil _) rfl)
   ·
    obtain ⟨hi5, hx5, hr5⟩ := drop_cons hr5
    have hb5 := (f0_0.ext e5.kn).1
    rw [F_ref05_KVs_L1.eq_2] at hF
    refine go_seq (go_seq (go_region (gM rfl rfl (gM rfl rfl (gr rfl (r_len rfl (os1 (ot rfl) os0) (fun _ _ => ln_29)) (gr rfl (r_bin (ot rfl) (ot rfl) rfl) (go_cast (.bool true) (congrArg Value.bool (decide_eq_true (Int.ofNat_lt.mpr hi5))) (go_nil ?_))))))))
    refine g_cond (b := true) (ot rfl) (fun hc7 => ?_) (fun hc7 => ?_)
    rotate_left
    · cases hc7
    refine go_skip (go_seq (go_block (go_seq (go_regionq (by kernel_rfl) (gM rfl rfl (gM rfl rfl ?_))))))
    obtain ⟨q8, row8, i8, cl8, rc8, sp8⟩ := ix (ik := .i64) (cap := c0_0) (E := EE) (f0_0.ext e5.kn) ((getI_nat _ _).trans hx5) ut_29 sz_56 rfl
    obtain rfl := rc8
    refine gr rfl (r_ia (ot rfl) (ot rfl) i8) (gr rfl (r_load (ot rfl) (v := .agg #[.string z5.Key, .string z5.Val, .int .i64 z5.Rev]) (lo_e (fun hf kn => ld_of (r := [.string z5.Key, .string z5.Val, .int .i64 z5.Rev]) ag_56 sz_56 (kn.cellsAt cl8)))) (gM rfl rfl (gM rfl rfl ?_)))
    obtain ⟨x9, hx9, hF⟩ := obind hF
    obtain ⟨q9, row9, i9, cl9, rc9, sp9⟩ := ix (ik := .i64) (cap := c1_0) (E := EE) (f1_0.ext e5.kn) hx9 ut_29 sz_56 rfl
    obtain rfl := rc9
    refine gr rfl (r_ia (ot rfl) (ot rfl) i9) (gr rfl (r_load (ot rfl) (v := .agg #[.string x9.Key, .string x9.Val, .int .i64 x9.Rev]) (lo_e (fun hf kn => ld_of (r := [.string x9.Key, .string x9.Val, .int .i64 x9.Rev]) ag_56 sz_56 (kn.cellsAt cl9)))) (gr rfl (r_bin (ot rfl) (ot rfl) bn_56) (go_nil ?_)))
    refine g_cond (b := (!(eq_TKV z5 x9))) (ot rfl) (fun hc10 => ?_) (fun hc10 => ?_)
    ·
     replace hF := ifT hc10 hF
     refine go_seq (go_region (gAc rfl rfl (go_nil ?_)))
     obtain rfl := someI hF
     obtain rfl := someI hK4
     exact g_ret (rst rfl rs0) (fun h1 hf hs => ⟨(e5.trans hs.hext), rfl⟩)
    ·
     replace hF := ifF hc10 hF
     refine go_skip (go_endb (go_region (gM rfl rfl (gr rfl (r_bin (ot rfl) (oc rfl) rfl) (gA rfl rfl (go_nil (go_re 5 (v2 := .int .i64 ((i5 + 1 : Nat) : Int)) rfl (wrap_succ hi5 hb5) ?_)))))))
     exact Goes.weak (ih5 (r5, i5 + 1, h5) ⟨hr5, e5, w5, hF⟩ (Nat.lt_succ_self _)) (Sub.cons (Sub.cons (Sub.cons (Sub.cons (Sub.nil _) rfl) rfl) rfl) rfl)
theorem s_ref04_In {h : Heap} (hw : Wf h) (p0 : TRange) (p1 : ByteArray)   {r : Bool} (hF : F_ref04_In p0 p1 = some r) :
    Ev EE 49 [.agg #[.string p0.From, .string p0.To], .string p1] h (fun v _ => v = .bool r) := by
 unfold F_ref04_In at hF
 refine ev_of hw rfl at_49 rfl rfl (go_seg0 ?_)
 refine go_seq (go_region (gs_box rfl (ot rfl) rfl (fun b2_3 => gAc rfl rfl (go_nil (go_seq (go_region (gM rfl rfl (gF (fa_24_0 _ _) rfl rfl (gls 0 ag_9 rfl rfl rfl rfl (gr rfl (r_bin (ot rfl) (ot rfl) rfl) (gM rfl rfl (grt rfl rfl rfl rfl (r_fa (ot rfl) (fa_24_1 _ _)) (grt rfl rfl rfl rfl (r_load (og rfl id) (lm_s (mem_seg 0 rfl) ag_9 rfl)) (grt rfl rfl rfl rfl (r_bin (og rfl id) (oc rfl) rfl) (grt rfl rfl rfl rfl (r_move (og rfl id)) (grf' rfl rfl rfl rfl (r_move (ot rfl)) (grf' rfl rfl rfl rfl (r_fa (ot rfl) (fa_24_1 _ _)) (grf' rfl rfl rfl rfl (r_load (og rfl id) (lm_s (mem_seg 0 rfl) ag_9 rfl)) (grf' rfl rfl rfl rfl (r_bin (og rfl id) (og rfl id) rfl) (grt rfl rfl rfl rfl (r_pickb (og rfl id) (oc rfl) (og rfl id)) (gr rfl (r_pickb (ot rfl) (og rfl id) (oc rfl)) (gA rfl rfl (go_nil ?_)))))))))))))))))))))))
 obtain rfl := someI hF
 exact g_ret (rst rfl rs0) (fun h1 hf hs => ⟨hs.hext, rfl⟩)
theorem s_ref05_Restrict {h : Heap} (hw : Wf h) (p0 : (List TKV)) (p1 : TRange) {a0_0 : Option Addr} {c0_0 : Nat} (f0_0 : RL R_TKV h a0_0 c0_0 p0) {r : (List TKV)} (hF : F_ref05_Restrict p0 p1 = some r) :
    Ev EE 19 [.slice a0_0 p0.length c0_0, .agg #[.string p1.From, .string p1.To]] h (fun v h1 => ∃ a0 c0, v = .slice a0 r.length c0 ∧ RL R_TKV h1 a0 c0 r) := by
 unfold F_ref05_Restrict at hF
 refine ev_of hw rfl at_19 rfl rfl (go_seg0 ?_)
 refine go_seq (go_region (gs_box rfl (ot rfl) rfl (fun b3_3 => gAc rfl rfl (go_nil (go_seq (go_region (gAc rfl rfl (go_nil (go_seq (go_seq (go_region (gAc rfl rfl (go_nil ?_)))))))))))))
 obtain ⟨s4, hF, hK4⟩ := obind hF
 refine go_joinc (β := Option Addr × List Blk) (fun s h' => AccR R_TKV 56 h' s.2 (.slice s.1 s4.length s4.length) s4) (fun s => [(4, true, .slice none 0 0), (5, true, .slice s.1 s4.length s4.length)]) (fun s => (List.flatten [s.2, [⟨b3_3, .cells [.string p1.From, .string p1.To] 24⟩]] : List Blk)) ?_ (fun J4 => ?_)
 ·
  rintro ⟨a4_0, a4_1⟩ h4 e4 w4 f4_0
  replace hF := hK4
  refine go_seq (go_region (gM rfl rfl (gA rfl rfl (go_nil ?_))))
  refine gs_accpub .z f4_0 (fun h5 e5 w5 f5_ => ?_) rfl
  obtain rfl := someI hF
  exact g_ret (rst rfl rs0) (fun h1 hf hs => ⟨(e4.trans (e5.trans hs.hext)), ⟨_, _, rfl, (f5_.ext hs.hext.kn)⟩⟩)
 ·
  refine go_block ?_
  refine go_loop (α := (List TKV) × Nat × (List TKV) × Option Addr × List Blk × Heap) (fun a => a.1 = List.drop a.2.1 p0 ∧ HExt h a.2.2.2.2.2 ∧ Wf a.2.2.2.2.2 ∧ F_ref05_Restrict_L1 p1 a.1 a.2.1 a.2.2.1 = some s4 ∧ AccR R_TKV 56 a.2.2.2.2.2 a.2.2.2.2.1 (.slice a.2.2.2.1 a.2.2.1.length a.2.2.1.length) a.2.2.1) (fun a => a.1.length) (fun a => [(0, true, .slice a0_0 p0.length c0_0), (3, true, pt b3_3), (4, true, .slice none 0 0), (5, true, .slice a.2.2.2.1 a.2.2.1.length a.2.2.1.length), (6, true, .int .i64 (a.2.1 : Int))]) (fun a => (List.flatten [a.2.2.2.2.1, [⟨b3_3, .cells [.string p1.From, .string p1.To] 24⟩]] : List Blk)) (fun a => a.2.2.2.2.2) ?_ (p0, 0, ([] : List TKV), none, [], h) ⟨rfl, HExt.refl _, hw, hF, (AccR.nil _ _ _)⟩ (Sub.cons (Sub.cons (Sub.cons (Sub.cons (Sub.cons (Sub.nil _) rfl) rfl) rfl) rfl) rfl) rfl rfl
  rintro ⟨r6, i6, y6_0, a6_0, a6_1, h6⟩ ⟨hr6, e6, w6, hF, f6_0⟩ ih6
  rcases r6 with _ | ⟨z6, r6⟩
  ·
   have hi6 := drop_nil hr6
   rw [F_ref05_Restrict_L1.eq_1] at hF
   refine go_seq (go_seq (go_region (gM rfl rfl (gM rfl rfl (gr rfl (r_len rfl (os1 (ot rfl) os0) (fun _ _ => ln_29)) (gr rfl (r_bin (ot rfl) (ot rfl) rfl) (go_cast (.bool false) (congrArg Value.bool (decide_eq_false hi6)) (go_nil ?_))))))))
   refine g_cond (b := false) (ot rfl) (fun hc7 => ?_) (fun hc7 => ?_)
   · cases hc7
   refine go_exit rfl ?_
   obtain rfl := someI hF
   exact Goes.weak (J4 (a6_0, a6_1) _ e6 w6 f6_0) (Sub.cons (Sub.cons (Sub.nil _) rfl) rfl)
  ·
   obtain ⟨hi6, hx6, hr6⟩ := drop_cons hr6
   have hb6 := (f0_0.ext e6.kn).1
   rw [F_ref05_Restrict_L1.eq_2] at hF
   refine go_seq (go_seq (go_region (gM rfl rfl (gM rfl rfl (gr rfl (r_len rfl (os1 (ot rfl) os0) (fun _ _ => ln_29)) (gr rfl (r_bin (ot rfl) (ot rfl) rfl) (go_cast (.bool true) (congrArg Value.bool (decide_eq_true (Int.ofNat_lt.mpr hi6))) (go_nil ?_))))))))
   refine g_cond (b := true) (ot rfl) (fun hc8 => ?_) (fun hc8 => ?_)
   rotate_left
   · cases hc8
   refine go_skip (go_seq (go_block (go_seq (go_regions (L := sq 0 7) (by kernel_rfl) (by kernel_rfl) (fun _ => rfl) (go_sop rfl rfl (glw 1 ag_24 sz_24 rfl rfl rfl rfl (go_nil (go_sop rfl rfl (gM rfl rfl (go_nil (go_sop rfl rfl (gM rfl rfl (go_nil (go_sop rfl rfl ?_))))))))))))))
   obtain ⟨q9, row9, i9, cl9, rc9, sp9⟩ := ix (ik := .i64) (cap := c0_0) (E := EE) (f0_0.ext e6.kn) ((getI_nat _ _).trans hx6) ut_29 sz_56 rfl
   obtain rfl := rc9
   refine gr rfl (r_ia (ot rfl) (ot rfl) i9) (go_nil (go_sop rfl rfl (gF (fs_56_0 sp9) rfl rfl (go_nil (go_sop rfl rfl (gr rfl (r_load (ot rfl) (v := .string z6.Key) (lo_e (fun hf kn => ld_field (r := [.string z6.Key, .string z6.Val, .int .i64 z6.Rev]) ag_9 (kn.cellsAt cl9) rfl))) (go_nil (go_sop rfl rfl ?_))))))))
   obtain ⟨x10, hx10, hF⟩ := obind hF
   refine g_callp (v := .bool x10) EE_fr rfl of (os1 (ot rfl) (os1 (ot rfl) os0)) hb_49 (fun _ => rfl) (fun hf kn w => by exact s_ref04_In w p1 z6.Key  hx10) (go_nil (go_snil ?_))
   obtain ⟨s12, hF, hK12⟩ := obind hF
   refine go_joinc (β := Option Addr × List Blk) (fun s h' => AccR R_TKV 56 h' s.2 (.slice s.1 s12.length s12.length) s12) (fun s => [(0, true, .slice a0_0 p0.length c0_0), (3, true, pt b3_3), (4, true, .slice none 0 0), (5, true, .slice s.1 s12.length s12.length), (6, true, .int .i64 (i6 : Int)), (7, true, .int .i64 (i6 : Int)), (8, true, .slice a0_0 p0.length c0_0), (9, true, .int .i64 (p0.length : Int)), (10, true, .bool true), (13, true, .agg #[.string p1.From, .string p1.To]), (14, true, .slice a0_0 p0.length c0_0), (15, true, .int .i64 (i6 : Int)), (16, true, .pointer (some q9)), (17, true, .pointer (some ⟨q9.block, q9.off + 0, q9.spot⟩)), (18, true, .string z6.Key), (19, true, .bool x10)]) (fun s => (List.flatten [s.2, [⟨b3_3, .cells [.string p1.From, .string p1.To] 24⟩]] : List Blk)) ?_ (fun J12 => ?_)
   ·
    rintro ⟨a12_0, a12_1⟩ h12 e12 w12 f12_0
    replace hF := hK12
    refine go_endb (go_region (gM rfl rfl (gr rfl (r_bin (ot rfl) (oc rfl) rfl) (gA rfl rfl (go_nil (go_re 6 (v2 := .int .i64 ((i6 + 1 : Nat) : Int)) rfl (wrap_succ hi6 hb6) ?_))))))
    exact Goes.weak (ih6 (r6, i6 + 1, s12, a12_0, a12_1, h12) ⟨hr6, (e6.trans e12), w12, hF, f12_0⟩ (Nat.lt_succ_self _)) (Sub.cons (Sub.cons (Sub.cons (Sub.cons (Sub.cons (Sub.nil _) rfl) rfl) rfl) rfl) rfl)
   ·
    refine g_cond (b := x10) (ot rfl) (fun hc11 => ?_) (fun hc11 => ?_)
    ·
     replace hF := ifT hc11 hF
     refine go_region (gM rfl rfl (gM rfl rfl (gM rfl rfl ?_)))
     obtain ⟨q13, row13, i13, cl13, rc13, sp13⟩ := ix (ik := .i64) (cap := c0_0) (E := EE) (f0_0.ext e6.kn) ((getI_nat _ _).trans hx6) ut_29 sz_56 rfl
     obtain rfl := rc13
     refine gr rfl (r_ia (ot rfl) (ot rfl) i13) (gr rfl (r_load (ot rfl) (v := .agg #[.string z6.Key, .string z6.Val, .int .i64 z6.Rev]) (lo_e (fun hf kn => ld_of (r := [.string z6.Key, .string z6.Val, .int .i64 z6.Rev]) ag_56 sz_56 (kn.cellsAt cl13)))) (gs_bslice (cs := [.string z6.Key, .string z6.Val, .int .i64 z6.Rev]) rfl (op1 (ot rfl) op0) ut_29 sz_56 zo_56 rfl rfl (fun b25_14 => ?_)))
     obtain ⟨x15, hx15, hF⟩ := obind hF
     obtain ⟨hr15, hz15_⟩ := appL_some hx15; subst x15
     refine gs_front (.s (.z)) (gs_app (rows2 := [[.string z6.Key, .string z6.Val, .int .i64 z6.Rev]]) (R := R_TKV) rfl (os1 (ot rfl) (os1 (ot rfl) os0)) rfl ut_29 sz_56 rfl (by decide) by_56 zo_56 rfl zs_29_29 rfl rfl (first_m (mem_seg 1 rfl) rfl (by decide)) (Rws.one (x := z6) rfl) f6_0 hr15 (fun p15_ tl15 f15_ => gA rfl rfl (go_nil ?_)))
     obtain rfl := someI hF
     refine gs_sub (.cons_cons _ (.cons _ (.cons_cons _ (.refl _)))) ?_
     exact Goes.weak (J12 (p15_, tl15) _ (HExt.refl _) w6 f15_) (Sub.cons (Sub.cons (Sub.cons (Sub.cons (Sub.cons (Sub.cons (Sub.cons (Sub.cons (Sub.cons (Sub.cons (Sub.cons (Sub.cons (Sub.cons (Sub.cons (Sub.cons (Sub.cons (Sub.nil _) rfl) rfl) rfl) rfl) rfl) rfl) rfl) rfl) rfl) rfl) rfl) rfl) rfl) rfl) rfl) rfl)
    ·
     replace hF := ifF hc11 hF
     refine go_skip ?_
     obtain rfl := someI hF
     exact Goes.weak (J12 (a6_0, a6_1) _ (HExt.refl _) w6 f6_0) (Sub.cons (Sub.cons (Sub.cons (Sub.cons (Sub.cons (Sub.cons (Sub.cons (Sub.cons (Sub.cons (Sub.cons (Sub.cons (Sub.cons (Sub.cons (Sub.cons (Sub.cons (Sub.cons (Sub.nil _) rfl) rfl) rfl) rfl) rfl) rfl) rfl) rfl) rfl) rfl) rfl) rfl) rfl) rfl) rfl) rfl)
end Go.Proofs.YtndhbaidibioeaaGreat.V
