/- Walks.
   No condition: these are laws of the clean machine and of this program. -/
import Derived.Test.YtcjcbcmapjcfnaaPT
namespace Go.Proofs.Ytcjcbcmapjcfnaa.V
open Go
set_option linter.unusedVariables false
set_option linter.unusedSimpArgs false
set_option maxRecDepth 100000
set_option maxHeartbeats 4000000
theorem s_ref05_Events {h : Heap} (hw : Wf h) (p0 : (List TEvent)) (p1 : (List TEvent)) {a0_0 : Option Addr} {c0_0 : Nat} {a1_0 : Option Addr} {c1_0 : Nat} (f0_0 : RL R_TEvent h a0_0 c0_0 p0) (f1_0 : RL R_TEvent h a1_0 c1_0 p1) {r : Bool} (hF : F_ref05_Events p0 p1 = some r) :
    Ev EE 13 [.slice a0_0 p0.length c0_0, .slice a1_0 p1.length c1_0] h (fun v _ => v = .bool r) := by
  unfold F_ref05_Events at hF
  refine ev_of hw rfl at_13 rfl rfl (go_seg0 ?_)
  refine go_seq ?_
  refine go_region ?_
  refine gAc rfl rfl ?_
  refine go_nil ?_
  refine go_seq ?_
  refine go_seq ?_
  refine go_region ?_
  refine gM rfl rfl ?_
  refine gr rfl (r_len rfl (os1 (ot rfl) os0) (fun _ _ => ln_22)) ?_
  refine gM rfl rfl ?_
  refine gr rfl (r_len rfl (os1 (ot rfl) os0) (fun _ _ => ln_22)) ?_
  refine gr rfl (r_bin (ot rfl) (ot rfl) rfl) ?_
  refine go_nil ?_
  refine g_cond (b := ((p0.length : Int) != (p1.length : Int))) (ot rfl) (fun hc1 => ?_) (fun hc1 => ?_)
  ·
    replace hF := ifT hc1 hF
    refine go_seq ?_
    refine go_region ?_
    refine gAc rfl rfl ?_
    refine go_nil ?_
    obtain rfl := someI hF
    exact g_ret (rst rfl rs0) (fun h1 hf hs => ⟨hs.hext, rfl⟩)
  ·
    replace hF := ifF hc1 hF
    refine go_skip ?_
    refine go_seq ?_
    refine go_seq ?_
    refine go_region ?_
    refine gAc rfl rfl ?_
    refine go_nil ?_
    replace hF := obind hF
    obtain ⟨s2, hF, hK2⟩ := hF
    refine go_joinc (β := (Unit)) (fun s h' => s2 = .go s) (fun s => [(4, true, .bool false)]) (fun s => (List.flatten [] : List Blk)) ?_ (fun J2 => ?_)
    ·
      rintro _ h2 e2 w2 hs2
      subst hs2
      replace hF := lpgo hK2
      refine go_seq ?_
      refine go_region ?_
      refine gAc rfl rfl ?_
      refine go_nil ?_
      obtain rfl := someI hF
      exact g_ret (rst rfl rs0) (fun h1 hf hs => ⟨(e2.trans hs.hext), rfl⟩)
    ·
      refine go_block ?_
      refine go_loop (α := (List TEvent) × Nat × Heap) (fun a => a.1 = List.drop a.2.1 p0 ∧ HExt h a.2.2 ∧ Wf a.2.2 ∧ F_ref05_Events_L1 p1 a.1 a.2.1 = some s2) (fun a => a.1.length) (fun a => [(0, true, .slice a0_0 p0.length c0_0), (1, true, .slice a1_0 p1.length c1_0), (4, true, .bool false), (5, true, .int .i64 (a.2.1 : Int))]) (fun a => (List.flatten [] : List Blk)) (fun a => a.2.2) ?_ (p0, 0, h) ⟨rfl, HExt.refl _, hw, hF⟩ (Sub.cons (Sub.cons (Sub.cons (Sub.cons (Sub.nil _) rfl) rfl) rfl) rfl) rfl rfl
      rintro ⟨r3, i3, h3⟩ ⟨hr3, e3, w3, hF⟩ ih3
      rcases r3 with _ | ⟨z3, r3⟩
      ·
        have hi3 := drop_nil hr3
        rw [F_ref05_Events_L1.eq_1] at hF
        refine go_seq ?_
        refine go_seq ?_
        refine go_region ?_
        refine gM rfl rfl ?_
        refine gM rfl rfl ?_
        refine gr rfl (r_len rfl (os1 (ot rfl) os0) (fun _ _ => ln_22)) ?_
        refine gr rfl (r_bin (ot rfl) (ot rfl) rfl) ?_
        refine go_cast (.bool false) (congrArg Value.bool (decide_eq_false hi3)) ?_
        refine go_nil ?_
        refine g_cond (b := false) (ot rfl) (fun hc4 => ?_) (fun hc4 => ?_)
        · cases hc4
        refine go_exit rfl ?_
        obtain rfl := someI hF
        exact Goes.weak (J2 () _ e3 w3 rfl) (Sub.cons (Sub.nil _) rfl)
      ·
        obtain ⟨hi3, hx3, hr3⟩ := drop_cons hr3
        have hb3 := (f0_0.ext e3.kn).1
        rw [F_ref05_Events_L1.eq_2] at hF
        refine go_seq ?_
        refine go_seq ?_
        refine go_region ?_
        refine gM rfl rfl ?_
        refine gM rfl rfl ?_
        refine gr rfl (r_len rfl (os1 (ot rfl) os0) (fun _ _ => ln_22)) ?_
        refine gr rfl (r_bin (ot rfl) (ot rfl) rfl) ?_
        refine go_cast (.bool true) (congrArg Value.bool (decide_eq_true (Int.ofNat_lt.mpr hi3))) ?_
        refine go_nil ?_
        refine g_cond (b := true) (ot rfl) (fun hc5 => ?_) (fun hc5 => ?_)
        rotate_left
        · cases hc5
        refine go_skip ?_
        refine go_seq ?_
        refine go_block ?_
        refine go_seq ?_
        refine go_regionq (by kernel_rfl) ?_
        refine gM rfl rfl ?_
        refine gM rfl rfl ?_
        obtain ⟨q6, row6, i6, cl6, rc6, sp6⟩ := ix (ik := .i64) (cap := c0_0) (E := EE) (f0_0.ext e3.kn) ((getI_nat _ _).trans hx3) ut_22 sz_40 rfl
        obtain rfl := rc6
        refine gr rfl (r_ia (ot rfl) (ot rfl) i6) ?_
        refine gr rfl (r_load (ot rfl) (v := .agg #[.int .i64 z3.Rev, .string z3.Key, .string z3.Val, .bool z3.Del]) (lo_e (fun hf kn => ld_of (r := [.int .i64 z3.Rev, .string z3.Key, .string z3.Val, .bool z3.Del]) ag_40 sz_40 (kn.cellsAt cl6)))) ?_
        refine gM rfl rfl ?_
        refine gM rfl rfl ?_
        replace hF := obind hF
        obtain ⟨x7, hx7, hF⟩ := hF
        obtain ⟨q7, row7, i7, cl7, rc7, sp7⟩ := ix (ik := .i64) (cap := c1_0) (E := EE) (f1_0.ext e3.kn) hx7 ut_22 sz_40 rfl
        obtain rfl := rc7
        refine gr rfl (r_ia (ot rfl) (ot rfl) i7) ?_
        refine gr rfl (r_load (ot rfl) (v := .agg #[.int .i64 x7.Rev, .string x7.Key, .string x7.Val, .bool x7.Del]) (lo_e (fun hf kn => ld_of (r := [.int .i64 x7.Rev, .string x7.Key, .string x7.Val, .bool x7.Del]) ag_40 sz_40 (kn.cellsAt cl7)))) ?_
        refine gr rfl (r_bin (ot rfl) (ot rfl) bn_40) ?_
        refine go_nil ?_
        refine g_cond (b := (!(eq_TEvent z3 x7))) (ot rfl) (fun hc8 => ?_) (fun hc8 => ?_)
        ·
          replace hF := ifT hc8 hF
          refine go_seq ?_
          refine go_region ?_
          refine gAc rfl rfl ?_
          refine go_nil ?_
          obtain rfl := someI hF
          obtain rfl := someI hK2
          exact g_ret (rst rfl rs0) (fun h1 hf hs => ⟨(e3.trans hs.hext), rfl⟩)
        ·
          replace hF := ifF hc8 hF
          refine go_skip ?_
          refine go_endb ?_
          refine go_region ?_
          refine gM rfl rfl ?_
          refine gr rfl (r_bin (ot rfl) (oc rfl) rfl) ?_
          refine gA rfl rfl ?_
          refine go_nil ?_
          refine go_re 5 (v2 := .int .i64 ((i3 + 1 : Nat) : Int)) rfl (wrap_succ hi3 hb3) ?_
          exact Goes.weak (ih3 (r3, i3 + 1, h3) ⟨hr3, e3, w3, hF⟩ (Nat.lt_succ_self _)) (Sub.cons (Sub.cons (Sub.cons (Sub.cons (Sub.nil _) rfl) rfl) rfl) rfl)
theorem s_ref05_KVs {h : Heap} (hw : Wf h) (p0 : (List TKV)) (p1 : (List TKV)) {a0_0 : Option Addr} {c0_0 : Nat} {a1_0 : Option Addr} {c1_0 : Nat} (f0_0 : RL R_TKV h a0_0 c0_0 p0) (f1_0 : RL R_TKV h a1_0 c1_0 p1) {r : Bool} (hF : F_ref05_KVs p0 p1 = some r) :
    Ev EE 20 [.slice a0_0 p0.length c0_0, .slice a1_0 p1.length c1_0] h (fun v _ => v = .bool r) := by
  unfold F_ref05_KVs at hF
  refine ev_of hw rfl at_20 rfl rfl (go_seg0 ?_)
  refine go_seq ?_
  refine go_region ?_
  refine gAc rfl rfl ?_
  refine go_nil ?_
  refine go_seq ?_
  refine go_seq ?_
  refine go_region ?_
  refine gM rfl rfl ?_
  refine gr rfl (r_len rfl (os1 (ot rfl) os0) (fun _ _ => ln_33)) ?_
  refine gM rfl rfl ?_
  refine gr rfl (r_len rfl (os1 (ot rfl) os0) (fun _ _ => ln_33)) ?_
  refine gr rfl (r_bin (ot rfl) (ot rfl) rfl) ?_
  refine go_nil ?_
  refine g_cond (b := ((p0.length : Int) != (p1.length : Int))) (ot rfl) (fun hc1 => ?_) (fun hc1 => ?_)
  ·
    replace hF := ifT hc1 hF
    refine go_seq ?_
    refine go_region ?_
    refine gAc rfl rfl ?_
    refine go_nil ?_
    obtain rfl := someI hF
    exact g_ret (rst rfl rs0) (fun h1 hf hs => ⟨hs.hext, rfl⟩)
  ·
    replace hF := ifF hc1 hF
    refine go_skip ?_
    refine go_seq ?_
    refine go_seq ?_
    refine go_region ?_
    refine gAc rfl rfl ?_
    refine go_nil ?_
    replace hF := obind hF
    obtain ⟨s2, hF, hK2⟩ := hF
    refine go_joinc (β := (Unit)) (fun s h' => s2 = .go s) (fun s => [(4, true, .bool false)]) (fun s => (List.flatten [] : List Blk)) ?_ (fun J2 => ?_)
    ·
      rintro _ h2 e2 w2 hs2
      subst hs2
      replace hF := lpgo hK2
      refine go_seq ?_
      refine go_region ?_
      refine gAc rfl rfl ?_
      refine go_nil ?_
      obtain rfl := someI hF
      exact g_ret (rst rfl rs0) (fun h1 hf hs => ⟨(e2.trans hs.hext), rfl⟩)
    ·
      refine go_block ?_
      refine go_loop (α := (List TKV) × Nat × Heap) (fun a => a.1 = List.drop a.2.1 p0 ∧ HExt h a.2.2 ∧ Wf a.2.2 ∧ F_ref05_KVs_L1 p1 a.1 a.2.1 = some s2) (fun a => a.1.length) (fun a => [(0, true, .slice a0_0 p0.length c0_0), (1, true, .slice a1_0 p1.length c1_0), (4, true, .bool false), (5, true, .int .i64 (a.2.1 : Int))]) (fun a => (List.flatten [] : List Blk)) (fun a => a.2.2) ?_ (p0, 0, h) ⟨rfl, HExt.refl _, hw, hF⟩ (Sub.cons (Sub.cons (Sub.cons (Sub.cons (Sub.nil _) rfl) rfl) rfl) rfl) rfl rfl
      rintro ⟨r3, i3, h3⟩ ⟨hr3, e3, w3, hF⟩ ih3
      rcases r3 with _ | ⟨z3, r3⟩
      ·
        have hi3 := drop_nil hr3
        rw [F_ref05_KVs_L1.eq_1] at hF
        refine go_seq ?_
        refine go_seq ?_
        refine go_region ?_
        refine gM rfl rfl ?_
        refine gM rfl rfl ?_
        refine gr rfl (r_len rfl (os1 (ot rfl) os0) (fun _ _ => ln_33)) ?_
        refine gr rfl (r_bin (ot rfl) (ot rfl) rfl) ?_
        refine go_cast (.bool false) (congrArg Value.bool (decide_eq_false hi3)) ?_
        refine go_nil ?_
        refine g_cond (b := false) (ot rfl) (fun hc4 => ?_) (fun hc4 => ?_)
        · cases hc4
        refine go_exit rfl ?_
        obtain rfl := someI hF
        exact Goes.weak (J2 () _ e3 w3 rfl) (Sub.cons (Sub.nil _) rfl)
      ·
        obtain ⟨hi3, hx3, hr3⟩ := drop_cons hr3
        have hb3 := (f0_0.ext e3.kn).1
        rw [F_ref05_KVs_L1.eq_2] at hF
        refine go_seq ?_
        refine go_seq ?_
        refine go_region ?_
        refine gM rfl rfl ?_
        refine gM rfl rfl ?_
        refine gr rfl (r_len rfl (os1 (ot rfl) os0) (fun _ _ => ln_33)) ?_
        refine gr rfl (r_bin (ot rfl) (ot rfl) rfl) ?_
        refine go_cast (.bool true) (congrArg Value.bool (decide_eq_true (Int.ofNat_lt.mpr hi3))) ?_
        refine go_nil ?_
        refine g_cond (b := true) (ot rfl) (fun hc5 => ?_) (fun hc5 => ?_)
        rotate_left
        · cases hc5
        refine go_skip ?_
        refine go_seq ?_
        refine go_block ?_
        refine go_seq ?_
        refine go_regionq (by kernel_rfl) ?_
        refine gM rfl rfl ?_
        refine gM rfl rfl ?_
        obtain ⟨q6, row6, i6, cl6, rc6, sp6⟩ := ix (ik := .i64) (cap := c0_0) (E := EE) (f0_0.ext e3.kn) ((getI_nat _ _).trans hx3) ut_33 sz_44 rfl
        obtain rfl := rc6
        refine gr rfl (r_ia (ot rfl) (ot rfl) i6) ?_
        refine gr rfl (r_load (ot rfl) (v := .agg #[.string z3.Key, .string z3.Val, .int .i64 z3.Rev]) (lo_e (fun hf kn => ld_of (r := [.string z3.Key, .string z3.Val, .int .i64 z3.Rev]) ag_44 sz_44 (kn.cellsAt cl6)))) ?_
        refine gM rfl rfl ?_
        refine gM rfl rfl ?_
        replace hF := obind hF
        obtain ⟨x7, hx7, hF⟩ := hF
        obtain ⟨q7, row7, i7, cl7, rc7, sp7⟩ := ix (ik := .i64) (cap := c1_0) (E := EE) (f1_0.ext e3.kn) hx7 ut_33 sz_44 rfl
        obtain rfl := rc7
        refine gr rfl (r_ia (ot rfl) (ot rfl) i7) ?_
        refine gr rfl (r_load (ot rfl) (v := .agg #[.string x7.Key, .string x7.Val, .int .i64 x7.Rev]) (lo_e (fun hf kn => ld_of (r := [.string x7.Key, .string x7.Val, .int .i64 x7.Rev]) ag_44 sz_44 (kn.cellsAt cl7)))) ?_
        refine gr rfl (r_bin (ot rfl) (ot rfl) bn_44) ?_
        refine go_nil ?_
        refine g_cond (b := (!(eq_TKV z3 x7))) (ot rfl) (fun hc8 => ?_) (fun hc8 => ?_)
        ·
          replace hF := ifT hc8 hF
          refine go_seq ?_
          refine go_region ?_
          refine gAc rfl rfl ?_
          refine go_nil ?_
          obtain rfl := someI hF
          obtain rfl := someI hK2
          exact g_ret (rst rfl rs0) (fun h1 hf hs => ⟨(e3.trans hs.hext), rfl⟩)
        ·
          replace hF := ifF hc8 hF
          refine go_skip ?_
          refine go_endb ?_
          refine go_region ?_
          refine gM rfl rfl ?_
          refine gr rfl (r_bin (ot rfl) (oc rfl) rfl) ?_
          refine gA rfl rfl ?_
          refine go_nil ?_
          refine go_re 5 (v2 := .int .i64 ((i3 + 1 : Nat) : Int)) rfl (wrap_succ hi3 hb3) ?_
          exact Goes.weak (ih3 (r3, i3 + 1, h3) ⟨hr3, e3, w3, hF⟩ (Nat.lt_succ_self _)) (Sub.cons (Sub.cons (Sub.cons (Sub.cons (Sub.nil _) rfl) rfl) rfl) rfl)
theorem s_ref05_Map {h : Heap} (hw : Wf h) (p0 : (List TKV)) {a0_0 : Option Addr} {c0_0 : Nat} (f0_0 : RL R_TKV h a0_0 c0_0 p0) {r : Bool} (hF : F_ref05_Map p0 = some r) :
    Ev EE 18 [.slice a0_0 p0.length c0_0] h (fun v _ => v = .bool r) := by
  unfold F_ref05_Map at hF
  refine ev_of hw rfl at_18 rfl rfl (go_seg0 ?_)
  refine go_seq ?_
  refine go_region ?_
  refine gAc rfl rfl ?_
  refine go_nil ?_
  refine go_seq ?_
  refine go_seq ?_
  refine go_region ?_
  refine gAc rfl rfl ?_
  refine go_nil ?_
  replace hF := obind hF
  obtain ⟨s1, hF, hK1⟩ := hF
  refine go_joinc (β := (Unit)) (fun s h' => s1 = .go s) (fun s => [(2, true, .bool false)]) (fun s => (List.flatten [] : List Blk)) ?_ (fun J1 => ?_)
  ·
    rintro _ h1 e1 w1 hs1
    subst hs1
    replace hF := lpgo hK1
    refine go_seq ?_
    refine go_region ?_
    refine gAc rfl rfl ?_
    refine go_nil ?_
    obtain rfl := someI hF
    exact g_ret (rst rfl rs0) (fun h1 hf hs => ⟨(e1.trans hs.hext), rfl⟩)
  ·
    refine go_block ?_
    refine go_loop (α := (List TKV) × Nat × Heap) (fun a => a.1 = List.drop a.2.1 p0 ∧ HExt h a.2.2 ∧ Wf a.2.2 ∧ F_ref05_Map_L1 p0 a.1 a.2.1 = some s1) (fun a => a.1.length) (fun a => [(0, true, .slice a0_0 p0.length c0_0), (2, true, .bool false), (3, true, .int .i64 (a.2.1 : Int))]) (fun a => (List.flatten [] : List Blk)) (fun a => a.2.2) ?_ ((List.drop 1 p0), 1, h) ⟨rfl, HExt.refl _, hw, hF⟩ (Sub.cons (Sub.cons (Sub.cons (Sub.nil _) rfl) rfl) rfl) rfl rfl
    rintro ⟨r2, i2, h2⟩ ⟨hr2, e2, w2, hF⟩ ih2
    rcases r2 with _ | ⟨z2, r2⟩
    ·
      have hi2 := drop_nil hr2
      rw [F_ref05_Map_L1.eq_1] at hF
      refine go_seq ?_
      refine go_seq ?_
      refine go_region ?_
      refine gM rfl rfl ?_
      refine gM rfl rfl ?_
      refine gr rfl (r_len rfl (os1 (ot rfl) os0) (fun _ _ => ln_33)) ?_
      refine gr rfl (r_bin (ot rfl) (ot rfl) rfl) ?_
      refine go_cast (.bool false) (congrArg Value.bool (decide_eq_false hi2)) ?_
      refine go_nil ?_
      refine g_cond (b := false) (ot rfl) (fun hc3 => ?_) (fun hc3 => ?_)
      · cases hc3
      refine go_exit rfl ?_
      obtain rfl := someI hF
      exact Goes.weak (J1 () _ e2 w2 rfl) (Sub.cons (Sub.nil _) rfl)
    ·
      obtain ⟨hi2, hx2, hr2⟩ := drop_cons hr2
      have hb2 := (f0_0.ext e2.kn).1
      rw [F_ref05_Map_L1.eq_2] at hF
      refine go_seq ?_
      refine go_seq ?_
      refine go_region ?_
      refine gM rfl rfl ?_
      refine gM rfl rfl ?_
      refine gr rfl (r_len rfl (os1 (ot rfl) os0) (fun _ _ => ln_33)) ?_
      refine gr rfl (r_bin (ot rfl) (ot rfl) rfl) ?_
      refine go_cast (.bool true) (congrArg Value.bool (decide_eq_true (Int.ofNat_lt.mpr hi2))) ?_
      refine go_nil ?_
      refine g_cond (b := true) (ot rfl) (fun hc4 => ?_) (fun hc4 => ?_)
      rotate_left
      · cases hc4
      refine go_skip ?_
      refine go_seq ?_
      refine go_block ?_
      refine go_seq ?_
      refine go_regionq (by kernel_rfl) ?_
      refine gM rfl rfl ?_
      refine gM rfl rfl ?_
      refine gr rfl (r_bin (ot rfl) (oc rfl) rfl) ?_
      replace hF := obind hF
      obtain ⟨x5, hx5, hF⟩ := hF
      obtain ⟨q5, row5, i5, cl5, rc5, sp5⟩ := ix (ik := .i64) (cap := c0_0) (E := EE) (f0_0.ext e2.kn) hx5 ut_33 sz_44 rfl
      obtain rfl := rc5
      refine gr rfl (r_ia (ot rfl) (ot rfl) i5) ?_
      refine gr rfl (r_fa (ot rfl) (fs_44_0 sp5)) ?_
      refine gr rfl (r_load (ot rfl) (v := .string x5.Key) (lo_e (fun hf kn => ld_field (r := [.string x5.Key, .string x5.Val, .int .i64 x5.Rev]) ag_9 (kn.cellsAt cl5) rfl))) ?_
      refine gM rfl rfl ?_
      refine gM rfl rfl ?_
      obtain ⟨q6, row6, i6, cl6, rc6, sp6⟩ := ix (ik := .i64) (cap := c0_0) (E := EE) (f0_0.ext e2.kn) ((getI_nat _ _).trans hx2) ut_33 sz_44 rfl
      obtain rfl := rc6
      refine gr rfl (r_ia (ot rfl) (ot rfl) i6) ?_
      refine gr rfl (r_fa (ot rfl) (fs_44_0 sp6)) ?_
      refine gr rfl (r_load (ot rfl) (v := .string z2.Key) (lo_e (fun hf kn => ld_field (r := [.string z2.Key, .string z2.Val, .int .i64 z2.Rev]) ag_9 (kn.cellsAt cl6) rfl))) ?_
      refine gr rfl (r_bin (ot rfl) (ot rfl) rfl) ?_
      refine go_nil ?_
      refine g_cond (b := (!lessB x5.Key z2.Key)) (ot rfl) (fun hc7 => ?_) (fun hc7 => ?_)
      ·
        replace hF := ifT hc7 hF
        refine go_seq ?_
        refine go_region ?_
        refine gAc rfl rfl ?_
        refine go_nil ?_
        obtain rfl := someI hF
        obtain rfl := someI hK1
        exact g_ret (rst rfl rs0) (fun h1 hf hs => ⟨(e2.trans hs.hext), rfl⟩)
      ·
        replace hF := ifF hc7 hF
        refine go_skip ?_
        refine go_endb ?_
        refine go_region ?_
        refine gM rfl rfl ?_
        refine gr rfl (r_bin (ot rfl) (oc rfl) rfl) ?_
        refine gA rfl rfl ?_
        refine go_nil ?_
        refine go_re 3 (v2 := .int .i64 ((i2 + 1 : Nat) : Int)) rfl (wrap_succ hi2 hb2) ?_
        exact Goes.weak (ih2 (r2, i2 + 1, h2) ⟨hr2, e2, w2, hF⟩ (Nat.lt_succ_self _)) (Sub.cons (Sub.cons (Sub.cons (Sub.nil _) rfl) rfl) rfl)
theorem s_ref05_One (n : Nat) {h : Heap} (hw : Wf h) (p0 : (List TKV)) (p1 : TEvent) {a0_0 : Option Addr} {c0_0 : Nat} (f0_0 : RL R_TKV h a0_0 c0_0 p0) {r : (List TKV)} (hF : F_ref05_One n p0 p1 = some r) :
    Ev EE 39 [.slice a0_0 p0.length c0_0, .agg #[.int .i64 p1.Rev, .string p1.Key, .string p1.Val, .bool p1.Del]] h (fun v h1 => ∃ a0 c0, v = .slice a0 r.length c0 ∧ RL R_TKV h1 a0 c0 r) := by
  unfold F_ref05_One at hF
  refine ev_of hw rfl at_39 rfl rfl (go_seg0 ?_)
  refine go_seq ?_
  refine go_region ?_
  refine gs_box rfl (ot rfl) rfl ?_; intro b3_1
  refine gAc rfl rfl ?_
  refine go_nil ?_
  refine go_seq ?_
  refine go_region ?_
  refine gAc rfl rfl ?_
  refine go_nil ?_
  refine go_seq ?_
  refine go_region ?_
  refine gAc rfl rfl ?_
  refine go_nil ?_
  refine go_seq ?_
  replace hF := obind hF
  obtain ⟨s2, hF, hK2⟩ := hF
  refine go_joinc (β := Option Addr × List Blk) (fun s h' => AccR R_TKV 44 h' s.2 (.slice s.1 s2.1.length s2.1.length) s2.1) (fun s => [(0, true, .slice a0_0 p0.length c0_0), (3, true, .pointer (some ⟨b3_1, 0, none⟩)), (4, true, .slice none 0 0), (5, true, .slice s.1 s2.1.length s2.1.length), (6, true, .int .i64 s2.2)]) (fun s => (List.flatten [s.2, [⟨b3_1, .cells [.int .i64 p1.Rev, .string p1.Key, .string p1.Val, .bool p1.Del] 40⟩]] : List Blk)) ?_ (fun J2 => ?_)
  ·
    rintro ⟨a2_0, a2_1⟩ h2 e2 w2 f2_0
    replace hF := hK2
    refine go_seq ?_
    refine go_seq ?_
    refine go_region ?_
    refine gr rfl (r_fa (ot rfl) (fa_40_3 _ _)) ?_
    refine gr rfl (r_load (ot rfl) (lm_s (mem_seg 1 rfl) ag_4 rfl)) ?_
    refine gr rfl (r_un (ot rfl) rfl) ?_
    refine go_nil ?_
    replace hF := obind hF
    obtain ⟨s4, hF, hK4⟩ := hF
    refine go_joinc (β := Option Addr × List Blk) (fun s h' => AccR R_TKV 44 h' s.2 (.slice s.1 s4.length s4.length) s4) (fun s => [(0, true, .slice a0_0 p0.length c0_0), (3, true, .pointer (some ⟨b3_1, 0, none⟩)), (4, true, .slice none 0 0), (5, true, .slice s.1 s4.length s4.length), (6, true, .int .i64 s2.2)]) (fun s => (List.flatten [s.2, [⟨b3_1, .cells [.int .i64 p1.Rev, .string p1.Key, .string p1.Val, .bool p1.Del] 40⟩]] : List Blk)) ?_ (fun J4 => ?_)
    ·
      rintro ⟨a4_0, a4_1⟩ h4 e4 w4 f4_0
      replace hF := hK4
      refine go_seq ?_
      refine go_seq ?_
      refine go_region ?_
      refine gM rfl rfl ?_
      refine gA rfl rfl ?_
      refine go_nil ?_
      replace hF := obind hF
      obtain ⟨s5, hF, hK5⟩ := hF
      refine go_joinc (β := Option Addr × List Blk) (fun s h' => AccR R_TKV 44 h' s.2 (.slice s.1 s5.length s5.length) s5) (fun s => [(4, true, .slice none 0 0), (5, true, .slice s.1 s5.length s5.length)]) (fun s => (List.flatten [s.2, [⟨b3_1, .cells [.int .i64 p1.Rev, .string p1.Key, .string p1.Val, .bool p1.Del] 40⟩]] : List Blk)) ?_ (fun J5 => ?_)
      ·
        rintro ⟨a5_0, a5_1⟩ h5 e5 w5 f5_0
        replace hF := hK5
        refine go_seq ?_
        refine go_region ?_
        refine gM rfl rfl ?_
        refine gA rfl rfl ?_
        refine go_nil ?_
        refine gs_accpub .z f5_0 (fun h6 e6 w6 f6_ => ?_) rfl
        obtain rfl := someI hF
        exact g_ret (rst rfl rs0) (fun h1 hf hs => ⟨(e2.trans (e4.trans (e5.trans (e6.trans hs.hext)))), ⟨_, _, rfl, (f6_.ext hs.hext.kn)⟩⟩)
      ·
        refine go_block ?_
        refine go_loop (α := Nat × (List TKV) × Int × Option Addr × List Blk × Heap) (fun a => HExt h4 a.2.2.2.2.2 ∧ Wf a.2.2.2.2.2 ∧ F_ref05_One_L1 p0 p1 a.1 a.2.1 a.2.2.1 = some s5 ∧ AccR R_TKV 44 a.2.2.2.2.2 a.2.2.2.2.1 (.slice a.2.2.2.1 a.2.1.length a.2.1.length) a.2.1) (fun a => a.1) (fun a => [(0, true, .slice a0_0 p0.length c0_0), (3, true, .pointer (some ⟨b3_1, 0, none⟩)), (4, true, .slice none 0 0), (5, true, .slice a.2.2.2.1 a.2.1.length a.2.1.length), (7, true, .int .i64 a.2.2.1)]) (fun a => (List.flatten [a.2.2.2.2.1, [⟨b3_1, .cells [.int .i64 p1.Rev, .string p1.Key, .string p1.Val, .bool p1.Del] 40⟩]] : List Blk)) (fun a => a.2.2.2.2.2) ?_ (n, s4, s2.2, a4_0, a4_1, h4) ⟨HExt.refl _, w4, hF, f4_0⟩ (Sub.cons (Sub.cons (Sub.cons (Sub.cons (Sub.cons (Sub.nil _) rfl) rfl) rfl) rfl) rfl) rfl rfl
        rintro ⟨m7, y7_0, y7_1, a7_0, a7_1, h7⟩ ⟨e7, w7, hF, f7_0⟩ ih7
        rcases m7 with _ | m7
        ·
          rw [F_ref05_One_L1.eq_1] at hF; cases hF
        ·
          rw [F_ref05_One_L1.eq_2] at hF
          refine go_seq ?_
          refine go_seq ?_
          refine go_region ?_
          refine gM rfl rfl ?_
          refine gM rfl rfl ?_
          refine gr rfl (r_len rfl (os1 (ot rfl) os0) (fun _ _ => ln_33)) ?_
          refine gr rfl (r_bin (ot rfl) (ot rfl) rfl) ?_
          refine go_nil ?_
          refine g_cond (b := (decide (y7_1 < (p0.length : Int)))) (ot rfl) (fun hc8 => ?_) (fun hc8 => ?_)
          ·
            replace hF := ifT hc8 hF
            refine go_skip ?_
            refine go_seq ?_
            refine go_block ?_
            refine go_seq ?_
            refine go_regionq (by kernel_rfl) ?_
            refine gM rfl rfl ?_
            refine gM rfl rfl ?_
            replace hF := obind hF
            obtain ⟨x9, hx9, hF⟩ := hF
            obtain ⟨q9, row9, i9, cl9, rc9, sp9⟩ := ix (ik := .i64) (cap := c0_0) (E := EE) (((f0_0.ext e2.kn).ext e4.kn).ext e7.kn) hx9 ut_33 sz_44 rfl
            obtain rfl := rc9
            refine gr rfl (r_ia (ot rfl) (ot rfl) i9) ?_
            refine gr rfl (r_fa (ot rfl) (fs_44_0 sp9)) ?_
            refine gr rfl (r_load (ot rfl) (v := .string x9.Key) (lo_e (fun hf kn => ld_field (r := [.string x9.Key, .string x9.Val, .int .i64 x9.Rev]) ag_9 (kn.cellsAt cl9) rfl))) ?_
            refine gr rfl (r_fa (ot rfl) (fa_40_1 _ _)) ?_
            refine gr rfl (r_load (ot rfl) (lm_s (mem_seg 1 rfl) ag_9 rfl)) ?_
            refine gr rfl (r_bin (ot rfl) (ot rfl) rfl) ?_
            refine go_nil ?_
            replace hF := obind hF
            obtain ⟨s11, hF, hK11⟩ := hF
            refine go_joinc (β := Option Addr × List Blk) (fun s h' => AccR R_TKV 44 h' s.2 (.slice s.1 s11.length s11.length) s11) (fun s => [(0, true, .slice a0_0 p0.length c0_0), (3, true, .pointer (some ⟨b3_1, 0, none⟩)), (4, true, .slice none 0 0), (5, true, .slice s.1 s11.length s11.length), (7, true, .int .i64 y7_1), (45, true, .int .i64 y7_1), (46, true, .slice a0_0 p0.length c0_0), (47, true, .int .i64 (p0.length : Int)), (48, true, .bool (decide (y7_1 < (p0.length : Int)))), (51, true, .slice a0_0 p0.length c0_0), (52, true, .int .i64 y7_1), (53, true, .pointer (some q9)), (54, true, .pointer (some ⟨q9.block, q9.off + 0, q9.spot⟩)), (55, true, .string x9.Key), (56, true, .pointer (some ⟨b3_1, 1, none⟩)), (57, true, .string p1.Key), (58, true, .bool (!eqB x9.Key p1.Key))]) (fun s => (List.flatten [s.2, [⟨b3_1, .cells [.int .i64 p1.Rev, .string p1.Key, .string p1.Val, .bool p1.Del] 40⟩]] : List Blk)) ?_ (fun J11 => ?_)
            ·
              rintro ⟨a11_0, a11_1⟩ h11 e11 w11 f11_0
              replace hF := hK11
              refine go_endb ?_
              refine go_region ?_
              refine gM rfl rfl ?_
              refine gr rfl (r_bin (ot rfl) (oc rfl) rfl) ?_
              refine gA rfl rfl ?_
              refine go_nil ?_
              exact Goes.weak (ih7 (m7, s11, (IntKind.i64.wrap (y7_1 + 1)), a11_0, a11_1, h11) ⟨(e7.trans e11), w11, hF, f11_0⟩ (Nat.lt_succ_self _)) (Sub.cons (Sub.cons (Sub.cons (Sub.cons (Sub.cons (Sub.nil _) rfl) rfl) rfl) rfl) rfl)
            ·
              refine g_cond (b := (!eqB x9.Key p1.Key)) (ot rfl) (fun hc10 => ?_) (fun hc10 => ?_)
              ·
                replace hF := ifT hc10 hF
                refine go_region ?_
                refine gM rfl rfl ?_
                refine gM rfl rfl ?_
                refine gM rfl rfl ?_
                replace hF := obind hF
                obtain ⟨x12, hx12, hF⟩ := hF
                obtain ⟨q12, row12, i12, cl12, rc12, sp12⟩ := ix (ik := .i64) (cap := c0_0) (E := EE) (((f0_0.ext e2.kn).ext e4.kn).ext e7.kn) hx12 ut_33 sz_44 rfl
                obtain rfl := rc12
                refine gr rfl (r_ia (ot rfl) (ot rfl) i12) ?_
                refine gr rfl (r_load (ot rfl) (v := .agg #[.string x12.Key, .string x12.Val, .int .i64 x12.Rev]) (lo_e (fun hf kn => ld_of (r := [.string x12.Key, .string x12.Val, .int .i64 x12.Rev]) ag_44 sz_44 (kn.cellsAt cl12)))) ?_
                refine gs_bslice (cs := [.string x12.Key, .string x12.Val, .int .i64 x12.Rev]) rfl (op1 (ot rfl) op0) ut_33 sz_44 zo_44 rfl rfl ?_; intro b64_13
                replace hF := obind hF
                obtain ⟨x14, hx14, hF⟩ := hF
                obtain ⟨hr14, hz14_⟩ := appL_some hx14; subst x14
                refine gs_front (.s (.z)) ?_
                refine gs_app (rows2 := [[.string x12.Key, .string x12.Val, .int .i64 x12.Rev]]) (R := R_TKV) rfl (os1 (ot rfl) (os1 (ot rfl) os0)) rfl ut_33 sz_44 rfl (by decide) by_44 zo_44 rfl zs_33_33 rfl rfl (first_m (mem_seg 1 rfl) rfl (by decide)) (Rws.one (x := x12) rfl) f7_0 hr14 (fun p14_ tl14 f14_ => ?_)
                refine gA rfl rfl ?_
                refine go_nil ?_
                obtain rfl := someI hF
                refine gs_sub (.cons_cons _ (.cons _ (.cons_cons _ (.refl _)))) ?_
                exact Goes.weak (J11 (p14_, tl14) _ (HExt.refl _) w7 f14_) (Sub.cons (Sub.cons (Sub.cons (Sub.cons (Sub.cons (Sub.cons (Sub.cons (Sub.cons (Sub.cons (Sub.cons (Sub.cons (Sub.cons (Sub.cons (Sub.cons (Sub.cons (Sub.cons (Sub.cons (Sub.nil _) rfl) rfl) rfl) rfl) rfl) rfl) rfl) rfl) rfl) rfl) rfl) rfl) rfl) rfl) rfl) rfl) rfl)
              ·
                replace hF := ifF hc10 hF
                refine go_skip ?_
                obtain rfl := someI hF
                exact Goes.weak (J11 (a7_0, a7_1) _ (HExt.refl _) w7 f7_0) (Sub.cons (Sub.cons (Sub.cons (Sub.cons (Sub.cons (Sub.cons (Sub.cons (Sub.cons (Sub.cons (Sub.cons (Sub.cons (Sub.cons (Sub.cons (Sub.cons (Sub.cons (Sub.cons (Sub.cons (Sub.nil _) rfl) rfl) rfl) rfl) rfl) rfl) rfl) rfl) rfl) rfl) rfl) rfl) rfl) rfl) rfl) rfl) rfl)
          ·
            replace hF := ifF hc8 hF
            refine go_exit rfl ?_
            obtain rfl := someI hF
            exact Goes.weak (J5 (a7_0, a7_1) _ e7 w7 f7_0) (Sub.cons (Sub.cons (Sub.nil _) rfl) rfl)
    ·
      refine g_cond (b := (!p1.Del)) (ot rfl) (fun hc3 => ?_) (fun hc3 => ?_)
      ·
        replace hF := ifT hc3 hF
        refine go_region ?_
        refine gM rfl rfl ?_
        refine gr rfl (r_fa (ot rfl) (fa_40_1 _ _)) ?_
        refine gr rfl (r_load (ot rfl) (lm_s (mem_seg 1 rfl) ag_9 rfl)) ?_
        refine gr rfl (r_fa (ot rfl) (fa_40_2 _ _)) ?_
        refine gr rfl (r_load (ot rfl) (lm_s (mem_seg 1 rfl) ag_9 rfl)) ?_
        refine gr rfl (r_fa (ot rfl) (fa_40_0 _ _)) ?_
        refine gr rfl (r_load (ot rfl) (lm_s (mem_seg 1 rfl) ag_3 rfl)) ?_
        refine gr rfl (r_build (op1 (ot rfl) (op1 (ot rfl) (op1 (ot rfl) op0))) rfl) ?_
        refine gs_bslice (cs := [.string p1.Key, .string p1.Val, .int .i64 p1.Rev]) rfl (op1 (ot rfl) op0) ut_33 sz_44 zo_44 rfl rfl ?_; intro b42_15
        replace hF := obind hF
        obtain ⟨x16, hx16, hF⟩ := hF
        obtain ⟨hr16, hz16_⟩ := appL_some hx16; subst x16
        refine gs_front (.s (.z)) ?_
        refine gs_app (rows2 := [[.string p1.Key, .string p1.Val, .int .i64 p1.Rev]]) (R := R_TKV) rfl (os1 (ot rfl) (os1 (ot rfl) os0)) rfl ut_33 sz_44 rfl (by decide) by_44 zo_44 rfl zs_33_33 rfl rfl (first_m (mem_seg 1 rfl) rfl (by decide)) (Rws.one (x := (⟨p1.Key, p1.Val, p1.Rev⟩ : TKV)) rfl) f2_0 hr16 (fun p16_ tl16 f16_ => ?_)
        refine gA rfl rfl ?_
        refine go_nil ?_
        obtain rfl := someI hF
        refine gs_sub (.cons_cons _ (.cons _ (.cons_cons _ (.refl _)))) ?_
        exact Goes.weak (J4 (p16_, tl16) _ (HExt.refl _) w2 f16_) (Sub.cons (Sub.cons (Sub.cons (Sub.cons (Sub.cons (Sub.nil _) rfl) rfl) rfl) rfl) rfl)
      ·
        replace hF := ifF hc3 hF
        refine go_skip ?_
        obtain rfl := someI hF
        exact Goes.weak (J4 (a2_0, a2_1) _ (HExt.refl _) w2 f2_0) (Sub.cons (Sub.cons (Sub.cons (Sub.cons (Sub.cons (Sub.nil _) rfl) rfl) rfl) rfl) rfl)
  ·
    refine go_block ?_
    refine go_loop (α := (List TKV) × Nat × (List TKV) × Option Addr × List Blk × Heap) (fun a => a.1 = List.drop a.2.1 p0 ∧ HExt h a.2.2.2.2.2 ∧ Wf a.2.2.2.2.2 ∧ F_ref05_One_L2 p1 a.1 a.2.1 a.2.2.1 = some s2 ∧ AccR R_TKV 44 a.2.2.2.2.2 a.2.2.2.2.1 (.slice a.2.2.2.1 a.2.2.1.length a.2.2.1.length) a.2.2.1) (fun a => a.1.length) (fun a => [(0, true, .slice a0_0 p0.length c0_0), (3, true, .pointer (some ⟨b3_1, 0, none⟩)), (4, true, .slice none 0 0), (5, true, .slice a.2.2.2.1 a.2.2.1.length a.2.2.1.length), (6, true, .int .i64 (a.2.1 : Int))]) (fun a => (List.flatten [a.2.2.2.2.1, [⟨b3_1, .cells [.int .i64 p1.Rev, .string p1.Key, .string p1.Val, .bool p1.Del] 40⟩]] : List Blk)) (fun a => a.2.2.2.2.2) ?_ (p0, 0, ([] : List TKV), none, [], h) ⟨rfl, HExt.refl _, hw, hF, (AccR.nil _ _ _)⟩ (Sub.cons (Sub.cons (Sub.cons (Sub.cons (Sub.cons (Sub.nil _) rfl) rfl) rfl) rfl) rfl) rfl rfl
    rintro ⟨r17, i17, y17_0, a17_0, a17_1, h17⟩ ⟨hr17, e17, w17, hF, f17_0⟩ ih17
    rcases r17 with _ | ⟨z17, r17⟩
    ·
      have hi17 := drop_nil hr17
      rw [F_ref05_One_L2.eq_1] at hF
      refine go_seq ?_
      refine go_seq ?_
      refine go_regionq (by kernel_rfl) ?_
      refine gM rfl rfl ?_
      refine gM rfl rfl ?_
      refine gr rfl (r_len rfl (os1 (ot rfl) os0) (fun _ _ => ln_33)) ?_
      refine gr rfl (r_bin (ot rfl) (ot rfl) rfl) ?_
      refine go_cast (.bool false) (congrArg Value.bool (decide_eq_false hi17)) ?_
      refine gM rfl rfl ?_
      refine g_no rfl rfl rfl rfl rfl ?_
      refine g_no rfl rfl rfl rfl rfl ?_
      refine g_no rfl rfl rfl rfl rfl ?_
      refine g_no rfl rfl rfl rfl rfl ?_
      refine g_no rfl rfl rfl rfl rfl ?_
      refine g_no rfl rfl rfl rfl rfl ?_
      refine g_no rfl rfl rfl rfl rfl ?_
      refine g_no rfl rfl rfl rfl rfl ?_
      refine gr rfl (r_pkF (ot rfl) (oc rfl)) ?_
      refine go_nil ?_
      refine g_cond (b := false) (ot rfl) (fun hc18 => ?_) (fun hc18 => ?_)
      · cases hc18
      refine go_exit rfl ?_
      obtain rfl := someI hF
      exact Goes.weak (J2 (a17_0, a17_1) _ e17 w17 f17_0) (Sub.cons (Sub.cons (Sub.cons (Sub.cons (Sub.cons (Sub.nil _) rfl) rfl) rfl) rfl) rfl)
    ·
      obtain ⟨hi17, hx17, hr17⟩ := drop_cons hr17
      have hb17 := (f0_0.ext e17.kn).1
      rw [F_ref05_One_L2.eq_2] at hF
      refine go_seq ?_
      refine go_seq ?_
      refine go_regionq (by kernel_rfl) ?_
      refine gM rfl rfl ?_
      refine gM rfl rfl ?_
      refine gr rfl (r_len rfl (os1 (ot rfl) os0) (fun _ _ => ln_33)) ?_
      refine gr rfl (r_bin (ot rfl) (ot rfl) rfl) ?_
      refine go_cast (.bool true) (congrArg Value.bool (decide_eq_true (Int.ofNat_lt.mpr hi17))) ?_
      refine gM rfl rfl ?_
      refine g_do rfl rfl rfl ?_
      refine gM rfl rfl ?_
      refine g_do rfl rfl rfl ?_
      refine gM rfl rfl ?_
      refine g_do rfl rfl rfl ?_
      obtain ⟨q19, row19, i19, cl19, rc19, sp19⟩ := ix (ik := .i64) (cap := c0_0) (E := EE) (f0_0.ext e17.kn) ((getI_nat _ _).trans hx17) ut_33 sz_44 rfl
      obtain rfl := rc19
      refine gr rfl (r_ia (ot rfl) (ot rfl) i19) ?_
      refine g_do rfl rfl rfl ?_
      refine gr rfl (r_fa (ot rfl) (fs_44_0 sp19)) ?_
      refine g_do rfl rfl rfl ?_
      refine gr rfl (r_load (ot rfl) (v := .string z17.Key) (lo_e (fun hf kn => ld_field (r := [.string z17.Key, .string z17.Val, .int .i64 z17.Rev]) ag_9 (kn.cellsAt cl19) rfl))) ?_
      refine g_do rfl rfl rfl ?_
      refine gr rfl (r_fa (ot rfl) (fa_40_1 _ _)) ?_
      refine g_do rfl rfl rfl ?_
      refine gr rfl (r_load (ot rfl) (lm_s (mem_seg 1 rfl) ag_9 rfl)) ?_
      refine g_do rfl rfl rfl ?_
      refine gr rfl (r_bin (ot rfl) (ot rfl) rfl) ?_
      refine gr rfl (r_pkT (ot rfl) (ot rfl)) ?_
      refine go_nil ?_
      refine g_cond (b := (lessB z17.Key p1.Key)) (ot rfl) (fun hc20 => ?_) (fun hc20 => ?_)
      ·
        replace hF := ifT hc20 hF
        refine go_skip ?_
        refine go_block ?_
        refine go_seq ?_
        refine go_region ?_
        refine gM rfl rfl ?_
        refine gM rfl rfl ?_
        refine gM rfl rfl ?_
        obtain ⟨q21, row21, i21, cl21, rc21, sp21⟩ := ix (ik := .i64) (cap := c0_0) (E := EE) (f0_0.ext e17.kn) ((getI_nat _ _).trans hx17) ut_33 sz_44 rfl
        obtain rfl := rc21
        refine gr rfl (r_ia (ot rfl) (ot rfl) i21) ?_
        refine gr rfl (r_load (ot rfl) (v := .agg #[.string z17.Key, .string z17.Val, .int .i64 z17.Rev]) (lo_e (fun hf kn => ld_of (r := [.string z17.Key, .string z17.Val, .int .i64 z17.Rev]) ag_44 sz_44 (kn.cellsAt cl21)))) ?_
        refine gs_bslice (cs := [.string z17.Key, .string z17.Val, .int .i64 z17.Rev]) rfl (op1 (ot rfl) op0) ut_33 sz_44 zo_44 rfl rfl ?_; intro b27_22
        replace hF := obind hF
        obtain ⟨x23, hx23, hF⟩ := hF
        obtain ⟨hr23, hz23_⟩ := appL_some hx23; subst x23
        refine gs_front (.s (.z)) ?_
        refine gs_app (rows2 := [[.string z17.Key, .string z17.Val, .int .i64 z17.Rev]]) (R := R_TKV) rfl (os1 (ot rfl) (os1 (ot rfl) os0)) rfl ut_33 sz_44 rfl (by decide) by_44 zo_44 rfl zs_33_33 rfl rfl (first_m (mem_seg 1 rfl) rfl (by decide)) (Rws.one (x := z17) rfl) f17_0 hr23 (fun p23_ tl23 f23_ => ?_)
        refine gA rfl rfl ?_
        refine go_nil ?_
        refine go_region ?_
        refine gM rfl rfl ?_
        refine gr rfl (r_bin (ot rfl) (oc rfl) rfl) ?_
        refine gA rfl rfl ?_
        refine go_nil ?_
        refine go_endb ?_
        refine gs_sub (.cons_cons _ (.cons _ (.cons_cons _ (.refl _)))) ?_
        refine go_re 6 (v2 := .int .i64 ((i17 + 1 : Nat) : Int)) rfl (wrap_succ hi17 hb17) ?_
        exact Goes.weak (ih17 (r17, i17 + 1, (y17_0 ++ ([z17] : List TKV)), p23_, tl23, h17) ⟨hr17, e17, w17, hF, f23_⟩ (Nat.lt_succ_self _)) (Sub.cons (Sub.cons (Sub.cons (Sub.cons (Sub.cons (Sub.nil _) rfl) rfl) rfl) rfl) rfl)
      ·
        replace hF := ifF hc20 hF
        refine go_exit rfl ?_
        obtain rfl := someI hF
        exact Goes.weak (J2 (a17_0, a17_1) _ e17 w17 f17_0) (Sub.cons (Sub.cons (Sub.cons (Sub.cons (Sub.cons (Sub.nil _) rfl) rfl) rfl) rfl) rfl)
theorem s_ref05_Fold (n : Nat) {h : Heap} (hw : Wf h) (p0 : (List TKV)) (p1 : (List TEvent)) {a0_0 : Option Addr} {c0_0 : Nat} {a1_0 : Option Addr} {c1_0 : Nat} (f0_0 : RL R_TKV h a0_0 c0_0 p0) (f1_0 : RL R_TEvent h a1_0 c1_0 p1) {r : (List TKV)} (hF : F_ref05_Fold n p0 p1 = some r) :
    Ev EE 21 [.slice a0_0 p0.length c0_0, .slice a1_0 p1.length c1_0] h (fun v h1 => ∃ a0 c0, v = .slice a0 r.length c0 ∧ RL R_TKV h1 a0 c0 r) := by
  unfold F_ref05_Fold at hF
  refine ev_of hw rfl at_21 rfl rfl (go_seg0 ?_)
  refine go_seq ?_
  refine go_region ?_
  refine gAc rfl rfl ?_
  refine go_nil ?_
  refine go_seq ?_
  refine go_seq ?_
  refine go_region ?_
  refine gAc rfl rfl ?_
  refine go_nil ?_
  replace hF := obind hF
  obtain ⟨s1, hF, hK1⟩ := hF
  refine go_joinc (β := Option Addr × Nat) (fun s h' => RL R_TKV h' s.1 s.2 s1) (fun s => [(0, true, .slice s.1 s1.length s.2), (4, true, .slice none 0 0)]) (fun s => (List.flatten [] : List Blk)) ?_ (fun J1 => ?_)
  ·
    rintro ⟨a1_0, a1_1⟩ h1 e1 w1 f1_0
    replace hF := hK1
    refine go_seq ?_
    refine go_region ?_
    refine gM rfl rfl ?_
    refine gA rfl rfl ?_
    refine go_nil ?_
    obtain rfl := someI hF
    exact g_ret (rst rfl rs0) (fun h1 hf hs => ⟨(e1.trans hs.hext), ⟨_, _, rfl, (f1_0.ext hs.hext.kn)⟩⟩)
  ·
    refine go_block ?_
    refine go_loop (α := (List TEvent) × Nat × (List TKV) × Option Addr × Nat × Heap) (fun a => a.1 = List.drop a.2.1 p1 ∧ HExt h a.2.2.2.2.2 ∧ Wf a.2.2.2.2.2 ∧ F_ref05_Fold_L1 n a.1 a.2.1 a.2.2.1 = some s1 ∧ RL R_TKV a.2.2.2.2.2 a.2.2.2.1 a.2.2.2.2.1 a.2.2.1) (fun a => a.1.length) (fun a => [(0, true, .slice a.2.2.2.1 a.2.2.1.length a.2.2.2.2.1), (1, true, .slice a1_0 p1.length c1_0), (4, true, .slice none 0 0), (5, true, .int .i64 (a.2.1 : Int))]) (fun a => (List.flatten [] : List Blk)) (fun a => a.2.2.2.2.2) ?_ (p1, 0, p0, a0_0, c0_0, h) ⟨rfl, HExt.refl _, hw, hF, f0_0⟩ (Sub.cons (Sub.cons (Sub.cons (Sub.cons (Sub.nil _) rfl) rfl) rfl) rfl) rfl rfl
    rintro ⟨r2, i2, y2_0, a2_0, a2_1, h2⟩ ⟨hr2, e2, w2, hF, f2_0⟩ ih2
    rcases r2 with _ | ⟨z2, r2⟩
    ·
      have hi2 := drop_nil hr2
      rw [F_ref05_Fold_L1.eq_1] at hF
      refine go_seq ?_
      refine go_seq ?_
      refine go_region ?_
      refine gM rfl rfl ?_
      refine gM rfl rfl ?_
      refine gr rfl (r_len rfl (os1 (ot rfl) os0) (fun _ _ => ln_22)) ?_
      refine gr rfl (r_bin (ot rfl) (ot rfl) rfl) ?_
      refine go_cast (.bool false) (congrArg Value.bool (decide_eq_false hi2)) ?_
      refine go_nil ?_
      refine g_cond (b := false) (ot rfl) (fun hc3 => ?_) (fun hc3 => ?_)
      · cases hc3
      refine go_exit rfl ?_
      obtain rfl := someI hF
      exact Goes.weak (J1 (a2_0, a2_1) _ e2 w2 f2_0) (Sub.cons (Sub.cons (Sub.nil _) rfl) rfl)
    ·
      obtain ⟨hi2, hx2, hr2⟩ := drop_cons hr2
      have hb2 := (f1_0.ext e2.kn).1
      rw [F_ref05_Fold_L1.eq_2] at hF
      refine go_seq ?_
      refine go_seq ?_
      refine go_region ?_
      refine gM rfl rfl ?_
      refine gM rfl rfl ?_
      refine gr rfl (r_len rfl (os1 (ot rfl) os0) (fun _ _ => ln_22)) ?_
      refine gr rfl (r_bin (ot rfl) (ot rfl) rfl) ?_
      refine go_cast (.bool true) (congrArg Value.bool (decide_eq_true (Int.ofNat_lt.mpr hi2))) ?_
      refine go_nil ?_
      refine g_cond (b := true) (ot rfl) (fun hc4 => ?_) (fun hc4 => ?_)
      rotate_left
      · cases hc4
      refine go_skip ?_
      refine go_seq ?_
      refine go_block ?_
      refine go_region ?_
      refine gM rfl rfl ?_
      refine gM rfl rfl ?_
      refine gM rfl rfl ?_
      obtain ⟨q5, row5, i5, cl5, rc5, sp5⟩ := ix (ik := .i64) (cap := c1_0) (E := EE) (f1_0.ext e2.kn) ((getI_nat _ _).trans hx2) ut_22 sz_40 rfl
      obtain rfl := rc5
      refine gr rfl (r_ia (ot rfl) (ot rfl) i5) ?_
      refine gr rfl (r_load (ot rfl) (v := .agg #[.int .i64 z2.Rev, .string z2.Key, .string z2.Val, .bool z2.Del]) (lo_e (fun hf kn => ld_of (r := [.int .i64 z2.Rev, .string z2.Key, .string z2.Val, .bool z2.Del]) ag_40 sz_40 (kn.cellsAt cl5)))) ?_
      replace hF := obind hF
      obtain ⟨x6, hx6, hF⟩ := hF
      refine g_call EE_fr (fun _ h => by cases h; rfl) of (os1 (ot rfl) (os1 (ot rfl) os0)) hb_39 (fun hf kn w => by exact s_ref05_One n w y2_0 z2 (f2_0.ext kn) hx6) ?_
      rintro v6 h6 e6 w6 ⟨a6_0, c6_0, rfl, f6_0⟩
      refine gA rfl rfl ?_
      refine go_nil ?_
      refine go_endb ?_
      refine go_region ?_
      refine gM rfl rfl ?_
      refine gr rfl (r_bin (ot rfl) (oc rfl) rfl) ?_
      refine gA rfl rfl ?_
      refine go_nil ?_
      refine go_re 5 (v2 := .int .i64 ((i2 + 1 : Nat) : Int)) rfl (wrap_succ hi2 hb2) ?_
      exact Goes.weak (ih2 (r2, i2 + 1, x6, a6_0, c6_0, h6) ⟨hr2, (e2.trans e6), w6, hF, f6_0⟩ (Nat.lt_succ_self _)) (Sub.cons (Sub.cons (Sub.cons (Sub.cons (Sub.nil _) rfl) rfl) rfl) rfl)
theorem s_ref04_In {h : Heap} (hw : Wf h) (p0 : TRange) (p1 : ByteArray)   {r : Bool} (hF : F_ref04_In p0 p1 = some r) :
    Ev EE 29 [.agg #[.string p0.From, .string p0.To], .string p1] h (fun v _ => v = .bool r) := by
  unfold F_ref04_In at hF
  refine ev_of hw rfl at_29 rfl rfl (go_seg0 ?_)
  refine go_seq ?_
  refine go_region ?_
  refine gs_box rfl (ot rfl) rfl ?_; intro b2_1
  refine gAc rfl rfl ?_
  refine go_nil ?_
  refine go_seq ?_
  refine go_region ?_
  refine gM rfl rfl ?_
  refine gr rfl (r_fa (ot rfl) (fa_24_0 _ _)) ?_
  refine gr rfl (r_load (ot rfl) (lm_s (mem_seg 0 rfl) ag_9 rfl)) ?_
  refine gr rfl (r_bin (ot rfl) (ot rfl) rfl) ?_
  refine gM rfl rfl ?_
  refine grt rfl rfl rfl rfl (r_fa (ot rfl) (fa_24_1 _ _)) ?_
  refine grt rfl rfl rfl rfl (r_load (og rfl id) (lm_s (mem_seg 0 rfl) ag_9 rfl)) ?_
  refine grt rfl rfl rfl rfl (r_bin (og rfl id) (oc rfl) rfl) ?_
  refine grt rfl rfl rfl rfl (r_move (og rfl id)) ?_
  refine grf' rfl rfl rfl rfl (r_move (ot rfl)) ?_
  refine grf' rfl rfl rfl rfl (r_fa (ot rfl) (fa_24_1 _ _)) ?_
  refine grf' rfl rfl rfl rfl (r_load (og rfl id) (lm_s (mem_seg 0 rfl) ag_9 rfl)) ?_
  refine grf' rfl rfl rfl rfl (r_bin (og rfl id) (og rfl id) rfl) ?_
  refine grt rfl rfl rfl rfl (r_pickb (og rfl id) (oc rfl) (og rfl id)) ?_
  refine gr rfl (r_pickb (ot rfl) (og rfl id) (oc rfl)) ?_
  refine gA rfl rfl ?_
  refine go_nil ?_
  obtain rfl := someI hF
  exact g_ret (rst rfl rs0) (fun h1 hf hs => ⟨hs.hext, rfl⟩)
theorem s_ref05_Filter {h : Heap} (hw : Wf h) (p0 : (List TEvent)) (p1 : TRange) {a0_0 : Option Addr} {c0_0 : Nat} (f0_0 : RL R_TEvent h a0_0 c0_0 p0) {r : (List TEvent)} (hF : F_ref05_Filter p0 p1 = some r) :
    Ev EE 15 [.slice a0_0 p0.length c0_0, .agg #[.string p1.From, .string p1.To]] h (fun v h1 => ∃ a0 c0, v = .slice a0 r.length c0 ∧ RL R_TEvent h1 a0 c0 r) := by
  unfold F_ref05_Filter at hF
  refine ev_of hw rfl at_15 rfl rfl (go_seg0 ?_)
  refine go_seq ?_
  refine go_region ?_
  refine gs_box rfl (ot rfl) rfl ?_; intro b3_1
  refine gAc rfl rfl ?_
  refine go_nil ?_
  refine go_seq ?_
  refine go_region ?_
  refine gAc rfl rfl ?_
  refine go_nil ?_
  refine go_seq ?_
  refine go_seq ?_
  refine go_region ?_
  refine gAc rfl rfl ?_
  refine go_nil ?_
  replace hF := obind hF
  obtain ⟨s2, hF, hK2⟩ := hF
  refine go_joinc (β := Option Addr × List Blk) (fun s h' => AccR R_TEvent 40 h' s.2 (.slice s.1 s2.length s2.length) s2) (fun s => [(4, true, .slice none 0 0), (5, true, .slice s.1 s2.length s2.length)]) (fun s => (List.flatten [s.2, [⟨b3_1, .cells [.string p1.From, .string p1.To] 24⟩]] : List Blk)) ?_ (fun J2 => ?_)
  ·
    rintro ⟨a2_0, a2_1⟩ h2 e2 w2 f2_0
    replace hF := hK2
    refine go_seq ?_
    refine go_region ?_
    refine gM rfl rfl ?_
    refine gA rfl rfl ?_
    refine go_nil ?_
    refine gs_accpub .z f2_0 (fun h3 e3 w3 f3_ => ?_) rfl
    obtain rfl := someI hF
    exact g_ret (rst rfl rs0) (fun h1 hf hs => ⟨(e2.trans (e3.trans hs.hext)), ⟨_, _, rfl, (f3_.ext hs.hext.kn)⟩⟩)
  ·
    refine go_block ?_
    refine go_loop (α := (List TEvent) × Nat × (List TEvent) × Option Addr × List Blk × Heap) (fun a => a.1 = List.drop a.2.1 p0 ∧ HExt h a.2.2.2.2.2 ∧ Wf a.2.2.2.2.2 ∧ F_ref05_Filter_L1 p1 a.1 a.2.1 a.2.2.1 = some s2 ∧ AccR R_TEvent 40 a.2.2.2.2.2 a.2.2.2.2.1 (.slice a.2.2.2.1 a.2.2.1.length a.2.2.1.length) a.2.2.1) (fun a => a.1.length) (fun a => [(0, true, .slice a0_0 p0.length c0_0), (3, true, .pointer (some ⟨b3_1, 0, none⟩)), (4, true, .slice none 0 0), (5, true, .slice a.2.2.2.1 a.2.2.1.length a.2.2.1.length), (6, true, .int .i64 (a.2.1 : Int))]) (fun a => (List.flatten [a.2.2.2.2.1, [⟨b3_1, .cells [.string p1.From, .string p1.To] 24⟩]] : List Blk)) (fun a => a.2.2.2.2.2) ?_ (p0, 0, ([] : List TEvent), none, [], h) ⟨rfl, HExt.refl _, hw, hF, (AccR.nil _ _ _)⟩ (Sub.cons (Sub.cons (Sub.cons (Sub.cons (Sub.cons (Sub.nil _) rfl) rfl) rfl) rfl) rfl) rfl rfl
    rintro ⟨r4, i4, y4_0, a4_0, a4_1, h4⟩ ⟨hr4, e4, w4, hF, f4_0⟩ ih4
    rcases r4 with _ | ⟨z4, r4⟩
    ·
      have hi4 := drop_nil hr4
      rw [F_ref05_Filter_L1.eq_1] at hF
      refine go_seq ?_
      refine go_seq ?_
      refine go_region ?_
      refine gM rfl rfl ?_
      refine gM rfl rfl ?_
      refine gr rfl (r_len rfl (os1 (ot rfl) os0) (fun _ _ => ln_22)) ?_
      refine gr rfl (r_bin (ot rfl) (ot rfl) rfl) ?_
      refine go_cast (.bool false) (congrArg Value.bool (decide_eq_false hi4)) ?_
      refine go_nil ?_
      refine g_cond (b := false) (ot rfl) (fun hc5 => ?_) (fun hc5 => ?_)
      · cases hc5
      refine go_exit rfl ?_
      obtain rfl := someI hF
      exact Goes.weak (J2 (a4_0, a4_1) _ e4 w4 f4_0) (Sub.cons (Sub.cons (Sub.nil _) rfl) rfl)
    ·
      obtain ⟨hi4, hx4, hr4⟩ := drop_cons hr4
      have hb4 := (f0_0.ext e4.kn).1
      rw [F_ref05_Filter_L1.eq_2] at hF
      refine go_seq ?_
      refine go_seq ?_
      refine go_region ?_
      refine gM rfl rfl ?_
      refine gM rfl rfl ?_
      refine gr rfl (r_len rfl (os1 (ot rfl) os0) (fun _ _ => ln_22)) ?_
      refine gr rfl (r_bin (ot rfl) (ot rfl) rfl) ?_
      refine go_cast (.bool true) (congrArg Value.bool (decide_eq_true (Int.ofNat_lt.mpr hi4))) ?_
      refine go_nil ?_
      refine g_cond (b := true) (ot rfl) (fun hc6 => ?_) (fun hc6 => ?_)
      rotate_left
      · cases hc6
      refine go_skip ?_
      refine go_seq ?_
      refine go_block ?_
      refine go_seq ?_
      refine go_regions (L := [(0, []), (1, []), (2, []), (3, []), (4, []), (5, []), (6, [])]) (by kernel_rfl) (by kernel_rfl) (fun _ => rfl) ?_
      refine go_sop rfl rfl ?_
      refine gr rfl (r_load (ot rfl) (lm_w (mem_seg 1 rfl) ag_24 sz_24 rfl)) ?_
      refine go_nil ?_
      refine go_sop rfl rfl ?_
      refine gM rfl rfl ?_
      refine go_nil ?_
      refine go_sop rfl rfl ?_
      refine gM rfl rfl ?_
      refine go_nil ?_
      refine go_sop rfl rfl ?_
      obtain ⟨q7, row7, i7, cl7, rc7, sp7⟩ := ix (ik := .i64) (cap := c0_0) (E := EE) (f0_0.ext e4.kn) ((getI_nat _ _).trans hx4) ut_22 sz_40 rfl
      obtain rfl := rc7
      refine gr rfl (r_ia (ot rfl) (ot rfl) i7) ?_
      refine go_nil ?_
      refine go_sop rfl rfl ?_
      refine gr rfl (r_fa (ot rfl) (fs_40_1 sp7)) ?_
      refine go_nil ?_
      refine go_sop rfl rfl ?_
      refine gr rfl (r_load (ot rfl) (v := .string z4.Key) (lo_e (fun hf kn => ld_field (r := [.int .i64 z4.Rev, .string z4.Key, .string z4.Val, .bool z4.Del]) ag_9 (kn.cellsAt cl7) rfl))) ?_
      refine go_nil ?_
      refine go_sop rfl rfl ?_
      replace hF := obind hF
      obtain ⟨x8, hx8, hF⟩ := hF
      refine g_callp (v := .bool x8) EE_fr rfl of (os1 (ot rfl) (os1 (ot rfl) os0)) hb_29 (fun _ => rfl) (fun hf kn w => by exact s_ref04_In w p1 z4.Key  hx8) ?_
      refine go_nil ?_
      refine go_snil ?_
      replace hF := obind hF
      obtain ⟨s10, hF, hK10⟩ := hF
      refine go_joinc (β := Option Addr × List Blk) (fun s h' => AccR R_TEvent 40 h' s.2 (.slice s.1 s10.length s10.length) s10) (fun s => [(0, true, .slice a0_0 p0.length c0_0), (3, true, .pointer (some ⟨b3_1, 0, none⟩)), (4, true, .slice none 0 0), (5, true, .slice s.1 s10.length s10.length), (6, true, .int .i64 (i4 : Int)), (7, true, .int .i64 (i4 : Int)), (8, true, .slice a0_0 p0.length c0_0), (9, true, .int .i64 (p0.length : Int)), (10, true, .bool true), (13, true, .agg #[.string p1.From, .string p1.To]), (14, true, .slice a0_0 p0.length c0_0), (15, true, .int .i64 (i4 : Int)), (16, true, .pointer (some q7)), (17, true, .pointer (some ⟨q7.block, q7.off + 1, q7.spot⟩)), (18, true, .string z4.Key), (19, true, .bool x8)]) (fun s => (List.flatten [s.2, [⟨b3_1, .cells [.string p1.From, .string p1.To] 24⟩]] : List Blk)) ?_ (fun J10 => ?_)
      ·
        rintro ⟨a10_0, a10_1⟩ h10 e10 w10 f10_0
        replace hF := hK10
        refine go_endb ?_
        refine go_region ?_
        refine gM rfl rfl ?_
        refine gr rfl (r_bin (ot rfl) (oc rfl) rfl) ?_
        refine gA rfl rfl ?_
        refine go_nil ?_
        refine go_re 6 (v2 := .int .i64 ((i4 + 1 : Nat) : Int)) rfl (wrap_succ hi4 hb4) ?_
        exact Goes.weak (ih4 (r4, i4 + 1, s10, a10_0, a10_1, h10) ⟨hr4, (e4.trans e10), w10, hF, f10_0⟩ (Nat.lt_succ_self _)) (Sub.cons (Sub.cons (Sub.cons (Sub.cons (Sub.cons (Sub.nil _) rfl) rfl) rfl) rfl) rfl)
      ·
        refine g_cond (b := x8) (ot rfl) (fun hc9 => ?_) (fun hc9 => ?_)
        ·
          replace hF := ifT hc9 hF
          refine go_region ?_
          refine gM rfl rfl ?_
          refine gM rfl rfl ?_
          refine gM rfl rfl ?_
          obtain ⟨q11, row11, i11, cl11, rc11, sp11⟩ := ix (ik := .i64) (cap := c0_0) (E := EE) (f0_0.ext e4.kn) ((getI_nat _ _).trans hx4) ut_22 sz_40 rfl
          obtain rfl := rc11
          refine gr rfl (r_ia (ot rfl) (ot rfl) i11) ?_
          refine gr rfl (r_load (ot rfl) (v := .agg #[.int .i64 z4.Rev, .string z4.Key, .string z4.Val, .bool z4.Del]) (lo_e (fun hf kn => ld_of (r := [.int .i64 z4.Rev, .string z4.Key, .string z4.Val, .bool z4.Del]) ag_40 sz_40 (kn.cellsAt cl11)))) ?_
          refine gs_bslice (cs := [.int .i64 z4.Rev, .string z4.Key, .string z4.Val, .bool z4.Del]) rfl (op1 (ot rfl) op0) ut_22 sz_40 zo_40 rfl rfl ?_; intro b25_12
          replace hF := obind hF
          obtain ⟨x13, hx13, hF⟩ := hF
          obtain ⟨hr13, hz13_⟩ := appL_some hx13; subst x13
          refine gs_front (.s (.z)) ?_
          refine gs_app (rows2 := [[.int .i64 z4.Rev, .string z4.Key, .string z4.Val, .bool z4.Del]]) (R := R_TEvent) rfl (os1 (ot rfl) (os1 (ot rfl) os0)) rfl ut_22 sz_40 rfl (by decide) by_40 zo_40 rfl zs_22_22 rfl rfl (first_m (mem_seg 1 rfl) rfl (by decide)) (Rws.one (x := z4) rfl) f4_0 hr13 (fun p13_ tl13 f13_ => ?_)
          refine gA rfl rfl ?_
          refine go_nil ?_
          obtain rfl := someI hF
          refine gs_sub (.cons_cons _ (.cons _ (.cons_cons _ (.refl _)))) ?_
          exact Goes.weak (J10 (p13_, tl13) _ (HExt.refl _) w4 f13_) (Sub.cons (Sub.cons (Sub.cons (Sub.cons (Sub.cons (Sub.cons (Sub.cons (Sub.cons (Sub.cons (Sub.cons (Sub.cons (Sub.cons (Sub.cons (Sub.cons (Sub.cons (Sub.cons (Sub.nil _) rfl) rfl) rfl) rfl) rfl) rfl) rfl) rfl) rfl) rfl) rfl) rfl) rfl) rfl) rfl) rfl)
        ·
          replace hF := ifF hc9 hF
          refine go_skip ?_
          obtain rfl := someI hF
          exact Goes.weak (J10 (a4_0, a4_1) _ (HExt.refl _) w4 f4_0) (Sub.cons (Sub.cons (Sub.cons (Sub.cons (Sub.cons (Sub.cons (Sub.cons (Sub.cons (Sub.cons (Sub.cons (Sub.cons (Sub.cons (Sub.cons (Sub.cons (Sub.cons (Sub.cons (Sub.nil _) rfl) rfl) rfl) rfl) rfl) rfl) rfl) rfl) rfl) rfl) rfl) rfl) rfl) rfl) rfl) rfl)
theorem s_ref05_Restrict {h : Heap} (hw : Wf h) (p0 : (List TKV)) (p1 : TRange) {a0_0 : Option Addr} {c0_0 : Nat} (f0_0 : RL R_TKV h a0_0 c0_0 p0) {r : (List TKV)} (hF : F_ref05_Restrict p0 p1 = some r) :
    Ev EE 23 [.slice a0_0 p0.length c0_0, .agg #[.string p1.From, .string p1.To]] h (fun v h1 => ∃ a0 c0, v = .slice a0 r.length c0 ∧ RL R_TKV h1 a0 c0 r) := by
  unfold F_ref05_Restrict at hF
  refine ev_of hw rfl at_23 rfl rfl (go_seg0 ?_)
  refine go_seq ?_
  refine go_region ?_
  refine gs_box rfl (ot rfl) rfl ?_; intro b3_1
  refine gAc rfl rfl ?_
  refine go_nil ?_
  refine go_seq ?_
  refine go_region ?_
  refine gAc rfl rfl ?_
  refine go_nil ?_
  refine go_seq ?_
  refine go_seq ?_
  refine go_region ?_
  refine gAc rfl rfl ?_
  refine go_nil ?_
  replace hF := obind hF
  obtain ⟨s2, hF, hK2⟩ := hF
  refine go_joinc (β := Option Addr × List Blk) (fun s h' => AccR R_TKV 44 h' s.2 (.slice s.1 s2.length s2.length) s2) (fun s => [(4, true, .slice none 0 0), (5, true, .slice s.1 s2.length s2.length)]) (fun s => (List.flatten [s.2, [⟨b3_1, .cells [.string p1.From, .string p1.To] 24⟩]] : List Blk)) ?_ (fun J2 => ?_)
  ·
    rintro ⟨a2_0, a2_1⟩ h2 e2 w2 f2_0
    replace hF := hK2
    refine go_seq ?_
    refine go_region ?_
    refine gM rfl rfl ?_
    refine gA rfl rfl ?_
    refine go_nil ?_
    refine gs_accpub .z f2_0 (fun h3 e3 w3 f3_ => ?_) rfl
    obtain rfl := someI hF
    exact g_ret (rst rfl rs0) (fun h1 hf hs => ⟨(e2.trans (e3.trans hs.hext)), ⟨_, _, rfl, (f3_.ext hs.hext.kn)⟩⟩)
  ·
    refine go_block ?_
    refine go_loop (α := (List TKV) × Nat × (List TKV) × Option Addr × List Blk × Heap) (fun a => a.1 = List.drop a.2.1 p0 ∧ HExt h a.2.2.2.2.2 ∧ Wf a.2.2.2.2.2 ∧ F_ref05_Restrict_L1 p1 a.1 a.2.1 a.2.2.1 = some s2 ∧ AccR R_TKV 44 a.2.2.2.2.2 a.2.2.2.2.1 (.slice a.2.2.2.1 a.2.2.1.length a.2.2.1.length) a.2.2.1) (fun a => a.1.length) (fun a => [(0, true, .slice a0_0 p0.length c0_0), (3, true, .pointer (some ⟨b3_1, 0, none⟩)), (4, true, .slice none 0 0), (5, true, .slice a.2.2.2.1 a.2.2.1.length a.2.2.1.length), (6, true, .int .i64 (a.2.1 : Int))]) (fun a => (List.flatten [a.2.2.2.2.1, [⟨b3_1, .cells [.string p1.From, .string p1.To] 24⟩]] : List Blk)) (fun a => a.2.2.2.2.2) ?_ (p0, 0, ([] : List TKV), none, [], h) ⟨rfl, HExt.refl _, hw, hF, (AccR.nil _ _ _)⟩ (Sub.cons (Sub.cons (Sub.cons (Sub.cons (Sub.cons (Sub.nil _) rfl) rfl) rfl) rfl) rfl) rfl rfl
    rintro ⟨r4, i4, y4_0, a4_0, a4_1, h4⟩ ⟨hr4, e4, w4, hF, f4_0⟩ ih4
    rcases r4 with _ | ⟨z4, r4⟩
    ·
      have hi4 := drop_nil hr4
      rw [F_ref05_Restrict_L1.eq_1] at hF
      refine go_seq ?_
      refine go_seq ?_
      refine go_region ?_
      refine gM rfl rfl ?_
      refine gM rfl rfl ?_
      refine gr rfl (r_len rfl (os1 (ot rfl) os0) (fun _ _ => ln_33)) ?_
      refine gr rfl (r_bin (ot rfl) (ot rfl) rfl) ?_
      refine go_cast (.bool false) (congrArg Value.bool (decide_eq_false hi4)) ?_
      refine go_nil ?_
      refine g_cond (b := false) (ot rfl) (fun hc5 => ?_) (fun hc5 => ?_)
      · cases hc5
      refine go_exit rfl ?_
      obtain rfl := someI hF
      exact Goes.weak (J2 (a4_0, a4_1) _ e4 w4 f4_0) (Sub.cons (Sub.cons (Sub.nil _) rfl) rfl)
    ·
      obtain ⟨hi4, hx4, hr4⟩ := drop_cons hr4
      have hb4 := (f0_0.ext e4.kn).1
      rw [F_ref05_Restrict_L1.eq_2] at hF
      refine go_seq ?_
      refine go_seq ?_
      refine go_region ?_
      refine gM rfl rfl ?_
      refine gM rfl rfl ?_
      refine gr rfl (r_len rfl (os1 (ot rfl) os0) (fun _ _ => ln_33)) ?_
      refine gr rfl (r_bin (ot rfl) (ot rfl) rfl) ?_
      refine go_cast (.bool true) (congrArg Value.bool (decide_eq_true (Int.ofNat_lt.mpr hi4))) ?_
      refine go_nil ?_
      refine g_cond (b := true) (ot rfl) (fun hc6 => ?_) (fun hc6 => ?_)
      rotate_left
      · cases hc6
      refine go_skip ?_
      refine go_seq ?_
      refine go_block ?_
      refine go_seq ?_
      refine go_regions (L := [(0, []), (1, []), (2, []), (3, []), (4, []), (5, []), (6, [])]) (by kernel_rfl) (by kernel_rfl) (fun _ => rfl) ?_
      refine go_sop rfl rfl ?_
      refine gr rfl (r_load (ot rfl) (lm_w (mem_seg 1 rfl) ag_24 sz_24 rfl)) ?_
      refine go_nil ?_
      refine go_sop rfl rfl ?_
      refine gM rfl rfl ?_
      refine go_nil ?_
      refine go_sop rfl rfl ?_
      refine gM rfl rfl ?_
      refine go_nil ?_
      refine go_sop rfl rfl ?_
      obtain ⟨q7, row7, i7, cl7, rc7, sp7⟩ := ix (ik := .i64) (cap := c0_0) (E := EE) (f0_0.ext e4.kn) ((getI_nat _ _).trans hx4) ut_33 sz_44 rfl
      obtain rfl := rc7
      refine gr rfl (r_ia (ot rfl) (ot rfl) i7) ?_
      refine go_nil ?_
      refine go_sop rfl rfl ?_
      refine gr rfl (r_fa (ot rfl) (fs_44_0 sp7)) ?_
      refine go_nil ?_
      refine go_sop rfl rfl ?_
      refine gr rfl (r_load (ot rfl) (v := .string z4.Key) (lo_e (fun hf kn => ld_field (r := [.string z4.Key, .string z4.Val, .int .i64 z4.Rev]) ag_9 (kn.cellsAt cl7) rfl))) ?_
      refine go_nil ?_
      refine go_sop rfl rfl ?_
      replace hF := obind hF
      obtain ⟨x8, hx8, hF⟩ := hF
      refine g_callp (v := .bool x8) EE_fr rfl of (os1 (ot rfl) (os1 (ot rfl) os0)) hb_29 (fun _ => rfl) (fun hf kn w => by exact s_ref04_In w p1 z4.Key  hx8) ?_
      refine go_nil ?_
      refine go_snil ?_
      replace hF := obind hF
      obtain ⟨s10, hF, hK10⟩ := hF
      refine go_joinc (β := Option Addr × List Blk) (fun s h' => AccR R_TKV 44 h' s.2 (.slice s.1 s10.length s10.length) s10) (fun s => [(0, true, .slice a0_0 p0.length c0_0), (3, true, .pointer (some ⟨b3_1, 0, none⟩)), (4, true, .slice none 0 0), (5, true, .slice s.1 s10.length s10.length), (6, true, .int .i64 (i4 : Int)), (7, true, .int .i64 (i4 : Int)), (8, true, .slice a0_0 p0.length c0_0), (9, true, .int .i64 (p0.length : Int)), (10, true, .bool true), (13, true, .agg #[.string p1.From, .string p1.To]), (14, true, .slice a0_0 p0.length c0_0), (15, true, .int .i64 (i4 : Int)), (16, true, .pointer (some q7)), (17, true, .pointer (some ⟨q7.block, q7.off + 0, q7.spot⟩)), (18, true, .string z4.Key), (19, true, .bool x8)]) (fun s => (List.flatten [s.2, [⟨b3_1, .cells [.string p1.From, .string p1.To] 24⟩]] : List Blk)) ?_ (fun J10 => ?_)
      ·
        rintro ⟨a10_0, a10_1⟩ h10 e10 w10 f10_0
        replace hF := hK10
        refine go_endb ?_
        refine go_region ?_
        refine gM rfl rfl ?_
        refine gr rfl (r_bin (ot rfl) (oc rfl) rfl) ?_
        refine gA rfl rfl ?_
        refine go_nil ?_
        refine go_re 6 (v2 := .int .i64 ((i4 + 1 : Nat) : Int)) rfl (wrap_succ hi4 hb4) ?_
        exact Goes.weak (ih4 (r4, i4 + 1, s10, a10_0, a10_1, h10) ⟨hr4, (e4.trans e10), w10, hF, f10_0⟩ (Nat.lt_succ_self _)) (Sub.cons (Sub.cons (Sub.cons (Sub.cons (Sub.cons (Sub.nil _) rfl) rfl) rfl) rfl) rfl)
      ·
        refine g_cond (b := x8) (ot rfl) (fun hc9 => ?_) (fun hc9 => ?_)
        ·
          replace hF := ifT hc9 hF
          refine go_region ?_
          refine gM rfl rfl ?_
          refine gM rfl rfl ?_
          refine gM rfl rfl ?_
          obtain ⟨q11, row11, i11, cl11, rc11, sp11⟩ := ix (ik := .i64) (cap := c0_0) (E := EE) (f0_0.ext e4.kn) ((getI_nat _ _).trans hx4) ut_33 sz_44 rfl
          obtain rfl := rc11
          refine gr rfl (r_ia (ot rfl) (ot rfl) i11) ?_
          refine gr rfl (r_load (ot rfl) (v := .agg #[.string z4.Key, .string z4.Val, .int .i64 z4.Rev]) (lo_e (fun hf kn => ld_of (r := [.string z4.Key, .string z4.Val, .int .i64 z4.Rev]) ag_44 sz_44 (kn.cellsAt cl11)))) ?_
          refine gs_bslice (cs := [.string z4.Key, .string z4.Val, .int .i64 z4.Rev]) rfl (op1 (ot rfl) op0) ut_33 sz_44 zo_44 rfl rfl ?_; intro b25_12
          replace hF := obind hF
          obtain ⟨x13, hx13, hF⟩ := hF
          obtain ⟨hr13, hz13_⟩ := appL_some hx13; subst x13
          refine gs_front (.s (.z)) ?_
          refine gs_app (rows2 := [[.string z4.Key, .string z4.Val, .int .i64 z4.Rev]]) (R := R_TKV) rfl (os1 (ot rfl) (os1 (ot rfl) os0)) rfl ut_33 sz_44 rfl (by decide) by_44 zo_44 rfl zs_33_33 rfl rfl (first_m (mem_seg 1 rfl) rfl (by decide)) (Rws.one (x := z4) rfl) f4_0 hr13 (fun p13_ tl13 f13_ => ?_)
          refine gA rfl rfl ?_
          refine go_nil ?_
          obtain rfl := someI hF
          refine gs_sub (.cons_cons _ (.cons _ (.cons_cons _ (.refl _)))) ?_
          exact Goes.weak (J10 (p13_, tl13) _ (HExt.refl _) w4 f13_) (Sub.cons (Sub.cons (Sub.cons (Sub.cons (Sub.cons (Sub.cons (Sub.cons (Sub.cons (Sub.cons (Sub.cons (Sub.cons (Sub.cons (Sub.cons (Sub.cons (Sub.cons (Sub.cons (Sub.nil _) rfl) rfl) rfl) rfl) rfl) rfl) rfl) rfl) rfl) rfl) rfl) rfl) rfl) rfl) rfl) rfl)
        ·
          replace hF := ifF hc9 hF
          refine go_skip ?_
          obtain rfl := someI hF
          exact Goes.weak (J10 (a4_0, a4_1) _ (HExt.refl _) w4 f4_0) (Sub.cons (Sub.cons (Sub.cons (Sub.cons (Sub.cons (Sub.cons (Sub.cons (Sub.cons (Sub.cons (Sub.cons (Sub.cons (Sub.cons (Sub.cons (Sub.cons (Sub.cons (Sub.cons (Sub.nil _) rfl) rfl) rfl) rfl) rfl) rfl) rfl) rfl) rfl) rfl) rfl) rfl) rfl) rfl) rfl) rfl)
theorem s_cmp_isNaN {h : Heap} (hw : Wf h) (p0 : ByteArray)   {r : Bool} (hF : F_cmp_isNaN p0 = some r) :
    Ev EE 46 [.string p0] h (fun v _ => v = .bool r) := by
  unfold F_cmp_isNaN at hF
  refine ev_of hw rfl at_46 rfl rfl (go_seg0 ?_)
  refine go_seq ?_
  refine go_region ?_
  refine gAc rfl rfl ?_
  refine go_nil ?_
  refine go_seq ?_
  refine go_region ?_
  refine gM rfl rfl ?_
  refine gM rfl rfl ?_
  refine gr rfl (r_bin (ot rfl) (ot rfl) rfl) ?_
  refine gA rfl rfl ?_
  refine go_nil ?_
  obtain rfl := someI hF
  exact g_ret (rst rfl rs0) (fun h1 hf hs => ⟨hs.hext, rfl⟩)
theorem s_cmp_Compare {h : Heap} (hw : Wf h) (p0 : ByteArray) (p1 : ByteArray)   {r : Int} (hF : F_cmp_Compare p0 p1 = some r) :
    Ev EE 33 [.string p0, .string p1] h (fun v _ => v = .int .i64 r) := by
  unfold F_cmp_Compare at hF
  refine ev_of hw rfl at_33 rfl rfl (go_seg0 ?_)
  refine go_seq ?_
  refine go_region ?_
  refine gAc rfl rfl ?_
  refine go_nil ?_
  refine go_seq ?_
  refine go_region ?_
  refine gM rfl rfl ?_
  replace hF := obind hF
  obtain ⟨x1, hx1, hF⟩ := hF
  refine g_callp (v := .bool x1) EE_fr rfl of (os1 (ot rfl) os0) hb_46 (fun _ => rfl) (fun hf kn w => by exact s_cmp_isNaN w p0  hx1) ?_
  refine gA rfl rfl ?_
  refine go_nil ?_
  refine go_seq ?_
  refine go_region ?_
  refine gM rfl rfl ?_
  replace hF := obind hF
  obtain ⟨x2, hx2, hF⟩ := hF
  refine g_callp (v := .bool x2) EE_fr rfl of (os1 (ot rfl) os0) hb_46 (fun _ => rfl) (fun hf kn w => by exact s_cmp_isNaN w p1  hx2) ?_
  refine gA rfl rfl ?_
  refine go_nil ?_
  refine go_seq ?_
  refine go_seq ?_
  refine go_region ?_
  refine gM rfl rfl ?_
  refine go_nil ?_
  refine g_cond (b := x1) (ot rfl) (fun hc3 => ?_) (fun hc3 => ?_)
  ·
    replace hF := ifT hc3 hF
    refine go_seq ?_
    refine go_seq ?_
    refine go_region ?_
    refine gM rfl rfl ?_
    refine go_nil ?_
    refine g_cond (b := x2) (ot rfl) (fun hc4 => ?_) (fun hc4 => ?_)
    ·
      replace hF := ifT hc4 hF
      refine go_seq ?_
      refine go_region ?_
      refine gAc rfl rfl ?_
      refine go_nil ?_
      obtain rfl := someI hF
      exact g_ret (rst rfl rs0) (fun h1 hf hs => ⟨hs.hext, rfl⟩)
    ·
      replace hF := ifF hc4 hF
      refine go_skip ?_
      refine go_seq ?_
      refine go_region ?_
      refine gAc rfl rfl ?_
      refine go_nil ?_
      obtain rfl := someI hF
      exact g_ret (rst rfl rs0) (fun h1 hf hs => ⟨hs.hext, rfl⟩)
  ·
    replace hF := ifF hc3 hF
    refine go_skip ?_
    refine go_seq ?_
    refine go_seq ?_
    refine go_region ?_
    refine gM rfl rfl ?_
    refine go_nil ?_
    refine g_cond (b := x2) (ot rfl) (fun hc5 => ?_) (fun hc5 => ?_)
    ·
      replace hF := ifT hc5 hF
      refine go_seq ?_
      refine go_region ?_
      refine gAc rfl rfl ?_
      refine go_nil ?_
      obtain rfl := someI hF
      exact g_ret (rst rfl rs0) (fun h1 hf hs => ⟨hs.hext, rfl⟩)
    ·
      replace hF := ifF hc5 hF
      refine go_skip ?_
      refine go_seq ?_
      refine go_seq ?_
      refine go_region ?_
      refine gM rfl rfl ?_
      refine gM rfl rfl ?_
      refine gr rfl (r_bin (ot rfl) (ot rfl) rfl) ?_
      refine go_nil ?_
      refine g_cond (b := (lessB p0 p1)) (ot rfl) (fun hc6 => ?_) (fun hc6 => ?_)
      ·
        replace hF := ifT hc6 hF
        refine go_seq ?_
        refine go_region ?_
        refine gAc rfl rfl ?_
        refine go_nil ?_
        obtain rfl := someI hF
        exact g_ret (rst rfl rs0) (fun h1 hf hs => ⟨hs.hext, rfl⟩)
      ·
        replace hF := ifF hc6 hF
        refine go_skip ?_
        refine go_seq ?_
        refine go_seq ?_
        refine go_region ?_
        refine gM rfl rfl ?_
        refine gM rfl rfl ?_
        refine gr rfl (r_bin (ot rfl) (ot rfl) rfl) ?_
        refine go_nil ?_
        refine g_cond (b := (!leB p0 p1)) (ot rfl) (fun hc7 => ?_) (fun hc7 => ?_)
        ·
          replace hF := ifT hc7 hF
          refine go_seq ?_
          refine go_region ?_
          refine gAc rfl rfl ?_
          refine go_nil ?_
          obtain rfl := someI hF
          exact g_ret (rst rfl rs0) (fun h1 hf hs => ⟨hs.hext, rfl⟩)
        ·
          replace hF := ifF hc7 hF
          refine go_skip ?_
          refine go_seq ?_
          refine go_region ?_
          refine gAc rfl rfl ?_
          refine go_nil ?_
          obtain rfl := someI hF
          exact g_ret (rst rfl rs0) (fun h1 hf hs => ⟨hs.hext, rfl⟩)
theorem s_event_Fold_1 {h : Heap} (hw : Wf h) (p0 : TKV) (p1 : ByteArray)   {r : Int} (hF : F_event_Fold_1 p0 p1 = some r) :
    Ev EE 36 [.agg #[.string p0.Key, .string p0.Val, .int .i64 p0.Rev], .string p1] h (fun v _ => v = .int .i64 r) := by
  unfold F_event_Fold_1 at hF
  refine ev_of hw rfl at_36 rfl rfl (go_seg0 ?_)
  refine go_seq ?_
  refine go_region ?_
  refine gs_box rfl (ot rfl) rfl ?_; intro b2_1
  refine gAc rfl rfl ?_
  refine go_nil ?_
  refine go_seq ?_
  refine go_region ?_
  refine gr rfl (r_fa (ot rfl) (fa_44_0 _ _)) ?_
  refine gr rfl (r_load (ot rfl) (lm_s (mem_seg 0 rfl) ag_9 rfl)) ?_
  refine gM rfl rfl ?_
  replace hF := obind hF
  obtain ⟨x2, hx2, hF⟩ := hF
  refine g_callp (v := .int .i64 x2) EE_fr rfl of (os1 (ot rfl) (os1 (ot rfl) os0)) hb_33 (fun _ => rfl) (fun hf kn w => by exact s_cmp_Compare w p0.Key p1  hx2) ?_
  refine gA rfl rfl ?_
  refine go_nil ?_
  obtain rfl := someI hF
  exact g_ret (rst rfl rs0) (fun h1 hf hs => ⟨hs.hext, rfl⟩)
theorem s_slices_BinarySearchFunc_event_Fold_1 (n : Nat) {h : Heap} (hw : Wf h) (p0 : (List TKV)) (p1 : ByteArray) {a0_0 : Option Addr} {c0_0 : Nat} (f0_0 : RL R_TKV h a0_0 c0_0 p0) {r : Int × Bool} (hF : F_slices_BinarySearchFunc_event_Fold_1 n p0 p1 = some r) :
    Ev EE 35 [.slice a0_0 p0.length c0_0, .string p1, .func (.func 36) #[] #[]] h (fun v _ => v = .tuple #[.int .i64 r.1, .bool r.2]) := by
  unfold F_slices_BinarySearchFunc_event_Fold_1 at hF
  refine ev_of hw rfl at_35 rfl rfl (go_seg0 ?_)
  refine go_seq ?_
  refine go_region ?_
  refine gAc rfl rfl ?_
  refine gAc rfl rfl ?_
  refine go_nil ?_
  refine go_seq ?_
  refine go_region ?_
  refine gM rfl rfl ?_
  refine gr rfl (r_len rfl (os1 (ot rfl) os0) (fun _ _ => ln_33)) ?_
  refine gA rfl rfl ?_
  refine go_nil ?_
  refine go_seq ?_
  refine go_region ?_
  refine gM rfl rfl ?_
  refine gAc rfl rfl ?_
  refine gA rfl rfl ?_
  refine go_nil ?_
  refine go_seq ?_
  replace hF := obind hF
  obtain ⟨s1, hF, hK1⟩ := hF
  refine go_joinc (β := Unit) (fun s h' => True) (fun s => [(0, true, .slice a0_0 p0.length c0_0), (1, true, .string p1), (2, true, .func (.func 36) #[] #[]), (6, true, .int .i64 0), (7, true, .bool false), (8, true, .int .i64 (p0.length : Int)), (9, true, .int .i64 s1)]) (fun s => (List.flatten [] : List Blk)) ?_ (fun J1 => ?_)
  ·
    rintro _ h1 e1 w1 _
    replace hF := hK1
    refine go_seq ?_
    refine go_region ?_
    refine gM rfl rfl ?_
    refine gM rfl rfl ?_
    refine gM rfl rfl ?_
    refine gr rfl (r_bin (ot rfl) (ot rfl) rfl) ?_
    refine gM rfl rfl ?_
    replace hF := obind hF
    obtain ⟨s3, hF, hK3⟩ := hF
    refine go_joinr 9 (β := Unit) (fun s h' => True) (fun s => [(6, true, .int .i64 0), (7, true, .bool false), (35, true, .int .i64 s1), (48, true, .bool s3)]) (fun s => (List.flatten [] : List Blk)) ?_ (fun J3 => ?_)
    ·
      rintro _ h3 e3 w3 _
      replace hF := hK3
      refine gA rfl rfl ?_
      refine gA rfl rfl ?_
      refine go_nil ?_
      obtain rfl := someI hF
      exact g_ret (rst rfl (rst rfl rs0)) (fun h1 hf hs => ⟨(e1.trans (e3.trans hs.hext)), rfl⟩)
    ·
      rcases Bool.eq_false_or_eq_true (decide (s1 < (p0.length : Int))) with hb2 | hb2
      ·
        replace hF := ifT hb2 hF
        refine go_re 39 (v2 := .bool true) rfl (congrArg Value.bool hb2) ?_
        refine g_do rfl rfl rfl ?_
        refine gM rfl rfl ?_
        refine g_do rfl rfl rfl ?_
        refine gM rfl rfl ?_
        refine g_do rfl rfl rfl ?_
        refine gM rfl rfl ?_
        refine g_do rfl rfl rfl ?_
        replace hF := obind hF
        obtain ⟨x4, hx4, hF⟩ := hF
        obtain ⟨q4, row4, i4, cl4, rc4, sp4⟩ := ix (ik := .i64) (cap := c0_0) (E := EE) (f0_0.ext e1.kn) hx4 ut_33 sz_44 rfl
        obtain rfl := rc4
        refine gr rfl (r_ia (ot rfl) (ot rfl) i4) ?_
        refine g_do rfl rfl rfl ?_
        refine gr rfl (r_load (ot rfl) (v := .agg #[.string x4.Key, .string x4.Val, .int .i64 x4.Rev]) (lo_e (fun hf kn => ld_of (r := [.string x4.Key, .string x4.Val, .int .i64 x4.Rev]) ag_44 sz_44 (kn.cellsAt cl4)))) ?_
        refine g_do rfl rfl rfl ?_
        refine gM rfl rfl ?_
        refine g_do rfl rfl rfl ?_
        replace hF := obind hF
        obtain ⟨x5, hx5, hF⟩ := hF
        refine g_callp (v := .int .i64 x5) EE_fr rfl (ot rfl) (os1 (ot rfl) (os1 (ot rfl) os0)) hb_36 (fun _ => rfl) (fun hf kn w => by exact s_event_Fold_1 w x4 p1  hx5) ?_
        refine g_do rfl rfl rfl ?_
        refine gr rfl (r_bin (ot rfl) (oc rfl) rfl) ?_
        refine gr rfl (r_pkT (ot rfl) (ot rfl)) ?_
        obtain rfl := someI hF
        exact Goes.weak (J3 () _ (HExt.refl _) w1 trivial) (Sub.cons (Sub.cons (Sub.cons (Sub.cons (Sub.nil _) rfl) rfl) rfl) rfl)
      ·
        replace hF := ifF hb2 hF
        refine go_re 39 (v2 := .bool false) rfl (congrArg Value.bool hb2) ?_
        refine g_no rfl rfl rfl rfl rfl ?_
        refine g_no rfl rfl rfl rfl rfl ?_
        refine g_no rfl rfl rfl rfl rfl ?_
        refine g_no rfl rfl rfl rfl rfl ?_
        refine g_no rfl rfl rfl rfl rfl ?_
        refine g_no rfl rfl rfl rfl rfl ?_
        refine g_no rfl rfl rfl rfl rfl ?_
        refine g_no rfl rfl rfl rfl rfl ?_
        refine gr rfl (r_pkF (ot rfl) (oc rfl)) ?_
        obtain rfl := someI hF
        exact Goes.weak (J3 () _ (HExt.refl _) w1 trivial) (Sub.cons (Sub.cons (Sub.cons (Sub.cons (Sub.nil _) rfl) rfl) rfl) rfl)
  ·
    refine go_block ?_
    refine go_loop (α := Nat × Int × Int × Heap) (fun a => HExt h a.2.2.2 ∧ Wf a.2.2.2 ∧ F_slices_BinarySearchFunc_event_Fold_1_L1 p0 p1 a.1 a.2.1 a.2.2.1 = some s1) (fun a => a.1) (fun a => [(0, true, .slice a0_0 p0.length c0_0), (1, true, .string p1), (2, true, .func (.func 36) #[] #[]), (6, true, .int .i64 0), (7, true, .bool false), (8, true, .int .i64 (p0.length : Int)), (9, true, .int .i64 a.2.1), (10, true, .int .i64 a.2.2.1)]) (fun a => (List.flatten [] : List Blk)) (fun a => a.2.2.2) ?_ (n, 0, (p0.length : Int), h) ⟨HExt.refl _, hw, hF⟩ (Sub.cons (Sub.cons (Sub.cons (Sub.cons (Sub.cons (Sub.cons (Sub.cons (Sub.cons (Sub.nil _) rfl) rfl) rfl) rfl) rfl) rfl) rfl) rfl) rfl rfl
    rintro ⟨m6, y6_0, y6_1, h6⟩ ⟨e6, w6, hF⟩ ih6
    rcases m6 with _ | m6
    ·
      rw [F_slices_BinarySearchFunc_event_Fold_1_L1.eq_1] at hF; cases hF
    ·
      rw [F_slices_BinarySearchFunc_event_Fold_1_L1.eq_2] at hF
      refine go_seq ?_
      refine go_seq ?_
      refine go_region ?_
      refine gM rfl rfl ?_
      refine gM rfl rfl ?_
      refine gr rfl (r_bin (ot rfl) (ot rfl) rfl) ?_
      refine go_nil ?_
      refine g_cond (b := (decide (y6_0 < y6_1))) (ot rfl) (fun hc7 => ?_) (fun hc7 => ?_)
      ·
        replace hF := ifT hc7 hF
        refine go_skip ?_
        refine go_block ?_
        refine go_seq ?_
        refine go_region ?_
        refine gM rfl rfl ?_
        refine gM rfl rfl ?_
        refine gr rfl (r_bin (ot rfl) (ot rfl) rfl) ?_
        refine gr rfl (r_conv (ot rfl) rfl) ?_
        refine gr rfl (r_bin (ot rfl) (oc rfl) rfl) ?_
        refine gr rfl (r_conv (ot rfl) rfl) ?_
        refine gA rfl rfl ?_
        refine go_nil ?_
        refine go_seq ?_
        refine go_region ?_
        refine gM rfl rfl ?_
        refine gM rfl rfl ?_
        refine gM rfl rfl ?_
        replace hF := obind hF
        obtain ⟨x8, hx8, hF⟩ := hF
        obtain ⟨q8, row8, i8, cl8, rc8, sp8⟩ := ix (ik := .i64) (cap := c0_0) (E := EE) (f0_0.ext e6.kn) hx8 ut_33 sz_44 rfl
        obtain rfl := rc8
        refine gr rfl (r_ia (ot rfl) (ot rfl) i8) ?_
        refine gr rfl (r_load (ot rfl) (v := .agg #[.string x8.Key, .string x8.Val, .int .i64 x8.Rev]) (lo_e (fun hf kn => ld_of (r := [.string x8.Key, .string x8.Val, .int .i64 x8.Rev]) ag_44 sz_44 (kn.cellsAt cl8)))) ?_
        refine gM rfl rfl ?_
        replace hF := obind hF
        obtain ⟨x9, hx9, hF⟩ := hF
        refine g_callp (v := .int .i64 x9) EE_fr rfl (ot rfl) (os1 (ot rfl) (os1 (ot rfl) os0)) hb_36 (fun _ => rfl) (fun hf kn w => by exact s_event_Fold_1 w x8 p1  hx9) ?_
        refine gr rfl (r_bin (ot rfl) (oc rfl) rfl) ?_
        refine go_nil ?_
        refine g_cond (b := (decide (x9 < 0))) (ot rfl) (fun hc10 => ?_) (fun hc10 => ?_)
        ·
          replace hF := ifT hc10 hF
          refine go_region ?_
          refine gM rfl rfl ?_
          refine gr rfl (r_bin (ot rfl) (oc rfl) rfl) ?_
          refine gA rfl rfl ?_
          refine go_nil ?_
          refine go_endb ?_
          exact Goes.weak (ih6 (m6, (IntKind.i64.wrap ((IntKind.i64.wrap (shrI .u64 (IntKind.u64.wrap (IntKind.i64.wrap (y6_0 + y6_1))) 1)) + 1)), y6_1, h6) ⟨e6, w6, hF⟩ (Nat.lt_succ_self _)) (Sub.cons (Sub.cons (Sub.cons (Sub.cons (Sub.cons (Sub.cons (Sub.cons (Sub.cons (Sub.nil _) rfl) rfl) rfl) rfl) rfl) rfl) rfl) rfl)
        ·
          replace hF := ifF hc10 hF
          refine go_region ?_
          refine gM rfl rfl ?_
          refine gA rfl rfl ?_
          refine go_nil ?_
          refine go_endb ?_
          exact Goes.weak (ih6 (m6, y6_0, (IntKind.i64.wrap (shrI .u64 (IntKind.u64.wrap (IntKind.i64.wrap (y6_0 + y6_1))) 1)), h6) ⟨e6, w6, hF⟩ (Nat.lt_succ_self _)) (Sub.cons (Sub.cons (Sub.cons (Sub.cons (Sub.cons (Sub.cons (Sub.cons (Sub.cons (Sub.nil _) rfl) rfl) rfl) rfl) rfl) rfl) rfl) rfl)
      ·
        replace hF := ifF hc7 hF
        refine go_exit rfl ?_
        obtain rfl := someI hF
        exact Goes.weak (J1 () _ e6 w6 trivial) (Sub.cons (Sub.cons (Sub.cons (Sub.cons (Sub.cons (Sub.cons (Sub.cons (Sub.nil _) rfl) rfl) rfl) rfl) rfl) rfl) rfl)
theorem s_event_Fold (n : Nat) {h : Heap} (hw : Wf h) (p0 : (List TKV)) (p1 : (List TEvent)) {a0_0 : Option Addr} {c0_0 : Nat} {a1_0 : Option Addr} {c1_0 : Nat} (f0_0 : RL R_TKV h a0_0 c0_0 p0) (f1_0 : RL R_TEvent h a1_0 c1_0 p1) {r : (List TKV)} (hF : F_event_Fold n p0 p1 = some r) :
    Ev EE 19 [.slice a0_0 p0.length c0_0, .slice a1_0 p1.length c1_0] h (fun v h1 => ∃ a0 c0, v = .slice a0 r.length c0 ∧ RL R_TKV h1 a0 c0 r) := by
  unfold F_event_Fold at hF
  refine ev_of hw rfl at_19 rfl rfl (go_seg0 ?_)
  refine go_seq ?_
  refine go_region ?_
  refine gAc rfl rfl ?_
  refine go_nil ?_
  refine go_seq ?_
  refine go_region ?_
  refine gM rfl rfl ?_
  replace hF := obind hF
  obtain ⟨x1, hx1, hF⟩ := hF
  refine gs_call EE_fr hw .nil (fun _ h => by cases h; rfl) of (os1 (ot rfl) os0) hb_34 (by exact evo_clone_34 hw f0_0 hx1) ?_
  rintro v1 S1 h1 e1 w1 ⟨q1, t1, rfl, rfl, f1_⟩
  simp only [List.cons_append, List.nil_append]
  refine gA rfl rfl ?_
  refine go_nil ?_
  refine go_seq ?_
  refine go_seq ?_
  refine go_region ?_
  refine gM rfl rfl ?_
  refine gr rfl (r_len rfl (os1 (ot rfl) os0) (fun _ _ => ln_22)) ?_
  refine gMc rfl rfl ?_
  refine go_nil ?_
  replace hF := obind hF
  obtain ⟨s2, hF, hK2⟩ := hF
  refine go_joinc (β := Option Addr × List Blk) (fun s h' => AccR R_TKV 44 h' s.2 (.slice s.1 s2.length s2.length) s2) (fun s => [(0, true, .slice s.1 s2.length s2.length), (4, true, .slice none 0 0)]) (fun s => (List.flatten [s.2] : List Blk)) ?_ (fun J2 => ?_)
  ·
    rintro ⟨a2_0, a2_1⟩ h2 e2 w2 f2_0
    replace hF := hK2
    refine go_seq ?_
    refine go_region ?_
    refine gM rfl rfl ?_
    refine gA rfl rfl ?_
    refine go_nil ?_
    refine gs_accpub .z f2_0 (fun h3 e3 w3 f3_ => ?_) rfl
    obtain rfl := someI hF
    exact g_ret (rst rfl rs0) (fun h1 hf hs => ⟨(e1.trans (e2.trans (e3.trans hs.hext))), ⟨_, _, rfl, (f3_.ext hs.hext.kn)⟩⟩)
  ·
    refine go_block ?_
    refine go_loop (α := (List TEvent) × Nat × (List TKV) × Option Addr × List Blk × Heap) (fun a => a.1 = List.drop a.2.1 p1 ∧ HExt h1 a.2.2.2.2.2 ∧ Wf a.2.2.2.2.2 ∧ F_event_Fold_L1 n a.1 a.2.1 a.2.2.1 = some s2 ∧ AccR R_TKV 44 a.2.2.2.2.2 a.2.2.2.2.1 (.slice a.2.2.2.1 a.2.2.1.length a.2.2.1.length) a.2.2.1) (fun a => a.1.length) (fun a => [(0, true, .slice a.2.2.2.1 a.2.2.1.length a.2.2.1.length), (4, true, .slice none 0 0), (11, true, .slice a1_0 p1.length c1_0), (12, true, .int .i64 (p1.length : Int)), (13, true, .int .i64 (a.2.1 : Int))]) (fun a => (List.flatten [a.2.2.2.2.1] : List Blk)) (fun a => a.2.2.2.2.2) ?_ (p1, 0, x1, q1, t1, h1) ⟨rfl, HExt.refl _, w1, hF, f1_⟩ (Sub.cons (Sub.cons (Sub.cons (Sub.cons (Sub.cons (Sub.nil _) rfl) rfl) rfl) rfl) rfl) rfl rfl
    rintro ⟨r4, i4, y4_0, a4_0, a4_1, h4⟩ ⟨hr4, e4, w4, hF, f4_0⟩ ih4
    rcases r4 with _ | ⟨z4, r4⟩
    ·
      have hi4 := drop_nil hr4
      rw [F_event_Fold_L1.eq_1] at hF
      refine go_seq ?_
      refine go_region ?_
      refine gr rfl (r_bin (ot rfl) (ot rfl) rfl) ?_
      refine go_cast (.bool false) (congrArg Value.bool (decide_eq_false hi4)) ?_
      refine go_nil ?_
      refine go_seq ?_
      refine g_cond (b := false) (ot rfl) (fun hc5 => ?_) (fun hc5 => ?_)
      · cases hc5
      refine go_exit rfl ?_
      obtain rfl := someI hF
      exact Goes.weak (J2 (a4_0, a4_1) _ e4 w4 f4_0) (Sub.cons (Sub.cons (Sub.nil _) rfl) rfl)
    ·
      obtain ⟨hi4, hx4, hr4⟩ := drop_cons hr4
      have hb4 := ((f1_0.ext e1.kn).ext e4.kn).1
      rw [F_event_Fold_L1.eq_2] at hF
      refine go_seq ?_
      refine go_region ?_
      refine gr rfl (r_bin (ot rfl) (ot rfl) rfl) ?_
      refine go_cast (.bool true) (congrArg Value.bool (decide_eq_true (Int.ofNat_lt.mpr hi4))) ?_
      refine go_nil ?_
      refine go_seq ?_
      refine g_cond (b := true) (ot rfl) (fun hc6 => ?_) (fun hc6 => ?_)
      rotate_left
      · cases hc6
      refine go_skip ?_
      refine go_seq ?_
      refine go_block ?_
      refine go_seq ?_
      refine go_region ?_
      obtain ⟨q7, row7, i7, cl7, rc7, sp7⟩ := ix (ik := .i64) (cap := c1_0) (E := EE) ((f1_0.ext e1.kn).ext e4.kn) ((getI_nat _ _).trans hx4) ut_22 sz_40 rfl
      obtain rfl := rc7
      refine gr rfl (r_ia (ot rfl) (ot rfl) i7) ?_
      refine gr rfl (r_load (ot rfl) (v := .agg #[.int .i64 z4.Rev, .string z4.Key, .string z4.Val, .bool z4.Del]) (lo_e (fun hf kn => ld_of (r := [.int .i64 z4.Rev, .string z4.Key, .string z4.Val, .bool z4.Del]) ag_40 sz_40 (kn.cellsAt cl7)))) ?_
      refine gs_alloc rfl zo_40 rfl ?_; intro b6_8
      refine gs_store (ot rfl) (ot rfl) sz_40 rfl rfl rfl rfl rfl .z ?_
      refine go_nil ?_
      refine go_seq ?_
      refine go_region ?_
      refine gM rfl rfl ?_
      refine gr rfl (r_fa (ot rfl) (fa_40_1 _ _)) ?_
      refine gr rfl (r_load (ot rfl) (lm_s (mem_seg 0 rfl) ag_9 rfl)) ?_
      replace hF := obind hF
      obtain ⟨x9, hx9, hF⟩ := hF
      refine gs_callb (v := .tuple #[.int .i64 x9.1, .bool x9.2]) EE_fr rfl (.s (.z)) f4_0 rfl of (os1 (ot rfl) (os1 (ot rfl) (os1 of os0))) hb_35 (fun hf kn w fb9 => by exact s_slices_BinarySearchFunc_event_Fold_1 n w y4_0 z4.Key fb9 hx9) ?_
      refine gM rfl rfl ?_
      refine gE rfl rfl rfl ?_
      refine gE rfl rfl rfl ?_
      refine gA rfl rfl ?_
      refine gA rfl rfl ?_
      refine go_nil ?_
      refine go_seq ?_
      refine go_seq ?_
      refine go_region ?_
      refine gM rfl rfl ?_
      refine go_nil ?_
      replace hF := obind hF
      obtain ⟨s11, hF, hK11⟩ := hF
      refine go_joinc (β := Option Addr × List Blk) (fun s h' => AccR R_TKV 44 h' s.2 (.slice s.1 s11.length s11.length) s11) (fun s => [(0, true, .slice s.1 s11.length s11.length), (4, true, .slice none 0 0), (6, true, .pointer (some ⟨b6_8, 0, none⟩)), (7, true, .int .i64 x9.1), (8, true, .bool x9.2), (11, true, .slice a1_0 p1.length c1_0), (12, true, .int .i64 (p1.length : Int)), (13, true, .int .i64 (i4 : Int)), (14, true, .bool true), (15, true, .pointer (some q7)), (16, true, .agg #[.int .i64 z4.Rev, .string z4.Key, .string z4.Val, .bool z4.Del]), (17, true, .tuple #[.int .i64 x9.1, .bool x9.2]), (19, true, .pointer (some ⟨b6_8, 1, none⟩)), (20, true, .string z4.Key), (21, true, .tuple #[.int .i64 x9.1, .bool x9.2]), (22, true, .int .i64 x9.1), (23, true, .bool x9.2), (24, true, .bool x9.2)]) (fun s => (List.flatten [[⟨b6_8, .cells [.int .i64 z4.Rev, .string z4.Key, .string z4.Val, .bool z4.Del] 40⟩], s.2] : List Blk)) ?_ (fun J11 => ?_)
      ·
        rintro ⟨a11_0, a11_1⟩ h11 e11 w11 f11_0
        replace hF := hK11
        refine go_seq ?_
        refine go_region ?_
        refine gr rfl (r_fa (ot rfl) (fa_40_3 _ _)) ?_
        refine gr rfl (r_load (ot rfl) (lm_s (mem_seg 0 rfl) ag_4 rfl)) ?_
        refine gr rfl (r_un (ot rfl) rfl) ?_
        refine go_nil ?_
        refine g_cond (b := (!z4.Del)) (ot rfl) (fun hc12 => ?_) (fun hc12 => ?_)
        ·
          replace hF := ifT hc12 hF
          refine go_region ?_
          refine gM rfl rfl ?_
          refine gM rfl rfl ?_
          refine gr rfl (r_fa (ot rfl) (fa_40_1 _ _)) ?_
          refine gr rfl (r_load (ot rfl) (lm_s (mem_seg 0 rfl) ag_9 rfl)) ?_
          refine gr rfl (r_fa (ot rfl) (fa_40_2 _ _)) ?_
          refine gr rfl (r_load (ot rfl) (lm_s (mem_seg 0 rfl) ag_9 rfl)) ?_
          refine gr rfl (r_fa (ot rfl) (fa_40_0 _ _)) ?_
          refine gr rfl (r_load (ot rfl) (lm_s (mem_seg 0 rfl) ag_3 rfl)) ?_
          refine gr rfl (r_build (op1 (ot rfl) (op1 (ot rfl) (op1 (ot rfl) op0))) rfl) ?_
          refine gs_bslice (cs := [.string z4.Key, .string z4.Val, .int .i64 z4.Rev]) rfl (op1 (ot rfl) op0) ut_33 sz_44 zo_44 rfl rfl ?_; intro b42_13
          replace hF := obind hF
          obtain ⟨x14, hx14, hF⟩ := hF
          refine gs_call EE_fr w11 (.cons (.s (.s (.z))) (.cons .z .nil)) (fun _ h => by cases h; rfl) of (os1 (ot rfl) (os1 (ot rfl) (os1 (ot rfl) os0))) hb_38 (by exact evo_ins_38 (x := (⟨z4.Key, z4.Val, z4.Rev⟩ : TKV)) rfl (fun h row x e => by subst e; rfl) f11_0 rfl hx14) ?_
          rintro v14 S14 h14 e14 w14 ⟨q14, t14, rfl, rfl, f14_⟩
          simp only [List.cons_append, List.nil_append]
          refine gA rfl rfl ?_
          refine go_nil ?_
          refine go_endb ?_
          refine go_region ?_
          refine gr rfl (r_bin (ot rfl) (oc rfl) rfl) ?_
          refine gM rfl rfl ?_
          refine go_nil ?_
          refine gs_sub (.cons_cons _ (.cons _ (.refl _))) ?_
          refine go_re 13 (v2 := .int .i64 ((i4 + 1 : Nat) : Int)) rfl (wrap_succ hi4 hb4) ?_
          exact Goes.weak (ih4 (r4, i4 + 1, x14, q14, t14, h14) ⟨hr4, (e4.trans (e11.trans e14)), w14, hF, f14_⟩ (Nat.lt_succ_self _)) (Sub.cons (Sub.cons (Sub.cons (Sub.cons (Sub.cons (Sub.nil _) rfl) rfl) rfl) rfl) rfl)
        ·
          replace hF := ifF hc12 hF
          refine go_skip ?_
          refine go_endb ?_
          refine go_region ?_
          refine gr rfl (r_bin (ot rfl) (oc rfl) rfl) ?_
          refine gM rfl rfl ?_
          refine go_nil ?_
          refine gs_sub (.cons _ (.cons_cons _ (.refl _))) ?_
          refine go_re 13 (v2 := .int .i64 ((i4 + 1 : Nat) : Int)) rfl (wrap_succ hi4 hb4) ?_
          exact Goes.weak (ih4 (r4, i4 + 1, s11, a11_0, a11_1, h11) ⟨hr4, (e4.trans e11), w11, hF, f11_0⟩ (Nat.lt_succ_self _)) (Sub.cons (Sub.cons (Sub.cons (Sub.cons (Sub.cons (Sub.nil _) rfl) rfl) rfl) rfl) rfl)
      ·
        refine g_cond (b := x9.2) (ot rfl) (fun hc10 => ?_) (fun hc10 => ?_)
        ·
          replace hF := ifT hc10 hF
          refine go_region ?_
          refine gM rfl rfl ?_
          refine gM rfl rfl ?_
          refine gM rfl rfl ?_
          refine gr rfl (r_bin (ot rfl) (oc rfl) rfl) ?_
          replace hF := obind hF
          obtain ⟨x15, hx15, hF⟩ := hF
          refine gs_call EE_fr w4 (.cons (.s (.z)) .nil) (fun _ h => by cases h; rfl) of (os1 (ot rfl) (os1 (ot rfl) (os1 (ot rfl) os0))) hb_37 (by exact evo_del_37 rfl f4_0 hx15) ?_
          rintro v15 S15 h15 e15 w15 ⟨q15, t15, rfl, rfl, f15_⟩
          simp only [List.cons_append, List.nil_append]
          refine gA rfl rfl ?_
          refine go_nil ?_
          obtain rfl := someI hF
          refine gs_perm (perm_of (d := []) _ [1, 0] rfl) ?_
          exact Goes.weak (J11 (q15, t15) _ e15 w15 f15_) (Sub.cons (Sub.cons (Sub.cons (Sub.cons (Sub.cons (Sub.cons (Sub.cons (Sub.cons (Sub.cons (Sub.cons (Sub.cons (Sub.cons (Sub.cons (Sub.cons (Sub.cons (Sub.cons (Sub.cons (Sub.cons (Sub.nil _) rfl) rfl) rfl) rfl) rfl) rfl) rfl) rfl) rfl) rfl) rfl) rfl) rfl) rfl) rfl) rfl) rfl) rfl)
        ·
          replace hF := ifF hc10 hF
          refine go_skip ?_
          obtain rfl := someI hF
          exact Goes.weak (J11 (a4_0, a4_1) _ (HExt.refl _) w4 f4_0) (Sub.cons (Sub.cons (Sub.cons (Sub.cons (Sub.cons (Sub.cons (Sub.cons (Sub.cons (Sub.cons (Sub.cons (Sub.cons (Sub.cons (Sub.cons (Sub.cons (Sub.cons (Sub.cons (Sub.cons (Sub.cons (Sub.nil _) rfl) rfl) rfl) rfl) rfl) rfl) rfl) rfl) rfl) rfl) rfl) rfl) rfl) rfl) rfl) rfl) rfl) rfl)
theorem s_key_In {h : Heap} (hw : Wf h) (p0 : TRange) (p1 : ByteArray)   {r : Bool} (hF : F_key_In p0 p1 = some r) :
    Ev EE 28 [.agg #[.string p0.From, .string p0.To], .string p1] h (fun v _ => v = .bool r) := by
  unfold F_key_In at hF
  refine ev_of hw rfl at_28 rfl rfl (go_seg0 ?_)
  refine go_seq ?_
  refine go_region ?_
  refine gs_box rfl (ot rfl) rfl ?_; intro b2_1
  refine gAc rfl rfl ?_
  refine go_nil ?_
  refine go_seq ?_
  refine go_region ?_
  refine gr rfl (r_fa (ot rfl) (fa_24_0 _ _)) ?_
  refine gr rfl (r_load (ot rfl) (lm_s (mem_seg 0 rfl) ag_9 rfl)) ?_
  refine gM rfl rfl ?_
  refine gr rfl (r_bin (ot rfl) (ot rfl) rfl) ?_
  refine gM rfl rfl ?_
  refine grt rfl rfl rfl rfl (r_fa (ot rfl) (fa_24_1 _ _)) ?_
  refine grt rfl rfl rfl rfl (r_load (og rfl id) (lm_s (mem_seg 0 rfl) ag_9 rfl)) ?_
  refine grt rfl rfl rfl rfl (r_bin (og rfl id) (oc rfl) rfl) ?_
  refine grt rfl rfl rfl rfl (r_move (og rfl id)) ?_
  refine grf' rfl rfl rfl rfl (r_move (ot rfl)) ?_
  refine grf' rfl rfl rfl rfl (r_fa (ot rfl) (fa_24_1 _ _)) ?_
  refine grf' rfl rfl rfl rfl (r_load (og rfl id) (lm_s (mem_seg 0 rfl) ag_9 rfl)) ?_
  refine grf' rfl rfl rfl rfl (r_bin (og rfl id) (og rfl id) rfl) ?_
  refine grt rfl rfl rfl rfl (r_pickb (og rfl id) (oc rfl) (og rfl id)) ?_
  refine gr rfl (r_pickb (ot rfl) (og rfl id) (oc rfl)) ?_
  refine gA rfl rfl ?_
  refine go_nil ?_
  obtain rfl := someI hF
  exact g_ret (rst rfl rs0) (fun h1 hf hs => ⟨hs.hext, rfl⟩)
theorem s_event_Filter_1 {h : Heap} (hw : Wf h) (p0 : TEvent) (p1 : TRange) {b1 : Nat} (g1 : BK h b1 [.string p1.From, .string p1.To] 24) {r : Bool} (hF : F_event_Filter_1 p0 p1 = some r) :
    Ev EE 27 [.agg #[.int .i64 p0.Rev, .string p0.Key, .string p0.Val, .bool p0.Del], .pointer (some ⟨b1, 0, none⟩)] h (fun v _ => v = .bool r) := by
  unfold F_event_Filter_1 at hF
  refine ev_of hw rfl at_27 rfl rfl (go_seg0 ?_)
  refine go_seq ?_
  refine go_region ?_
  refine gs_box rfl (ot rfl) rfl ?_; intro b2_1
  refine gAc rfl rfl ?_
  refine go_nil ?_
  refine go_seq ?_
  refine go_region ?_
  refine gr rfl (r_load (ot rfl) (v := .agg #[.string p1.From, .string p1.To]) (lo_e (fun hf kn => ld_bk ag_24 sz_24 (g1.ext kn) (Nat.le_of_ble_eq_true rfl) rfl))) ?_
  refine gr rfl (r_fa (ot rfl) (fa_40_1 _ _)) ?_
  refine gr rfl (r_load (ot rfl) (lm_s (mem_seg 0 rfl) ag_9 rfl)) ?_
  replace hF := obind hF
  obtain ⟨x2, hx2, hF⟩ := hF
  refine g_callp (v := .bool x2) EE_fr rfl of (os1 (ot rfl) (os1 (ot rfl) os0)) hb_28 (fun _ => rfl) (fun hf kn w => by exact s_key_In w p1 p0.Key  hx2) ?_
  refine gr rfl (r_un (ot rfl) rfl) ?_
  refine gA rfl rfl ?_
  refine go_nil ?_
  obtain rfl := someI hF
  exact g_ret (rst rfl rs0) (fun h1 hf hs => ⟨hs.hext, rfl⟩)
theorem s_slices_IndexFunc_event_Filter_1 {h : Heap} (hw : Wf h) (p0 : (List TEvent)) (p1c0 : TRange) {a0_0 : Option Addr} {c0_0 : Nat} {b1c0 : Nat} (f0_0 : RL R_TEvent h a0_0 c0_0 p0) (g1c0 : BK h b1c0 [.string p1c0.From, .string p1c0.To] 24) {r : Int} (hF : F_slices_IndexFunc_event_Filter_1 p0 p1c0 = some r) :
    Ev EE 42 [.slice a0_0 p0.length c0_0, .func (.func 27) #[] #[.pointer (some ⟨b1c0, 0, none⟩)]] h (fun v _ => v = .int .i64 r) := by
  unfold F_slices_IndexFunc_event_Filter_1 at hF
  refine ev_of hw rfl at_42 rfl rfl (go_seg0 ?_)
  refine go_seq ?_
  refine go_region ?_
  refine gAc rfl rfl ?_
  refine go_nil ?_
  refine go_seq ?_
  refine go_seq ?_
  refine go_region ?_
  refine gM rfl rfl ?_
  refine gr rfl (r_len rfl (os1 (ot rfl) os0) (fun _ _ => ln_22)) ?_
  refine gMc rfl rfl ?_
  refine go_nil ?_
  replace hF := obind hF
  obtain ⟨s1, hF, hK1⟩ := hF
  refine go_joinc (β := (Unit)) (fun s h' => s1 = .go s) (fun s => [(4, true, .int .i64 0)]) (fun s => (List.flatten [] : List Blk)) ?_ (fun J1 => ?_)
  ·
    rintro _ h1 e1 w1 hs1
    subst hs1
    replace hF := lpgo hK1
    refine go_seq ?_
    refine go_region ?_
    refine gAc rfl rfl ?_
    refine go_nil ?_
    obtain rfl := someI hF
    exact g_ret (rst rfl rs0) (fun h1 hf hs => ⟨(e1.trans hs.hext), rfl⟩)
  ·
    refine go_block ?_
    refine go_loop (α := (List TEvent) × Nat × Heap) (fun a => a.1 = List.drop a.2.1 p0 ∧ HExt h a.2.2 ∧ Wf a.2.2 ∧ F_slices_IndexFunc_event_Filter_1_L1 p1c0 a.1 a.2.1 = some s1) (fun a => a.1.length) (fun a => [(0, true, .slice a0_0 p0.length c0_0), (1, true, .func (.func 27) #[] #[.pointer (some ⟨b1c0, 0, none⟩)]), (4, true, .int .i64 0), (7, true, .int .i64 (p0.length : Int)), (8, true, .int .i64 (a.2.1 : Int))]) (fun a => (List.flatten [] : List Blk)) (fun a => a.2.2) ?_ (p0, 0, h) ⟨rfl, HExt.refl _, hw, hF⟩ (Sub.cons (Sub.cons (Sub.cons (Sub.cons (Sub.cons (Sub.nil _) rfl) rfl) rfl) rfl) rfl) rfl rfl
    rintro ⟨r2, i2, h2⟩ ⟨hr2, e2, w2, hF⟩ ih2
    rcases r2 with _ | ⟨z2, r2⟩
    ·
      have hi2 := drop_nil hr2
      rw [F_slices_IndexFunc_event_Filter_1_L1.eq_1] at hF
      refine go_seq ?_
      refine go_region ?_
      refine gr rfl (r_bin (ot rfl) (ot rfl) rfl) ?_
      refine go_cast (.bool false) (congrArg Value.bool (decide_eq_false hi2)) ?_
      refine go_nil ?_
      refine go_seq ?_
      refine g_cond (b := false) (ot rfl) (fun hc3 => ?_) (fun hc3 => ?_)
      · cases hc3
      refine go_exit rfl ?_
      obtain rfl := someI hF
      exact Goes.weak (J1 () _ e2 w2 rfl) (Sub.cons (Sub.nil _) rfl)
    ·
      obtain ⟨hi2, hx2, hr2⟩ := drop_cons hr2
      have hb2 := (f0_0.ext e2.kn).1
      rw [F_slices_IndexFunc_event_Filter_1_L1.eq_2] at hF
      refine go_seq ?_
      refine go_region ?_
      refine gr rfl (r_bin (ot rfl) (ot rfl) rfl) ?_
      refine go_cast (.bool true) (congrArg Value.bool (decide_eq_true (Int.ofNat_lt.mpr hi2))) ?_
      refine go_nil ?_
      refine go_seq ?_
      refine g_cond (b := true) (ot rfl) (fun hc4 => ?_) (fun hc4 => ?_)
      rotate_left
      · cases hc4
      refine go_skip ?_
      refine go_seq ?_
      refine go_block ?_
      refine go_seq ?_
      refine go_region ?_
      refine gM rfl rfl ?_
      refine gA rfl rfl ?_
      refine go_nil ?_
      refine go_seq ?_
      refine go_region ?_
      refine gM rfl rfl ?_
      refine gM rfl rfl ?_
      refine gM rfl rfl ?_
      obtain ⟨q5, row5, i5, cl5, rc5, sp5⟩ := ix (ik := .i64) (cap := c0_0) (E := EE) (f0_0.ext e2.kn) ((getI_nat _ _).trans hx2) ut_22 sz_40 rfl
      obtain rfl := rc5
      refine gr rfl (r_ia (ot rfl) (ot rfl) i5) ?_
      refine gr rfl (r_load (ot rfl) (v := .agg #[.int .i64 z2.Rev, .string z2.Key, .string z2.Val, .bool z2.Del]) (lo_e (fun hf kn => ld_of (r := [.int .i64 z2.Rev, .string z2.Key, .string z2.Val, .bool z2.Del]) ag_40 sz_40 (kn.cellsAt cl5)))) ?_
      replace hF := obind hF
      obtain ⟨x6, hx6, hF⟩ := hF
      refine g_callp (v := .bool x6) EE_fr rfl (ot rfl) (os1 (ot rfl) os0) hb_27 (fun _ => rfl) (fun hf kn w => by exact s_event_Filter_1 w z2 p1c0 ((g1c0.ext e2.kn).ext kn) hx6) ?_
      refine go_nil ?_
      refine g_cond (b := x6) (ot rfl) (fun hc7 => ?_) (fun hc7 => ?_)
      ·
        replace hF := ifT hc7 hF
        refine go_seq ?_
        refine go_region ?_
        refine gM rfl rfl ?_
        refine gA rfl rfl ?_
        refine go_nil ?_
        obtain rfl := someI hF
        obtain rfl := someI hK1
        exact g_ret (rst rfl rs0) (fun h1 hf hs => ⟨(e2.trans hs.hext), rfl⟩)
      ·
        replace hF := ifF hc7 hF
        refine go_skip ?_
        refine go_endb ?_
        refine go_region ?_
        refine gr rfl (r_bin (ot rfl) (oc rfl) rfl) ?_
        refine gM rfl rfl ?_
        refine go_nil ?_
        refine go_re 8 (v2 := .int .i64 ((i2 + 1 : Nat) : Int)) rfl (wrap_succ hi2 hb2) ?_
        exact Goes.weak (ih2 (r2, i2 + 1, h2) ⟨hr2, e2, w2, hF⟩ (Nat.lt_succ_self _)) (Sub.cons (Sub.cons (Sub.cons (Sub.cons (Sub.cons (Sub.nil _) rfl) rfl) rfl) rfl) rfl)
theorem s_slices_DeleteFunc_event_Filter_1 (n : Nat) {h : Heap} (hw : Wf h) (p0 : (List TEvent)) (p1c0 : TRange) {qA0 : Option Addr} {tA0 : List Blk} {b1c0 : Nat} (fA0 : AccR R_TEvent 40 h tA0 (.slice qA0 p0.length p0.length) p0) (g1c0 : BK h b1c0 [.string p1c0.From, .string p1c0.To] 24) {r : (List TEvent)} (hF : F_slices_DeleteFunc_event_Filter_1 n p0 p1c0 = some r) :
    EvO EE 25 [.slice qA0 p0.length p0.length, .func (.func 27) #[] #[.pointer (some ⟨b1c0, 0, none⟩)]] [tA0] h (fun v S h1 => ∃ a0 c0, v = .slice a0 r.length c0 ∧ S = [] ∧ RL R_TEvent h1 a0 c0 r) := by
  unfold F_slices_DeleteFunc_event_Filter_1 at hF
  refine evo_of rfl at_25 rfl rfl ?_
  refine go_seq ?_
  refine go_region ?_
  refine gAc rfl rfl ?_
  refine go_nil ?_
  refine go_seq ?_
  refine go_region ?_
  refine gM rfl rfl ?_
  refine gM rfl rfl ?_
  replace hF := obind hF
  obtain ⟨x1, hx1, hF⟩ := hF
  refine gs_callb (v := .int .i64 x1) EE_fr rfl .z fA0 rfl of (os1 (ot rfl) (os1 (ot rfl) os0)) hb_42 (fun hf kn w fb1 => by exact s_slices_IndexFunc_event_Filter_1 w p0 p1c0 fb1 (g1c0.ext kn) hx1) ?_
  refine gA rfl rfl ?_
  refine go_nil ?_
  refine go_seq ?_
  refine go_seq ?_
  refine go_region ?_
  refine gM rfl rfl ?_
  refine gr rfl (r_bin (ot rfl) (oc rfl) rfl) ?_
  refine go_nil ?_
  refine g_cond (b := (x1 == (-1))) (ot rfl) (fun hc2 => ?_) (fun hc2 => ?_)
  ·
    replace hF := ifT hc2 hF
    refine go_seq ?_
    refine go_region ?_
    refine gM rfl rfl ?_
    refine gA rfl rfl ?_
    refine go_nil ?_
    refine gs_accpub .z fA0 (fun h3 e3 w3 f3_ => ?_) rfl
    obtain rfl := someI hF
    exact g_ret (rst rfl rs0) (fun h1 hf hs => ⟨[], _, hf, e3, w3, hs, nd0, ⟨_, _, rfl, rfl, f3_⟩⟩)
  ·
    replace hF := ifF hc2 hF
    refine go_skip ?_
    refine go_seq ?_
    refine go_seq ?_
    refine go_region ?_
    refine gM rfl rfl ?_
    refine gr rfl (r_bin (ot rfl) (oc rfl) rfl) ?_
    refine gA rfl rfl ?_
    refine go_nil ?_
    replace hF := obind hF
    obtain ⟨s4, hF, hK4⟩ := hF
    refine go_joinc (β := Option Addr × List Blk) (fun s h' => AccR R_TEvent 40 h' s.2 (.slice s.1 s4.1.length s4.1.length) s4.1) (fun s => [(0, true, .slice s.1 s4.1.length s4.1.length), (4, true, .slice none 0 0), (5, true, .int .i64 s4.2)]) (fun s => (List.flatten [s.2] : List Blk)) ?_ (fun J4 => ?_)
    ·
      rintro ⟨a4_0, a4_1⟩ h4 e4 w4 f4_0
      replace hF := hK4
      refine go_seq ?_
      refine go_region ?_
      refine gM rfl rfl ?_
      refine gM rfl rfl ?_
      replace hF := obind hF
      obtain ⟨x5, hx5, hF⟩ := hF
      refine g_clrtail (k := 4) (zx := (⟨0, ByteArray.empty, ByteArray.empty, false⟩ : TEvent)) (R := R_TEvent) f4_0 hx5 rfl (fun _ h => by cases h) (ot rfl) (ot rfl) ut_22 sz_40 rfl (by decide) zo_40 rfl rfl rfl rfl (fun v5 t5 f5_ => ?_)
      have hl5 := clrL_len hx5
      refine go_re 0 (v2 := .slice a4_0 x5.length x5.length) rfl (by rw [hl5]) ?_
      refine go_re 36 (v2 := .slice a4_0 x5.length x5.length) rfl (by rw [hl5]) ?_
      refine go_nil ?_
      refine go_seq ?_
      refine go_region ?_
      refine gM rfl rfl ?_
      refine gM rfl rfl ?_
      refine gs_accpub .z f5_ (fun h7 e7 w7 f7_ => ?_) rfl
      replace hF := obind hF
      obtain ⟨x6, hx6, hF⟩ := hF
      obtain ⟨a6_, c6_, i6⟩ := subL0_ok (E := EE) f7_ hx6 (fun e => by rw [e]; rfl) ut_22 sz_40 rfl rfl
      have f6_ := i6.rl
      refine gr rfl (r_slice (ot rfl) on (oo (ot rfl)) on (fun hf kn => i6.hi kn rfl)) ?_
      refine gA rfl rfl ?_
      refine go_nil ?_
      obtain rfl := someI hF
      exact g_ret (rst rfl rs0) (fun h1 hf hs => ⟨[], _, hf, (e4.trans e7), w7, hs, nd0, ⟨_, _, rfl, rfl, f6_⟩⟩)
    ·
      refine go_block ?_
      refine go_loop (α := Nat × Int × Int × (List TEvent) × Option Addr × List Blk × Heap) (fun a => HExt h a.2.2.2.2.2.2 ∧ Wf a.2.2.2.2.2.2 ∧ F_slices_DeleteFunc_event_Filter_1_L1 p1c0 a.1 a.2.1 a.2.2.1 a.2.2.2.1 = some s4 ∧ AccR R_TEvent 40 a.2.2.2.2.2.2 a.2.2.2.2.2.1 (.slice a.2.2.2.2.1 a.2.2.2.1.length a.2.2.2.1.length) a.2.2.2.1) (fun a => a.1) (fun a => [(0, true, .slice a.2.2.2.2.1 a.2.2.2.1.length a.2.2.2.1.length), (1, true, .func (.func 27) #[] #[.pointer (some ⟨b1c0, 0, none⟩)]), (4, true, .slice none 0 0), (5, true, .int .i64 a.2.1), (6, true, .int .i64 a.2.2.1)]) (fun a => (List.flatten [a.2.2.2.2.2.1] : List Blk)) (fun a => a.2.2.2.2.2.2) ?_ (n, x1, (IntKind.i64.wrap (x1 + 1)), p0, qA0, tA0, h) ⟨HExt.refl _, hw, hF, fA0⟩ (Sub.cons (Sub.cons (Sub.cons (Sub.cons (Sub.cons (Sub.nil _) rfl) rfl) rfl) rfl) rfl) rfl rfl
      rintro ⟨m8, y8_0, y8_1, y8_2, a8_0, a8_1, h8⟩ ⟨e8, w8, hF, f8_2⟩ ih8
      rcases m8 with _ | m8
      ·
        rw [F_slices_DeleteFunc_event_Filter_1_L1.eq_1] at hF; cases hF
      ·
        rw [F_slices_DeleteFunc_event_Filter_1_L1.eq_2] at hF
        refine go_seq ?_
        refine go_seq ?_
        refine go_region ?_
        refine gM rfl rfl ?_
        refine gM rfl rfl ?_
        refine gr rfl (r_len rfl (os1 (ot rfl) os0) (fun _ _ => ln_22)) ?_
        refine gr rfl (r_bin (ot rfl) (ot rfl) rfl) ?_
        refine go_nil ?_
        refine g_cond (b := (decide (y8_1 < (y8_2.length : Int)))) (ot rfl) (fun hc9 => ?_) (fun hc9 => ?_)
        ·
          replace hF := ifT hc9 hF
          refine go_skip ?_
          refine go_seq ?_
          refine go_block ?_
          refine go_seq ?_
          refine go_region ?_
          refine gM rfl rfl ?_
          refine gM rfl rfl ?_
          replace hF := obind hF
          obtain ⟨x10, hx10, hF⟩ := hF
          obtain ⟨bb10, rw10, row10, hp10, ht10, hR10, hw10, rc10, hz10, hi10, hd10, hb10, hl10⟩ := AccR.at_ f8_2 hx10
          have hF10_ := hF
          subst hp10; subst ht10
          replace hF := hF10_
          obtain rfl := rc10
          refine gr rfl (r_ia (ot rfl) (ot rfl) (ia_acc (k := 4) ut_22 sz_40 hz10 hi10)) ?_
          refine gr rfl (r_load (ot rfl) (lm_a (vs := [.int .i64 x10.Rev, .string x10.Key, .string x10.Val, .bool x10.Del]) (mem_seg 0 rfl) ag_40 sz_40 (Nat.ble_eq_true_of_le hb10) hd10)) ?_
          refine gs_alloc rfl zo_40 rfl ?_; intro b7_11
          refine gs_store (ot rfl) (ot rfl) sz_40 rfl rfl rfl rfl rfl .z ?_
          refine go_nil ?_
          refine go_seq ?_
          refine go_region ?_
          refine gM rfl rfl ?_
          refine gr rfl (r_load (ot rfl) (lm_w (mem_seg 0 rfl) ag_40 sz_40 rfl)) ?_
          replace hF := obind hF
          obtain ⟨x12, hx12, hF⟩ := hF
          refine g_callp (v := .bool x12) EE_fr rfl (ot rfl) (os1 (ot rfl) os0) hb_27 (fun _ => rfl) (fun hf kn w => by exact s_event_Filter_1 w x10 p1c0 ((g1c0.ext e8.kn).ext kn) hx12) ?_
          refine gr rfl (r_un (ot rfl) rfl) ?_
          refine go_nil ?_
          replace hF := obind hF
          obtain ⟨s14, hF, hK14⟩ := hF
          refine go_joinc (β := Option Addr × List Blk) (fun s h' => AccR R_TEvent 40 h' s.2 (.slice s.1 s14.1.length s14.1.length) s14.1) (fun s => [(0, true, .slice s.1 s14.1.length s14.1.length), (1, true, .func (.func 27) #[] #[.pointer (some ⟨b1c0, 0, none⟩)]), (4, true, .slice none 0 0), (5, true, .int .i64 s14.2), (6, true, .int .i64 y8_1), (7, true, .pointer (some ⟨b7_11, 0, none⟩)), (16, true, .int .i64 y8_1), (17, true, .slice s.1 s14.1.length s14.1.length), (18, true, .int .i64 (y8_2.length : Int)), (19, true, .bool (decide (y8_1 < (y8_2.length : Int)))), (22, true, .slice s.1 s14.1.length s14.1.length), (23, true, .int .i64 y8_1), (25, true, .agg #[.int .i64 x10.Rev, .string x10.Key, .string x10.Val, .bool x10.Del]), (26, true, .func (.func 27) #[] #[.pointer (some ⟨b1c0, 0, none⟩)]), (27, true, .agg #[.int .i64 x10.Rev, .string x10.Key, .string x10.Val, .bool x10.Del]), (28, true, .bool x12), (29, true, .bool (!x12))]) (fun s => (List.flatten [[⟨b7_11, .cells [.int .i64 x10.Rev, .string x10.Key, .string x10.Val, .bool x10.Del] 40⟩], s.2] : List Blk)) ?_ (fun J14 => ?_)
          ·
            rintro ⟨a14_0, a14_1⟩ h14 e14 w14 f14_0
            replace hF := hK14
            refine go_endb ?_
            refine go_region ?_
            refine gM rfl rfl ?_
            refine gr rfl (r_bin (ot rfl) (oc rfl) rfl) ?_
            refine gA rfl rfl ?_
            refine go_nil ?_
            refine gs_sub (.cons _ (.cons_cons _ (.refl _))) ?_
            exact Goes.weak (ih8 (m8, s14.2, (IntKind.i64.wrap (y8_1 + 1)), s14.1, a14_0, a14_1, h14) ⟨(e8.trans e14), w14, hF, f14_0⟩ (Nat.lt_succ_self _)) (Sub.cons (Sub.cons (Sub.cons (Sub.cons (Sub.cons (Sub.nil _) rfl) rfl) rfl) rfl) rfl)
          ·
            refine g_cond (b := (!x12)) (ot rfl) (fun hc13 => ?_) (fun hc13 => ?_)
            ·
              replace hF := ifT hc13 hF
              refine go_seq ?_
              refine go_region ?_
              refine gM rfl rfl ?_
              refine gM rfl rfl ?_
              refine gr rfl (r_load (ot rfl) (lm_w (mem_seg 0 rfl) ag_40 sz_40 rfl)) ?_
              replace hF := obind hF
              obtain ⟨x15, hx15, hF⟩ := hF
              obtain ⟨row15, hw15, rc15, hz15, hi15, hd15, hb15⟩ := hR10.at2 hx15
              obtain rfl := rc15
              refine gr rfl (r_ia (ot rfl) (ot rfl) (ia_acc (k := 4) ut_22 sz_40 hz15 hi15)) ?_
              have hc16 : R_TEvent.C h8 [.int .i64 x10.Rev, .string x10.Key, .string x10.Val, .bool x10.Del] x10 := rfl
              have hR16 : Rws R_TEvent h8 (rw10.set y8_0.toNat [.int .i64 x10.Rev, .string x10.Key, .string x10.Val, .bool x10.Del]) (setI y8_2 y8_0 x10) := Rws.set hR10 hc16 _
              have hq16 := (List.getElem?_eq_some_iff.mp hw15).1
              have hl16 : (setI y8_2 y8_0 x10).length < 9223372036854775808 := by rw [setI_len]; exact hl10
              have f16_ : AccR R_TEvent 40 h8 [⟨bb10, .cells (rw10.set y8_0.toNat [.int .i64 x10.Rev, .string x10.Key, .string x10.Val, .bool x10.Del]).flatten 40⟩] (.slice (some ⟨bb10, 0, some 0⟩) (setI y8_2 y8_0 x10).length (setI y8_2 y8_0 x10).length) (setI y8_2 y8_0 x10) := AccR.set_ hl10 hR10 rfl hc16
              obtain ⟨hd16, hb16⟩ := flat_at_set (row' := [.int .i64 x10.Rev, .string x10.Key, .string x10.Val, .bool x10.Del]) hR10.k hq16 rfl
              have hw16 : (rw10.set y8_0.toNat [.int .i64 x10.Rev, .string x10.Key, .string x10.Val, .bool x10.Del])[y8_0.toNat]? = some [.int .i64 x10.Rev, .string x10.Key, .string x10.Val, .bool x10.Del] := List.getElem?_set_self hq16
              refine gs_store (vs := [.int .i64 x10.Rev, .string x10.Key, .string x10.Val, .bool x10.Del]) (cs' := (rw10.set y8_0.toNat [.int .i64 x10.Rev, .string x10.Key, .string x10.Val, .bool x10.Del]).flatten) (ot rfl) (ot rfl) sz_40 rfl rfl (acc_ble (j := 0) (m := 4) hb15 (by decide)) rfl (flat_splice_part (j := 0) _ _ hR10.k hw15 (Nat.le_of_ble_eq_true rfl)) (.s (.z)) ?_
              refine go_re 0 (v2 := .slice (some ⟨bb10, 0, some 0⟩) (setI y8_2 y8_0 x10).length (setI y8_2 y8_0 x10).length) rfl (by simp only [setI_len]) ?_
              refine go_re 17 (v2 := .slice (some ⟨bb10, 0, some 0⟩) (setI y8_2 y8_0 x10).length (setI y8_2 y8_0 x10).length) rfl (by simp only [setI_len]) ?_
              refine go_re 22 (v2 := .slice (some ⟨bb10, 0, some 0⟩) (setI y8_2 y8_0 x10).length (setI y8_2 y8_0 x10).length) rfl (by simp only [setI_len]) ?_
              refine go_re 30 (v2 := .slice (some ⟨bb10, 0, some 0⟩) (setI y8_2 y8_0 x10).length (setI y8_2 y8_0 x10).length) rfl (by simp only [setI_len]) ?_
              refine go_nil ?_
              refine go_region ?_
              refine gM rfl rfl ?_
              refine gr rfl (r_bin (ot rfl) (oc rfl) rfl) ?_
              refine gA rfl rfl ?_
              refine go_nil ?_
              obtain rfl := someI hF
              exact Goes.weak (J14 ((some ⟨bb10, 0, some 0⟩), [⟨bb10, .cells (rw10.set y8_0.toNat [.int .i64 x10.Rev, .string x10.Key, .string x10.Val, .bool x10.Del]).flatten 40⟩]) _ (HExt.refl _) w8 f16_) (Sub.cons (Sub.cons (Sub.cons (Sub.cons (Sub.cons (Sub.cons (Sub.cons (Sub.cons (Sub.cons (Sub.cons (Sub.cons (Sub.cons (Sub.cons (Sub.cons (Sub.cons (Sub.cons (Sub.cons (Sub.nil _) rfl) rfl) rfl) rfl) rfl) rfl) rfl) rfl) rfl) rfl) rfl) rfl) rfl) rfl) rfl) rfl) rfl)
            ·
              replace hF := ifF hc13 hF
              refine go_skip ?_
              obtain rfl := someI hF
              exact Goes.weak (J14 ((some ⟨bb10, 0, some 0⟩), [⟨bb10, .cells rw10.flatten 40⟩]) _ (HExt.refl _) w8 f8_2) (Sub.cons (Sub.cons (Sub.cons (Sub.cons (Sub.cons (Sub.cons (Sub.cons (Sub.cons (Sub.cons (Sub.cons (Sub.cons (Sub.cons (Sub.cons (Sub.cons (Sub.cons (Sub.cons (Sub.cons (Sub.nil _) rfl) rfl) rfl) rfl) rfl) rfl) rfl) rfl) rfl) rfl) rfl) rfl) rfl) rfl) rfl) rfl) rfl)
        ·
          replace hF := ifF hc9 hF
          refine go_exit rfl ?_
          obtain rfl := someI hF
          exact Goes.weak (J4 (a8_0, a8_1) _ e8 w8 f8_2) (Sub.cons (Sub.cons (Sub.cons (Sub.nil _) rfl) rfl) rfl)
theorem s_event_Filter (n : Nat) {h : Heap} (hw : Wf h) (p0 : (List TEvent)) (p1 : TRange) {a0_0 : Option Addr} {c0_0 : Nat} (f0_0 : RL R_TEvent h a0_0 c0_0 p0) {r : (List TEvent)} (hF : F_event_Filter n p0 p1 = some r) :
    Ev EE 14 [.slice a0_0 p0.length c0_0, .agg #[.string p1.From, .string p1.To]] h (fun v h1 => ∃ a0 c0, v = .slice a0 r.length c0 ∧ RL R_TEvent h1 a0 c0 r) := by
  unfold F_event_Filter at hF
  refine ev_of hw rfl at_14 rfl rfl (go_seg0 ?_)
  refine go_seq ?_
  refine go_region ?_
  refine gs_box rfl (ot rfl) rfl ?_; intro b3_1
  refine gAc rfl rfl ?_
  refine go_nil ?_
  refine go_seq ?_
  refine go_region ?_
  refine gM rfl rfl ?_
  replace hF := obind hF
  obtain ⟨x2, hx2, hF⟩ := hF
  refine gs_call EE_fr hw .nil (fun _ h => by cases h; rfl) of (os1 (ot rfl) os0) hb_26 (by exact evo_clone_26 hw f0_0 hx2) ?_
  rintro v2 S2 h2 e2 w2 ⟨q2, t2, rfl, rfl, f2_⟩
  simp only [List.cons_append, List.nil_append]
  refine gr rfl (r_func os0 (os1 (ot rfl) os0)) ?_
  refine gs_pub (.s (.z)) (fun h4 e4 w4 hb4 => ?_)
  have g4_ : BK h4 b3_1 [.string p1.From, .string p1.To] 24 := hb4
  replace hF := obind hF
  obtain ⟨x3, hx3, hF⟩ := hF
  refine gs_call EE_fr w4 (.cons .z .nil) (fun _ h => by cases h; rfl) of (os1 (ot rfl) (os1 (ot rfl) os0)) hb_25 (by exact s_slices_DeleteFunc_event_Filter_1 n w4 x2 p1 (f2_.ext e4.kn) g4_ hx3) ?_
  rintro v3 S3 h3 e3 w3 ⟨a3_0, c3_0, rfl, rfl, f3_0⟩
  simp only [List.cons_append, List.nil_append]
  refine gA rfl rfl ?_
  refine go_nil ?_
  obtain rfl := someI hF
  exact g_ret (rst rfl rs0) (fun h1 hf hs => ⟨(e2.trans (e4.trans (e3.trans hs.hext))), ⟨_, _, rfl, (f3_0.ext hs.hext.kn)⟩⟩)
theorem s_event_Restrict_1 {h : Heap} (hw : Wf h) (p0 : TKV) (p1 : TRange) {b1 : Nat} (g1 : BK h b1 [.string p1.From, .string p1.To] 24) {r : Bool} (hF : F_event_Restrict_1 p0 p1 = some r) :
    Ev EE 41 [.agg #[.string p0.Key, .string p0.Val, .int .i64 p0.Rev], .pointer (some ⟨b1, 0, none⟩)] h (fun v _ => v = .bool r) := by
  unfold F_event_Restrict_1 at hF
  refine ev_of hw rfl at_41 rfl rfl (go_seg0 ?_)
  refine go_seq ?_
  refine go_region ?_
  refine gs_box rfl (ot rfl) rfl ?_; intro b2_1
  refine gAc rfl rfl ?_
  refine go_nil ?_
  refine go_seq ?_
  refine go_region ?_
  refine gr rfl (r_load (ot rfl) (v := .agg #[.string p1.From, .string p1.To]) (lo_e (fun hf kn => ld_bk ag_24 sz_24 (g1.ext kn) (Nat.le_of_ble_eq_true rfl) rfl))) ?_
  refine gr rfl (r_fa (ot rfl) (fa_44_0 _ _)) ?_
  refine gr rfl (r_load (ot rfl) (lm_s (mem_seg 0 rfl) ag_9 rfl)) ?_
  replace hF := obind hF
  obtain ⟨x2, hx2, hF⟩ := hF
  refine g_callp (v := .bool x2) EE_fr rfl of (os1 (ot rfl) (os1 (ot rfl) os0)) hb_28 (fun _ => rfl) (fun hf kn w => by exact s_key_In w p1 p0.Key  hx2) ?_
  refine gr rfl (r_un (ot rfl) rfl) ?_
  refine gA rfl rfl ?_
  refine go_nil ?_
  obtain rfl := someI hF
  exact g_ret (rst rfl rs0) (fun h1 hf hs => ⟨hs.hext, rfl⟩)
theorem s_slices_IndexFunc_49_event_Restrict_1 {h : Heap} (hw : Wf h) (p0 : (List TKV)) (p1c0 : TRange) {a0_0 : Option Addr} {c0_0 : Nat} {b1c0 : Nat} (f0_0 : RL R_TKV h a0_0 c0_0 p0) (g1c0 : BK h b1c0 [.string p1c0.From, .string p1c0.To] 24) {r : Int} (hF : F_slices_IndexFunc_49_event_Restrict_1 p0 p1c0 = some r) :
    Ev EE 49 [.slice a0_0 p0.length c0_0, .func (.func 41) #[] #[.pointer (some ⟨b1c0, 0, none⟩)]] h (fun v _ => v = .int .i64 r) := by
  unfold F_slices_IndexFunc_49_event_Restrict_1 at hF
  refine ev_of hw rfl at_49 rfl rfl (go_seg0 ?_)
  refine go_seq ?_
  refine go_region ?_
  refine gAc rfl rfl ?_
  refine go_nil ?_
  refine go_seq ?_
  refine go_seq ?_
  refine go_region ?_
  refine gM rfl rfl ?_
  refine gr rfl (r_len rfl (os1 (ot rfl) os0) (fun _ _ => ln_33)) ?_
  refine gMc rfl rfl ?_
  refine go_nil ?_
  replace hF := obind hF
  obtain ⟨s1, hF, hK1⟩ := hF
  refine go_joinc (β := (Unit)) (fun s h' => s1 = .go s) (fun s => [(4, true, .int .i64 0)]) (fun s => (List.flatten [] : List Blk)) ?_ (fun J1 => ?_)
  ·
    rintro _ h1 e1 w1 hs1
    subst hs1
    replace hF := lpgo hK1
    refine go_seq ?_
    refine go_region ?_
    refine gAc rfl rfl ?_
    refine go_nil ?_
    obtain rfl := someI hF
    exact g_ret (rst rfl rs0) (fun h1 hf hs => ⟨(e1.trans hs.hext), rfl⟩)
  ·
    refine go_block ?_
    refine go_loop (α := (List TKV) × Nat × Heap) (fun a => a.1 = List.drop a.2.1 p0 ∧ HExt h a.2.2 ∧ Wf a.2.2 ∧ F_slices_IndexFunc_49_event_Restrict_1_L1 p1c0 a.1 a.2.1 = some s1) (fun a => a.1.length) (fun a => [(0, true, .slice a0_0 p0.length c0_0), (1, true, .func (.func 41) #[] #[.pointer (some ⟨b1c0, 0, none⟩)]), (4, true, .int .i64 0), (7, true, .int .i64 (p0.length : Int)), (8, true, .int .i64 (a.2.1 : Int))]) (fun a => (List.flatten [] : List Blk)) (fun a => a.2.2) ?_ (p0, 0, h) ⟨rfl, HExt.refl _, hw, hF⟩ (Sub.cons (Sub.cons (Sub.cons (Sub.cons (Sub.cons (Sub.nil _) rfl) rfl) rfl) rfl) rfl) rfl rfl
    rintro ⟨r2, i2, h2⟩ ⟨hr2, e2, w2, hF⟩ ih2
    rcases r2 with _ | ⟨z2, r2⟩
    ·
      have hi2 := drop_nil hr2
      rw [F_slices_IndexFunc_49_event_Restrict_1_L1.eq_1] at hF
      refine go_seq ?_
      refine go_region ?_
      refine gr rfl (r_bin (ot rfl) (ot rfl) rfl) ?_
      refine go_cast (.bool false) (congrArg Value.bool (decide_eq_false hi2)) ?_
      refine go_nil ?_
      refine go_seq ?_
      refine g_cond (b := false) (ot rfl) (fun hc3 => ?_) (fun hc3 => ?_)
      · cases hc3
      refine go_exit rfl ?_
      obtain rfl := someI hF
      exact Goes.weak (J1 () _ e2 w2 rfl) (Sub.cons (Sub.nil _) rfl)
    ·
      obtain ⟨hi2, hx2, hr2⟩ := drop_cons hr2
      have hb2 := (f0_0.ext e2.kn).1
      rw [F_slices_IndexFunc_49_event_Restrict_1_L1.eq_2] at hF
      refine go_seq ?_
      refine go_region ?_
      refine gr rfl (r_bin (ot rfl) (ot rfl) rfl) ?_
      refine go_cast (.bool true) (congrArg Value.bool (decide_eq_true (Int.ofNat_lt.mpr hi2))) ?_
      refine go_nil ?_
      refine go_seq ?_
      refine g_cond (b := true) (ot rfl) (fun hc4 => ?_) (fun hc4 => ?_)
      rotate_left
      · cases hc4
      refine go_skip ?_
      refine go_seq ?_
      refine go_block ?_
      refine go_seq ?_
      refine go_region ?_
      refine gM rfl rfl ?_
      refine gA rfl rfl ?_
      refine go_nil ?_
      refine go_seq ?_
      refine go_region ?_
      refine gM rfl rfl ?_
      refine gM rfl rfl ?_
      refine gM rfl rfl ?_
      obtain ⟨q5, row5, i5, cl5, rc5, sp5⟩ := ix (ik := .i64) (cap := c0_0) (E := EE) (f0_0.ext e2.kn) ((getI_nat _ _).trans hx2) ut_33 sz_44 rfl
      obtain rfl := rc5
      refine gr rfl (r_ia (ot rfl) (ot rfl) i5) ?_
      refine gr rfl (r_load (ot rfl) (v := .agg #[.string z2.Key, .string z2.Val, .int .i64 z2.Rev]) (lo_e (fun hf kn => ld_of (r := [.string z2.Key, .string z2.Val, .int .i64 z2.Rev]) ag_44 sz_44 (kn.cellsAt cl5)))) ?_
      replace hF := obind hF
      obtain ⟨x6, hx6, hF⟩ := hF
      refine g_callp (v := .bool x6) EE_fr rfl (ot rfl) (os1 (ot rfl) os0) hb_41 (fun _ => rfl) (fun hf kn w => by exact s_event_Restrict_1 w z2 p1c0 ((g1c0.ext e2.kn).ext kn) hx6) ?_
      refine go_nil ?_
      refine g_cond (b := x6) (ot rfl) (fun hc7 => ?_) (fun hc7 => ?_)
      ·
        replace hF := ifT hc7 hF
        refine go_seq ?_
        refine go_region ?_
        refine gM rfl rfl ?_
        refine gA rfl rfl ?_
        refine go_nil ?_
        obtain rfl := someI hF
        obtain rfl := someI hK1
        exact g_ret (rst rfl rs0) (fun h1 hf hs => ⟨(e2.trans hs.hext), rfl⟩)
      ·
        replace hF := ifF hc7 hF
        refine go_skip ?_
        refine go_endb ?_
        refine go_region ?_
        refine gr rfl (r_bin (ot rfl) (oc rfl) rfl) ?_
        refine gM rfl rfl ?_
        refine go_nil ?_
        refine go_re 8 (v2 := .int .i64 ((i2 + 1 : Nat) : Int)) rfl (wrap_succ hi2 hb2) ?_
        exact Goes.weak (ih2 (r2, i2 + 1, h2) ⟨hr2, e2, w2, hF⟩ (Nat.lt_succ_self _)) (Sub.cons (Sub.cons (Sub.cons (Sub.cons (Sub.cons (Sub.nil _) rfl) rfl) rfl) rfl) rfl)
theorem s_slices_DeleteFunc_40_event_Restrict_1 (n : Nat) {h : Heap} (hw : Wf h) (p0 : (List TKV)) (p1c0 : TRange) {qA0 : Option Addr} {tA0 : List Blk} {b1c0 : Nat} (fA0 : AccR R_TKV 44 h tA0 (.slice qA0 p0.length p0.length) p0) (g1c0 : BK h b1c0 [.string p1c0.From, .string p1c0.To] 24) {r : (List TKV)} (hF : F_slices_DeleteFunc_40_event_Restrict_1 n p0 p1c0 = some r) :
    EvO EE 40 [.slice qA0 p0.length p0.length, .func (.func 41) #[] #[.pointer (some ⟨b1c0, 0, none⟩)]] [tA0] h (fun v S h1 => ∃ a0 c0, v = .slice a0 r.length c0 ∧ S = [] ∧ RL R_TKV h1 a0 c0 r) := by
  unfold F_slices_DeleteFunc_40_event_Restrict_1 at hF
  refine evo_of rfl at_40 rfl rfl ?_
  refine go_seq ?_
  refine go_region ?_
  refine gAc rfl rfl ?_
  refine go_nil ?_
  refine go_seq ?_
  refine go_region ?_
  refine gM rfl rfl ?_
  refine gM rfl rfl ?_
  replace hF := obind hF
  obtain ⟨x1, hx1, hF⟩ := hF
  refine gs_callb (v := .int .i64 x1) EE_fr rfl .z fA0 rfl of (os1 (ot rfl) (os1 (ot rfl) os0)) hb_49 (fun hf kn w fb1 => by exact s_slices_IndexFunc_49_event_Restrict_1 w p0 p1c0 fb1 (g1c0.ext kn) hx1) ?_
  refine gA rfl rfl ?_
  refine go_nil ?_
  refine go_seq ?_
  refine go_seq ?_
  refine go_region ?_
  refine gM rfl rfl ?_
  refine gr rfl (r_bin (ot rfl) (oc rfl) rfl) ?_
  refine go_nil ?_
  refine g_cond (b := (x1 == (-1))) (ot rfl) (fun hc2 => ?_) (fun hc2 => ?_)
  ·
    replace hF := ifT hc2 hF
    refine go_seq ?_
    refine go_region ?_
    refine gM rfl rfl ?_
    refine gA rfl rfl ?_
    refine go_nil ?_
    refine gs_accpub .z fA0 (fun h3 e3 w3 f3_ => ?_) rfl
    obtain rfl := someI hF
    exact g_ret (rst rfl rs0) (fun h1 hf hs => ⟨[], _, hf, e3, w3, hs, nd0, ⟨_, _, rfl, rfl, f3_⟩⟩)
  ·
    replace hF := ifF hc2 hF
    refine go_skip ?_
    refine go_seq ?_
    refine go_seq ?_
    refine go_region ?_
    refine gM rfl rfl ?_
    refine gr rfl (r_bin (ot rfl) (oc rfl) rfl) ?_
    refine gA rfl rfl ?_
    refine go_nil ?_
    replace hF := obind hF
    obtain ⟨s4, hF, hK4⟩ := hF
    refine go_joinc (β := Option Addr × List Blk) (fun s h' => AccR R_TKV 44 h' s.2 (.slice s.1 s4.1.length s4.1.length) s4.1) (fun s => [(0, true, .slice s.1 s4.1.length s4.1.length), (4, true, .slice none 0 0), (5, true, .int .i64 s4.2)]) (fun s => (List.flatten [s.2] : List Blk)) ?_ (fun J4 => ?_)
    ·
      rintro ⟨a4_0, a4_1⟩ h4 e4 w4 f4_0
      replace hF := hK4
      refine go_seq ?_
      refine go_region ?_
      refine gM rfl rfl ?_
      refine gM rfl rfl ?_
      replace hF := obind hF
      obtain ⟨x5, hx5, hF⟩ := hF
      refine g_clrtail (k := 3) (zx := (⟨ByteArray.empty, ByteArray.empty, 0⟩ : TKV)) (R := R_TKV) f4_0 hx5 rfl (fun _ h => by cases h) (ot rfl) (ot rfl) ut_33 sz_44 rfl (by decide) zo_44 rfl rfl rfl rfl (fun v5 t5 f5_ => ?_)
      have hl5 := clrL_len hx5
      refine go_re 0 (v2 := .slice a4_0 x5.length x5.length) rfl (by rw [hl5]) ?_
      refine go_re 36 (v2 := .slice a4_0 x5.length x5.length) rfl (by rw [hl5]) ?_
      refine go_nil ?_
      refine go_seq ?_
      refine go_region ?_
      refine gM rfl rfl ?_
      refine gM rfl rfl ?_
      refine gs_accpub .z f5_ (fun h7 e7 w7 f7_ => ?_) rfl
      replace hF := obind hF
      obtain ⟨x6, hx6, hF⟩ := hF
      obtain ⟨a6_, c6_, i6⟩ := subL0_ok (E := EE) f7_ hx6 (fun e => by rw [e]; rfl) ut_33 sz_44 rfl rfl
      have f6_ := i6.rl
      refine gr rfl (r_slice (ot rfl) on (oo (ot rfl)) on (fun hf kn => i6.hi kn rfl)) ?_
      refine gA rfl rfl ?_
      refine go_nil ?_
      obtain rfl := someI hF
      exact g_ret (rst rfl rs0) (fun h1 hf hs => ⟨[], _, hf, (e4.trans e7), w7, hs, nd0, ⟨_, _, rfl, rfl, f6_⟩⟩)
    ·
      refine go_block ?_
      refine go_loop (α := Nat × Int × Int × (List TKV) × Option Addr × List Blk × Heap) (fun a => HExt h a.2.2.2.2.2.2 ∧ Wf a.2.2.2.2.2.2 ∧ F_slices_DeleteFunc_40_event_Restrict_1_L1 p1c0 a.1 a.2.1 a.2.2.1 a.2.2.2.1 = some s4 ∧ AccR R_TKV 44 a.2.2.2.2.2.2 a.2.2.2.2.2.1 (.slice a.2.2.2.2.1 a.2.2.2.1.length a.2.2.2.1.length) a.2.2.2.1) (fun a => a.1) (fun a => [(0, true, .slice a.2.2.2.2.1 a.2.2.2.1.length a.2.2.2.1.length), (1, true, .func (.func 41) #[] #[.pointer (some ⟨b1c0, 0, none⟩)]), (4, true, .slice none 0 0), (5, true, .int .i64 a.2.1), (6, true, .int .i64 a.2.2.1)]) (fun a => (List.flatten [a.2.2.2.2.2.1] : List Blk)) (fun a => a.2.2.2.2.2.2) ?_ (n, x1, (IntKind.i64.wrap (x1 + 1)), p0, qA0, tA0, h) ⟨HExt.refl _, hw, hF, fA0⟩ (Sub.cons (Sub.cons (Sub.cons (Sub.cons (Sub.cons (Sub.nil _) rfl) rfl) rfl) rfl) rfl) rfl rfl
      rintro ⟨m8, y8_0, y8_1, y8_2, a8_0, a8_1, h8⟩ ⟨e8, w8, hF, f8_2⟩ ih8
      rcases m8 with _ | m8
      ·
        rw [F_slices_DeleteFunc_40_event_Restrict_1_L1.eq_1] at hF; cases hF
      ·
        rw [F_slices_DeleteFunc_40_event_Restrict_1_L1.eq_2] at hF
        refine go_seq ?_
        refine go_seq ?_
        refine go_region ?_
        refine gM rfl rfl ?_
        refine gM rfl rfl ?_
        refine gr rfl (r_len rfl (os1 (ot rfl) os0) (fun _ _ => ln_33)) ?_
        refine gr rfl (r_bin (ot rfl) (ot rfl) rfl) ?_
        refine go_nil ?_
        refine g_cond (b := (decide (y8_1 < (y8_2.length : Int)))) (ot rfl) (fun hc9 => ?_) (fun hc9 => ?_)
        ·
          replace hF := ifT hc9 hF
          refine go_skip ?_
          refine go_seq ?_
          refine go_block ?_
          refine go_seq ?_
          refine go_region ?_
          refine gM rfl rfl ?_
          refine gM rfl rfl ?_
          replace hF := obind hF
          obtain ⟨x10, hx10, hF⟩ := hF
          obtain ⟨bb10, rw10, row10, hp10, ht10, hR10, hw10, rc10, hz10, hi10, hd10, hb10, hl10⟩ := AccR.at_ f8_2 hx10
          have hF10_ := hF
          subst hp10; subst ht10
          replace hF := hF10_
          obtain rfl := rc10
          refine gr rfl (r_ia (ot rfl) (ot rfl) (ia_acc (k := 3) ut_33 sz_44 hz10 hi10)) ?_
          refine gr rfl (r_load (ot rfl) (lm_a (vs := [.string x10.Key, .string x10.Val, .int .i64 x10.Rev]) (mem_seg 0 rfl) ag_44 sz_44 (Nat.ble_eq_true_of_le hb10) hd10)) ?_
          refine gs_alloc rfl zo_44 rfl ?_; intro b7_11
          refine gs_store (ot rfl) (ot rfl) sz_44 rfl rfl rfl rfl rfl .z ?_
          refine go_nil ?_
          refine go_seq ?_
          refine go_region ?_
          refine gM rfl rfl ?_
          refine gr rfl (r_load (ot rfl) (lm_w (mem_seg 0 rfl) ag_44 sz_44 rfl)) ?_
          replace hF := obind hF
          obtain ⟨x12, hx12, hF⟩ := hF
          refine g_callp (v := .bool x12) EE_fr rfl (ot rfl) (os1 (ot rfl) os0) hb_41 (fun _ => rfl) (fun hf kn w => by exact s_event_Restrict_1 w x10 p1c0 ((g1c0.ext e8.kn).ext kn) hx12) ?_
          refine gr rfl (r_un (ot rfl) rfl) ?_
          refine go_nil ?_
          replace hF := obind hF
          obtain ⟨s14, hF, hK14⟩ := hF
          refine go_joinc (β := Option Addr × List Blk) (fun s h' => AccR R_TKV 44 h' s.2 (.slice s.1 s14.1.length s14.1.length) s14.1) (fun s => [(0, true, .slice s.1 s14.1.length s14.1.length), (1, true, .func (.func 41) #[] #[.pointer (some ⟨b1c0, 0, none⟩)]), (4, true, .slice none 0 0), (5, true, .int .i64 s14.2), (6, true, .int .i64 y8_1), (7, true, .pointer (some ⟨b7_11, 0, none⟩)), (16, true, .int .i64 y8_1), (17, true, .slice s.1 s14.1.length s14.1.length), (18, true, .int .i64 (y8_2.length : Int)), (19, true, .bool (decide (y8_1 < (y8_2.length : Int)))), (22, true, .slice s.1 s14.1.length s14.1.length), (23, true, .int .i64 y8_1), (25, true, .agg #[.string x10.Key, .string x10.Val, .int .i64 x10.Rev]), (26, true, .func (.func 41) #[] #[.pointer (some ⟨b1c0, 0, none⟩)]), (27, true, .agg #[.string x10.Key, .string x10.Val, .int .i64 x10.Rev]), (28, true, .bool x12), (29, true, .bool (!x12))]) (fun s => (List.flatten [[⟨b7_11, .cells [.string x10.Key, .string x10.Val, .int .i64 x10.Rev] 44⟩], s.2] : List Blk)) ?_ (fun J14 => ?_)
          ·
            rintro ⟨a14_0, a14_1⟩ h14 e14 w14 f14_0
            replace hF := hK14
            refine go_endb ?_
            refine go_region ?_
            refine gM rfl rfl ?_
            refine gr rfl (r_bin (ot rfl) (oc rfl) rfl) ?_
            refine gA rfl rfl ?_
            refine go_nil ?_
            refine gs_sub (.cons _ (.cons_cons _ (.refl _))) ?_
            exact Goes.weak (ih8 (m8, s14.2, (IntKind.i64.wrap (y8_1 + 1)), s14.1, a14_0, a14_1, h14) ⟨(e8.trans e14), w14, hF, f14_0⟩ (Nat.lt_succ_self _)) (Sub.cons (Sub.cons (Sub.cons (Sub.cons (Sub.cons (Sub.nil _) rfl) rfl) rfl) rfl) rfl)
          ·
            refine g_cond (b := (!x12)) (ot rfl) (fun hc13 => ?_) (fun hc13 => ?_)
            ·
              replace hF := ifT hc13 hF
              refine go_seq ?_
              refine go_region ?_
              refine gM rfl rfl ?_
              refine gM rfl rfl ?_
              refine gr rfl (r_load (ot rfl) (lm_w (mem_seg 0 rfl) ag_44 sz_44 rfl)) ?_
              replace hF := obind hF
              obtain ⟨x15, hx15, hF⟩ := hF
              obtain ⟨row15, hw15, rc15, hz15, hi15, hd15, hb15⟩ := hR10.at2 hx15
              obtain rfl := rc15
              refine gr rfl (r_ia (ot rfl) (ot rfl) (ia_acc (k := 3) ut_33 sz_44 hz15 hi15)) ?_
              have hc16 : R_TKV.C h8 [.string x10.Key, .string x10.Val, .int .i64 x10.Rev] x10 := rfl
              have hR16 : Rws R_TKV h8 (rw10.set y8_0.toNat [.string x10.Key, .string x10.Val, .int .i64 x10.Rev]) (setI y8_2 y8_0 x10) := Rws.set hR10 hc16 _
              have hq16 := (List.getElem?_eq_some_iff.mp hw15).1
              have hl16 : (setI y8_2 y8_0 x10).length < 9223372036854775808 := by rw [setI_len]; exact hl10
              have f16_ : AccR R_TKV 44 h8 [⟨bb10, .cells (rw10.set y8_0.toNat [.string x10.Key, .string x10.Val, .int .i64 x10.Rev]).flatten 44⟩] (.slice (some ⟨bb10, 0, some 0⟩) (setI y8_2 y8_0 x10).length (setI y8_2 y8_0 x10).length) (setI y8_2 y8_0 x10) := AccR.set_ hl10 hR10 rfl hc16
              obtain ⟨hd16, hb16⟩ := flat_at_set (row' := [.string x10.Key, .string x10.Val, .int .i64 x10.Rev]) hR10.k hq16 rfl
              have hw16 : (rw10.set y8_0.toNat [.string x10.Key, .string x10.Val, .int .i64 x10.Rev])[y8_0.toNat]? = some [.string x10.Key, .string x10.Val, .int .i64 x10.Rev] := List.getElem?_set_self hq16
              refine gs_store (vs := [.string x10.Key, .string x10.Val, .int .i64 x10.Rev]) (cs' := (rw10.set y8_0.toNat [.string x10.Key, .string x10.Val, .int .i64 x10.Rev]).flatten) (ot rfl) (ot rfl) sz_44 rfl rfl (acc_ble (j := 0) (m := 3) hb15 (by decide)) rfl (flat_splice_part (j := 0) _ _ hR10.k hw15 (Nat.le_of_ble_eq_true rfl)) (.s (.z)) ?_
              refine go_re 0 (v2 := .slice (some ⟨bb10, 0, some 0⟩) (setI y8_2 y8_0 x10).length (setI y8_2 y8_0 x10).length) rfl (by simp only [setI_len]) ?_
              refine go_re 17 (v2 := .slice (some ⟨bb10, 0, some 0⟩) (setI y8_2 y8_0 x10).length (setI y8_2 y8_0 x10).length) rfl (by simp only [setI_len]) ?_
              refine go_re 22 (v2 := .slice (some ⟨bb10, 0, some 0⟩) (setI y8_2 y8_0 x10).length (setI y8_2 y8_0 x10).length) rfl (by simp only [setI_len]) ?_
              refine go_re 30 (v2 := .slice (some ⟨bb10, 0, some 0⟩) (setI y8_2 y8_0 x10).length (setI y8_2 y8_0 x10).length) rfl (by simp only [setI_len]) ?_
              refine go_nil ?_
              refine go_region ?_
              refine gM rfl rfl ?_
              refine gr rfl (r_bin (ot rfl) (oc rfl) rfl) ?_
              refine gA rfl rfl ?_
              refine go_nil ?_
              obtain rfl := someI hF
              exact Goes.weak (J14 ((some ⟨bb10, 0, some 0⟩), [⟨bb10, .cells (rw10.set y8_0.toNat [.string x10.Key, .string x10.Val, .int .i64 x10.Rev]).flatten 44⟩]) _ (HExt.refl _) w8 f16_) (Sub.cons (Sub.cons (Sub.cons (Sub.cons (Sub.cons (Sub.cons (Sub.cons (Sub.cons (Sub.cons (Sub.cons (Sub.cons (Sub.cons (Sub.cons (Sub.cons (Sub.cons (Sub.cons (Sub.cons (Sub.nil _) rfl) rfl) rfl) rfl) rfl) rfl) rfl) rfl) rfl) rfl) rfl) rfl) rfl) rfl) rfl) rfl) rfl)
            ·
              replace hF := ifF hc13 hF
              refine go_skip ?_
              obtain rfl := someI hF
              exact Goes.weak (J14 ((some ⟨bb10, 0, some 0⟩), [⟨bb10, .cells rw10.flatten 44⟩]) _ (HExt.refl _) w8 f8_2) (Sub.cons (Sub.cons (Sub.cons (Sub.cons (Sub.cons (Sub.cons (Sub.cons (Sub.cons (Sub.cons (Sub.cons (Sub.cons (Sub.cons (Sub.cons (Sub.cons (Sub.cons (Sub.cons (Sub.cons (Sub.nil _) rfl) rfl) rfl) rfl) rfl) rfl) rfl) rfl) rfl) rfl) rfl) rfl) rfl) rfl) rfl) rfl) rfl)
        ·
          replace hF := ifF hc9 hF
          refine go_exit rfl ?_
          obtain rfl := someI hF
          exact Goes.weak (J4 (a8_0, a8_1) _ e8 w8 f8_2) (Sub.cons (Sub.cons (Sub.cons (Sub.nil _) rfl) rfl) rfl)
theorem s_event_Restrict (n : Nat) {h : Heap} (hw : Wf h) (p0 : (List TKV)) (p1 : TRange) {a0_0 : Option Addr} {c0_0 : Nat} (f0_0 : RL R_TKV h a0_0 c0_0 p0) {r : (List TKV)} (hF : F_event_Restrict n p0 p1 = some r) :
    Ev EE 22 [.slice a0_0 p0.length c0_0, .agg #[.string p1.From, .string p1.To]] h (fun v h1 => ∃ a0 c0, v = .slice a0 r.length c0 ∧ RL R_TKV h1 a0 c0 r) := by
  unfold F_event_Restrict at hF
  refine ev_of hw rfl at_22 rfl rfl (go_seg0 ?_)
  refine go_seq ?_
  refine go_region ?_
  refine gs_box rfl (ot rfl) rfl ?_; intro b3_1
  refine gAc rfl rfl ?_
  refine go_nil ?_
  refine go_seq ?_
  refine go_region ?_
  refine gM rfl rfl ?_
  replace hF := obind hF
  obtain ⟨x2, hx2, hF⟩ := hF
  refine gs_call EE_fr hw .nil (fun _ h => by cases h; rfl) of (os1 (ot rfl) os0) hb_34 (by exact evo_clone_34 hw f0_0 hx2) ?_
  rintro v2 S2 h2 e2 w2 ⟨q2, t2, rfl, rfl, f2_⟩
  simp only [List.cons_append, List.nil_append]
  refine gr rfl (r_func os0 (os1 (ot rfl) os0)) ?_
  refine gs_pub (.s (.z)) (fun h4 e4 w4 hb4 => ?_)
  have g4_ : BK h4 b3_1 [.string p1.From, .string p1.To] 24 := hb4
  replace hF := obind hF
  obtain ⟨x3, hx3, hF⟩ := hF
  refine gs_call EE_fr w4 (.cons .z .nil) (fun _ h => by cases h; rfl) of (os1 (ot rfl) (os1 (ot rfl) os0)) hb_40 (by exact s_slices_DeleteFunc_40_event_Restrict_1 n w4 x2 p1 (f2_.ext e4.kn) g4_ hx3) ?_
  rintro v3 S3 h3 e3 w3 ⟨a3_0, c3_0, rfl, rfl, f3_0⟩
  simp only [List.cons_append, List.nil_append]
  refine gA rfl rfl ?_
  refine go_nil ?_
  obtain rfl := someI hF
  exact g_ret (rst rfl rs0) (fun h1 hf hs => ⟨(e2.trans (e4.trans (e3.trans hs.hext))), ⟨_, _, rfl, (f3_0.ext hs.hext.kn)⟩⟩)
theorem s_event_Last {h : Heap} (hw : Wf h) (p0 : (List TEvent)) {a0_0 : Option Addr} {c0_0 : Nat} (f0_0 : RL R_TEvent h a0_0 c0_0 p0) {r : (List TEvent)} (hF : F_event_Last p0 = some r) :
    Ev EE 16 [.slice a0_0 p0.length c0_0] h (fun v h1 => ∃ a0 c0, v = .slice a0 r.length c0 ∧ RL R_TEvent h1 a0 c0 r) := by
  unfold F_event_Last at hF
  refine ev_of hw rfl at_16 rfl rfl (go_seg0 ?_)
  refine go_seq ?_
  refine go_region ?_
  refine gAc rfl rfl ?_
  refine go_nil ?_
  refine go_seq ?_
  refine go_region ?_
  refine gs_mkmap (ke := kS) (ve := vE_TEvent) rfl ?_; intro b6_1
  refine gA rfl rfl ?_
  refine go_nil ?_
  refine go_seq ?_
  refine go_seq ?_
  refine go_region ?_
  refine gM rfl rfl ?_
  refine gr rfl (r_len rfl (os1 (ot rfl) os0) (fun _ _ => ln_22)) ?_
  refine gMc rfl rfl ?_
  refine go_nil ?_
  replace hF := obind hF
  obtain ⟨s2, hF, hK2⟩ := hF
  refine go_joinc (β := Unit) (fun s h' => True) (fun s => [(2, true, .slice none 0 0), (3, true, .map (some b6_1))]) (fun s => (List.flatten [[⟨b6_1, .map (encM kS vE_TEvent s2)⟩]] : List Blk)) ?_ (fun J2 => ?_)
  ·
    rintro _ h2 e2 w2 _
    replace hF := hK2
    refine go_seq ?_
    refine go_region ?_
    refine gM rfl rfl ?_
    refine gs_call EE_fr w2 .nil (fun _ h => by cases h; rfl) of (os1 (ot rfl) os0) hb_31 (by exact evo_values_31 w2) ?_
    rintro v3 S3 h3 e3 w3 ⟨bq3, rfl, rfl⟩
    simp only [List.cons_append, List.nil_append]
    replace hF := obind hF
    obtain ⟨x4, hx4, hF⟩ := hF
    refine gs_call EE_fr w3 (.cons .z (.cons .z .nil)) (fun _ h => by cases h; rfl) of (os1 (ot rfl) (os1 of os0)) hb_30 (by exact evo_sorted_30 w3 hx4) ?_
    rintro v4 S4 h4 e4 w4 ⟨q4, t4, rfl, rfl, f4_⟩
    simp only [List.cons_append, List.nil_append]
    refine gA rfl rfl ?_
    refine go_nil ?_
    refine gs_accpub .z f4_ (fun h5 e5 w5 f5_ => ?_) rfl
    obtain rfl := someI hF
    exact g_ret (rst rfl rs0) (fun h1 hf hs => ⟨(e2.trans (e3.trans (e4.trans (e5.trans hs.hext)))), ⟨_, _, rfl, (f5_.ext hs.hext.kn)⟩⟩)
  ·
    refine go_block ?_
    refine go_loop (α := (List TEvent) × Nat × (List (ByteArray × TEvent)) × Heap) (fun a => a.1 = List.drop a.2.1 p0 ∧ HExt h a.2.2.2 ∧ Wf a.2.2.2 ∧ F_event_Last_L1 a.1 a.2.1 a.2.2.1 = some s2) (fun a => a.1.length) (fun a => [(2, true, .slice none 0 0), (3, true, .map (some b6_1)), (7, true, .slice a0_0 p0.length c0_0), (8, true, .int .i64 (p0.length : Int)), (9, true, .int .i64 (a.2.1 : Int))]) (fun a => (List.flatten [[⟨b6_1, .map (encM kS vE_TEvent a.2.2.1)⟩]] : List Blk)) (fun a => a.2.2.2) ?_ (p0, 0, ([] : (List (ByteArray × TEvent))), h) ⟨rfl, HExt.refl _, hw, hF⟩ (Sub.cons (Sub.cons (Sub.cons (Sub.cons (Sub.cons (Sub.nil _) rfl) rfl) rfl) rfl) rfl) rfl rfl
    rintro ⟨r6, i6, y6_0, h6⟩ ⟨hr6, e6, w6, hF⟩ ih6
    rcases r6 with _ | ⟨z6, r6⟩
    ·
      have hi6 := drop_nil hr6
      rw [F_event_Last_L1.eq_1] at hF
      refine go_seq ?_
      refine go_region ?_
      refine gr rfl (r_bin (ot rfl) (ot rfl) rfl) ?_
      refine go_cast (.bool false) (congrArg Value.bool (decide_eq_false hi6)) ?_
      refine go_nil ?_
      refine go_seq ?_
      refine g_cond (b := false) (ot rfl) (fun hc7 => ?_) (fun hc7 => ?_)
      · cases hc7
      refine go_exit rfl ?_
      obtain rfl := someI hF
      exact Goes.weak (J2 () _ e6 w6 trivial) (Sub.cons (Sub.cons (Sub.nil _) rfl) rfl)
    ·
      obtain ⟨hi6, hx6, hr6⟩ := drop_cons hr6
      have hb6 := (f0_0.ext e6.kn).1
      rw [F_event_Last_L1.eq_2] at hF
      refine go_seq ?_
      refine go_region ?_
      refine gr rfl (r_bin (ot rfl) (ot rfl) rfl) ?_
      refine go_cast (.bool true) (congrArg Value.bool (decide_eq_true (Int.ofNat_lt.mpr hi6))) ?_
      refine go_nil ?_
      refine go_seq ?_
      refine g_cond (b := true) (ot rfl) (fun hc8 => ?_) (fun hc8 => ?_)
      rotate_left
      · cases hc8
      refine go_skip ?_
      refine go_seq ?_
      refine go_block ?_
      refine go_seq ?_
      refine go_region ?_
      obtain ⟨q9, row9, i9, cl9, rc9, sp9⟩ := ix (ik := .i64) (cap := c0_0) (E := EE) (f0_0.ext e6.kn) ((getI_nat _ _).trans hx6) ut_22 sz_40 rfl
      obtain rfl := rc9
      refine gr rfl (r_ia (ot rfl) (ot rfl) i9) ?_
      refine gr rfl (r_load (ot rfl) (v := .agg #[.int .i64 z6.Rev, .string z6.Key, .string z6.Val, .bool z6.Del]) (lo_e (fun hf kn => ld_of (r := [.int .i64 z6.Rev, .string z6.Key, .string z6.Val, .bool z6.Del]) ag_40 sz_40 (kn.cellsAt cl9)))) ?_
      refine gs_alloc rfl zo_40 rfl ?_; intro b5_10
      refine gs_store (ot rfl) (ot rfl) sz_40 rfl rfl rfl rfl rfl .z ?_
      refine go_nil ?_
      refine go_region ?_
      refine gM rfl rfl ?_
      refine gr rfl (r_fa (ot rfl) (fa_40_1 _ _)) ?_
      refine gr rfl (r_load (ot rfl) (lm_s (mem_seg 0 rfl) ag_9 rfl)) ?_
      refine gr rfl (r_load (ot rfl) (lm_w (mem_seg 0 rfl) ag_40 sz_40 rfl)) ?_
      refine gs_mset (ke := kS) (ve := vE_TEvent) (es := y6_0) (kv := z6.Key) (v := z6) (ot rfl) (ot rfl) (ot rfl) um_50 rfl sc_9 sameS (.s (.z)) ?_
      refine go_nil ?_
      refine go_endb ?_
      refine go_region ?_
      refine gr rfl (r_bin (ot rfl) (oc rfl) rfl) ?_
      refine gM rfl rfl ?_
      refine go_nil ?_
      refine gs_sub (.cons _ (.cons_cons _ (.refl _))) ?_
      refine go_re 9 (v2 := .int .i64 ((i6 + 1 : Nat) : Int)) rfl (wrap_succ hi6 hb6) ?_
      exact Goes.weak (ih6 (r6, i6 + 1, (mset y6_0 z6.Key z6), h6) ⟨hr6, e6, w6, hF⟩ (Nat.lt_succ_self _)) (Sub.cons (Sub.cons (Sub.cons (Sub.cons (Sub.cons (Sub.nil _) rfl) rfl) rfl) rfl) rfl)
end Go.Proofs.Ytcjcbcmapjcfnaa.V
