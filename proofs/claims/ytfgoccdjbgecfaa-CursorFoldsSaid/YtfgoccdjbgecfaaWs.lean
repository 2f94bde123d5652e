/- Walks.
   No condition: these are laws of the clean machine and of this program. -/
import Derived.Test.YtfgoccdjbgecfaaPT
namespace Go.Proofs.Ytfgoccdjbgecfaa.V
open Go
set_option linter.unusedVariables false
set_option linter.unusedSimpArgs false
set_option maxRecDepth 100000
set_option maxHeartbeats 4000000
theorem s_ref05_Events {h : Heap} (hw : Wf h) (p0 : (List TEvent)) (p1 : (List TEvent)) {a0_0 : Option Addr} {c0_0 : Nat} {a1_0 : Option Addr} {c1_0 : Nat} (f0_0 : RL R_TEvent h a0_0 c0_0 p0) (f1_0 : RL R_TEvent h a1_0 c1_0 p1) {r : Bool} (hF : F_ref05_Events p0 p1 = some r) :
    Ev EE 25 [.slice a0_0 p0.length c0_0, .slice a1_0 p1.length c1_0] h (fun v _ => v = .bool r) := by
  unfold F_ref05_Events at hF
  refine ev_of hw rfl at_25 rfl rfl (go_seg0 ?_)
  refine go_seq ?_
  refine go_region ?_
  refine gAc rfl rfl ?_
  refine go_nil ?_
  refine go_seq ?_
  refine go_seq ?_
  refine go_region ?_
  refine gM rfl rfl ?_
  refine gr rfl (r_len rfl (os1 (ot rfl) os0) (fun _ _ => ln_30)) ?_
  refine gM rfl rfl ?_
  refine gr rfl (r_len rfl (os1 (ot rfl) os0) (fun _ _ => ln_30)) ?_
  refine gr rfl (r_bin (ot rfl) (ot rfl) rfl) ?_
  refine go_nil ?_
  refine g_cond (b := ((p0.length : Int) != (p1.length : Int))) (ot rfl) (fun hc1 => ?_) (fun hc1 => ?_)
  ·
    replace hF := ifT hc1 hF
    refine go_seq ?_
    refine go_region ?_
    refine gAc rfl rfl ?_
    refine go_nil ?_
    obtain rfl := someI hF
    exact g_ret (rst rfl rs0) (fun h1 hf hs => ⟨hs.hext, rfl⟩)
  ·
    replace hF := ifF hc1 hF
    refine go_skip ?_
    refine go_seq ?_
    refine go_seq ?_
    refine go_region ?_
    refine gAc rfl rfl ?_
    refine go_nil ?_
    replace hF := obind hF
    obtain ⟨s2, hF, hK2⟩ := hF
    refine go_joinc (β := (Unit)) (fun s h' => s2 = .go s) (fun s => [(4, true, .bool false)]) (fun s => (List.flatten [] : List Blk)) ?_ (fun J2 => ?_)
    ·
      rintro _ h2 e2 w2 hs2
      subst hs2
      replace hF := lpgo hK2
      refine go_seq ?_
      refine go_region ?_
      refine gAc rfl rfl ?_
      refine go_nil ?_
      obtain rfl := someI hF
      exact g_ret (rst rfl rs0) (fun h1 hf hs => ⟨(e2.trans hs.hext), rfl⟩)
    ·
      refine go_block ?_
      refine go_loop (α := (List TEvent) × Nat × Heap) (fun a => a.1 = List.drop a.2.1 p0 ∧ HExt h a.2.2 ∧ Wf a.2.2 ∧ F_ref05_Events_L1 p1 a.1 a.2.1 = some s2) (fun a => a.1.length) (fun a => [(0, true, .slice a0_0 p0.length c0_0), (1, true, .slice a1_0 p1.length c1_0), (4, true, .bool false), (5, true, .int .i64 (a.2.1 : Int))]) (fun a => (List.flatten [] : List Blk)) (fun a => a.2.2) ?_ (p0, 0, h) ⟨rfl, HExt.refl _, hw, hF⟩ (Sub.cons (Sub.cons (Sub.cons (Sub.cons (Sub.nil _) rfl) rfl) rfl) rfl) rfl rfl
      rintro ⟨r3, i3, h3⟩ ⟨hr3, e3, w3, hF⟩ ih3
      rcases r3 with _ | ⟨z3, r3⟩
      ·
        have hi3 := drop_nil hr3
        rw [F_ref05_Events_L1.eq_1] at hF
        refine go_seq ?_
        refine go_seq ?_
        refine go_region ?_
        refine gM rfl rfl ?_
        refine gM rfl rfl ?_
        refine gr rfl (r_len rfl (os1 (ot rfl) os0) (fun _ _ => ln_30)) ?_
        refine gr rfl (r_bin (ot rfl) (ot rfl) rfl) ?_
        refine go_cast (.bool false) (congrArg Value.bool (decide_eq_false hi3)) ?_
        refine go_nil ?_
        refine g_cond (b := false) (ot rfl) (fun hc4 => ?_) (fun hc4 => ?_)
        · cases hc4
        refine go_exit rfl ?_
        obtain rfl := someI hF
        exact Goes.weak (J2 () _ e3 w3 rfl) (Sub.cons (Sub.nil _) rfl)
      ·
        obtain ⟨hi3, hx3, hr3⟩ := drop_cons hr3
        have hb3 := (f0_0.ext e3.kn).1
        rw [F_ref05_Events_L1.eq_2] at hF
        refine go_seq ?_
        refine go_seq ?_
        refine go_region ?_
        refine gM rfl rfl ?_
        refine gM rfl rfl ?_
        refine gr rfl (r_len rfl (os1 (ot rfl) os0) (fun _ _ => ln_30)) ?_
        refine gr rfl (r_bin (ot rfl) (ot rfl) rfl) ?_
        refine go_cast (.bool true) (congrArg Value.bool (decide_eq_true (Int.ofNat_lt.mpr hi3))) ?_
        refine go_nil ?_
        refine g_cond (b := true) (ot rfl) (fun hc5 => ?_) (fun hc5 => ?_)
        rotate_left
        · cases hc5
        refine go_skip ?_
        refine go_seq ?_
        refine go_block ?_
        refine go_seq ?_
        refine go_regionq (by kernel_rfl) ?_
        refine gM rfl rfl ?_
        refine gM rfl rfl ?_
        obtain ⟨q6, row6, i6, cl6, rc6, sp6⟩ := ix (ik := .i64) (cap := c0_0) (E := EE) (f0_0.ext e3.kn) ((getI_nat _ _).trans hx3) ut_30 sz_77 rfl
        obtain rfl := rc6
        refine gr rfl (r_ia (ot rfl) (ot rfl) i6) ?_
        refine gr rfl (r_load (ot rfl) (v := .agg #[.int .i64 z3.Rev, .string z3.Key, .string z3.Val, .bool z3.Del]) (lo_e (fun hf kn => ld_of (r := [.int .i64 z3.Rev, .string z3.Key, .string z3.Val, .bool z3.Del]) ag_77 sz_77 (kn.cellsAt cl6)))) ?_
        refine gM rfl rfl ?_
        refine gM rfl rfl ?_
        replace hF := obind hF
        obtain ⟨x7, hx7, hF⟩ := hF
        obtain ⟨q7, row7, i7, cl7, rc7, sp7⟩ := ix (ik := .i64) (cap := c1_0) (E := EE) (f1_0.ext e3.kn) hx7 ut_30 sz_77 rfl
        obtain rfl := rc7
        refine gr rfl (r_ia (ot rfl) (ot rfl) i7) ?_
        refine gr rfl (r_load (ot rfl) (v := .agg #[.int .i64 x7.Rev, .string x7.Key, .string x7.Val, .bool x7.Del]) (lo_e (fun hf kn => ld_of (r := [.int .i64 x7.Rev, .string x7.Key, .string x7.Val, .bool x7.Del]) ag_77 sz_77 (kn.cellsAt cl7)))) ?_
        refine gr rfl (r_bin (ot rfl) (ot rfl) bn_77) ?_
        refine go_nil ?_
        refine g_cond (b := (!(eq_TEvent z3 x7))) (ot rfl) (fun hc8 => ?_) (fun hc8 => ?_)
        ·
          replace hF := ifT hc8 hF
          refine go_seq ?_
          refine go_region ?_
          refine gAc rfl rfl ?_
          refine go_nil ?_
          obtain rfl := someI hF
          obtain rfl := someI hK2
          exact g_ret (rst rfl rs0) (fun h1 hf hs => ⟨(e3.trans hs.hext), rfl⟩)
        ·
          replace hF := ifF hc8 hF
          refine go_skip ?_
          refine go_endb ?_
          refine go_region ?_
          refine gM rfl rfl ?_
          refine gr rfl (r_bin (ot rfl) (oc rfl) rfl) ?_
          refine gA rfl rfl ?_
          refine go_nil ?_
          refine go_re 5 (v2 := .int .i64 ((i3 + 1 : Nat) : Int)) rfl (wrap_succ hi3 hb3) ?_
          exact Goes.weak (ih3 (r3, i3 + 1, h3) ⟨hr3, e3, w3, hF⟩ (Nat.lt_succ_self _)) (Sub.cons (Sub.cons (Sub.cons (Sub.cons (Sub.nil _) rfl) rfl) rfl) rfl)
theorem s_ref05_KVs {h : Heap} (hw : Wf h) (p0 : (List TKV)) (p1 : (List TKV)) {a0_0 : Option Addr} {c0_0 : Nat} {a1_0 : Option Addr} {c1_0 : Nat} (f0_0 : RL R_TKV h a0_0 c0_0 p0) (f1_0 : RL R_TKV h a1_0 c1_0 p1) {r : Bool} (hF : F_ref05_KVs p0 p1 = some r) :
    Ev EE 27 [.slice a0_0 p0.length c0_0, .slice a1_0 p1.length c1_0] h (fun v _ => v = .bool r) := by
  unfold F_ref05_KVs at hF
  refine ev_of hw rfl at_27 rfl rfl (go_seg0 ?_)
  refine go_seq ?_
  refine go_region ?_
  refine gAc rfl rfl ?_
  refine go_nil ?_
  refine go_seq ?_
  refine go_seq ?_
  refine go_region ?_
  refine gM rfl rfl ?_
  refine gr rfl (r_len rfl (os1 (ot rfl) os0) (fun _ _ => ln_57)) ?_
  refine gM rfl rfl ?_
  refine gr rfl (r_len rfl (os1 (ot rfl) os0) (fun _ _ => ln_57)) ?_
  refine gr rfl (r_bin (ot rfl) (ot rfl) rfl) ?_
  refine go_nil ?_
  refine g_cond (b := ((p0.length : Int) != (p1.length : Int))) (ot rfl) (fun hc1 => ?_) (fun hc1 => ?_)
  ·
    replace hF := ifT hc1 hF
    refine go_seq ?_
    refine go_region ?_
    refine gAc rfl rfl ?_
    refine go_nil ?_
    obtain rfl := someI hF
    exact g_ret (rst rfl rs0) (fun h1 hf hs => ⟨hs.hext, rfl⟩)
  ·
    replace hF := ifF hc1 hF
    refine go_skip ?_
    refine go_seq ?_
    refine go_seq ?_
    refine go_region ?_
    refine gAc rfl rfl ?_
    refine go_nil ?_
    replace hF := obind hF
    obtain ⟨s2, hF, hK2⟩ := hF
    refine go_joinc (β := (Unit)) (fun s h' => s2 = .go s) (fun s => [(4, true, .bool false)]) (fun s => (List.flatten [] : List Blk)) ?_ (fun J2 => ?_)
    ·
      rintro _ h2 e2 w2 hs2
      subst hs2
      replace hF := lpgo hK2
      refine go_seq ?_
      refine go_region ?_
      refine gAc rfl rfl ?_
      refine go_nil ?_
      obtain rfl := someI hF
      exact g_ret (rst rfl rs0) (fun h1 hf hs => ⟨(e2.trans hs.hext), rfl⟩)
    ·
      refine go_block ?_
      refine go_loop (α := (List TKV) × Nat × Heap) (fun a => a.1 = List.drop a.2.1 p0 ∧ HExt h a.2.2 ∧ Wf a.2.2 ∧ F_ref05_KVs_L1 p1 a.1 a.2.1 = some s2) (fun a => a.1.length) (fun a => [(0, true, .slice a0_0 p0.length c0_0), (1, true, .slice a1_0 p1.length c1_0), (4, true, .bool false), (5, true, .int .i64 (a.2.1 : Int))]) (fun a => (List.flatten [] : List Blk)) (fun a => a.2.2) ?_ (p0, 0, h) ⟨rfl, HExt.refl _, hw, hF⟩ (Sub.cons (Sub.cons (Sub.cons (Sub.cons (Sub.nil _) rfl) rfl) rfl) rfl) rfl rfl
      rintro ⟨r3, i3, h3⟩ ⟨hr3, e3, w3, hF⟩ ih3
      rcases r3 with _ | ⟨z3, r3⟩
      ·
        have hi3 := drop_nil hr3
        rw [F_ref05_KVs_L1.eq_1] at hF
        refine go_seq ?_
        refine go_seq ?_
        refine go_region ?_
        refine gM rfl rfl ?_
        refine gM rfl rfl ?_
        refine gr rfl (r_len rfl (os1 (ot rfl) os0) (fun _ _ => ln_57)) ?_
        refine gr rfl (r_bin (ot rfl) (ot rfl) rfl) ?_
        refine go_cast (.bool false) (congrArg Value.bool (decide_eq_false hi3)) ?_
        refine go_nil ?_
        refine g_cond (b := false) (ot rfl) (fun hc4 => ?_) (fun hc4 => ?_)
        · cases hc4
        refine go_exit rfl ?_
        obtain rfl := someI hF
        exact Goes.weak (J2 () _ e3 w3 rfl) (Sub.cons (Sub.nil _) rfl)
      ·
        obtain ⟨hi3, hx3, hr3⟩ := drop_cons hr3
        have hb3 := (f0_0.ext e3.kn).1
        rw [F_ref05_KVs_L1.eq_2] at hF
        refine go_seq ?_
        refine go_seq ?_
        refine go_region ?_
        refine gM rfl rfl ?_
        refine gM rfl rfl ?_
        refine gr rfl (r_len rfl (os1 (ot rfl) os0) (fun _ _ => ln_57)) ?_
        refine gr rfl (r_bin (ot rfl) (ot rfl) rfl) ?_
        refine go_cast (.bool true) (congrArg Value.bool (decide_eq_true (Int.ofNat_lt.mpr hi3))) ?_
        refine go_nil ?_
        refine g_cond (b := true) (ot rfl) (fun hc5 => ?_) (fun hc5 => ?_)
        rotate_left
        · cases hc5
        refine go_skip ?_
        refine go_seq ?_
        refine go_block ?_
        refine go_seq ?_
        refine go_regionq (by kernel_rfl) ?_
        refine gM rfl rfl ?_
        refine gM rfl rfl ?_
        obtain ⟨q6, row6, i6, cl6, rc6, sp6⟩ := ix (ik := .i64) (cap := c0_0) (E := EE) (f0_0.ext e3.kn) ((getI_nat _ _).trans hx3) ut_57 sz_100 rfl
        obtain rfl := rc6
        refine gr rfl (r_ia (ot rfl) (ot rfl) i6) ?_
        refine gr rfl (r_load (ot rfl) (v := .agg #[.string z3.Key, .string z3.Val, .int .i64 z3.Rev]) (lo_e (fun hf kn => ld_of (r := [.string z3.Key, .string z3.Val, .int .i64 z3.Rev]) ag_100 sz_100 (kn.cellsAt cl6)))) ?_
        refine gM rfl rfl ?_
        refine gM rfl rfl ?_
        replace hF := obind hF
        obtain ⟨x7, hx7, hF⟩ := hF
        obtain ⟨q7, row7, i7, cl7, rc7, sp7⟩ := ix (ik := .i64) (cap := c1_0) (E := EE) (f1_0.ext e3.kn) hx7 ut_57 sz_100 rfl
        obtain rfl := rc7
        refine gr rfl (r_ia (ot rfl) (ot rfl) i7) ?_
        refine gr rfl (r_load (ot rfl) (v := .agg #[.string x7.Key, .string x7.Val, .int .i64 x7.Rev]) (lo_e (fun hf kn => ld_of (r := [.string x7.Key, .string x7.Val, .int .i64 x7.Rev]) ag_100 sz_100 (kn.cellsAt cl7)))) ?_
        refine gr rfl (r_bin (ot rfl) (ot rfl) bn_100) ?_
        refine go_nil ?_
        refine g_cond (b := (!(eq_TKV z3 x7))) (ot rfl) (fun hc8 => ?_) (fun hc8 => ?_)
        ·
          replace hF := ifT hc8 hF
          refine go_seq ?_
          refine go_region ?_
          refine gAc rfl rfl ?_
          refine go_nil ?_
          obtain rfl := someI hF
          obtain rfl := someI hK2
          exact g_ret (rst rfl rs0) (fun h1 hf hs => ⟨(e3.trans hs.hext), rfl⟩)
        ·
          replace hF := ifF hc8 hF
          refine go_skip ?_
          refine go_endb ?_
          refine go_region ?_
          refine gM rfl rfl ?_
          refine gr rfl (r_bin (ot rfl) (oc rfl) rfl) ?_
          refine gA rfl rfl ?_
          refine go_nil ?_
          refine go_re 5 (v2 := .int .i64 ((i3 + 1 : Nat) : Int)) rfl (wrap_succ hi3 hb3) ?_
          exact Goes.weak (ih3 (r3, i3 + 1, h3) ⟨hr3, e3, w3, hF⟩ (Nat.lt_succ_self _)) (Sub.cons (Sub.cons (Sub.cons (Sub.cons (Sub.nil _) rfl) rfl) rfl) rfl)
end Go.Proofs.Ytfgoccdjbgecfaa.V
