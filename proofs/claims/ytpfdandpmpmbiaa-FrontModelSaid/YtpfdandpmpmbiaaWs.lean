/- Walks.
   No condition: these are laws of the clean machine and of this program. -/
import Derived.Test.YtpfdandpmpmbiaaPT
namespace Go.Proofs.Ytpfdandpmpmbiaa.V
open Go
set_option linter.unusedVariables false
set_option linter.unusedSimpArgs false
set_option maxRecDepth 100000
set_option maxHeartbeats 4000000
theorem s_ref05_Events {h : Heap} (hw : Wf h) (p0 : (List TEvent)) (p1 : (List TEvent)) {a0_0 : Option Addr} {c0_0 : Nat} {a1_0 : Option Addr} {c1_0 : Nat} (f0_0 : RL R_TEvent h a0_0 c0_0 p0) (f1_0 : RL R_TEvent h a1_0 c1_0 p1) {r : Bool} (hF : F_ref05_Events p0 p1 = some r) :
    Ev EE 59 [.slice a0_0 p0.length c0_0, .slice a1_0 p1.length c1_0] h (fun v _ => v = .bool r) := by
  unfold F_ref05_Events at hF
  refine ev_of hw rfl at_59 rfl rfl (go_seg0 ?_)
  refine go_seq ?_
  refine go_region ?_
  refine gAc rfl rfl ?_
  refine go_nil ?_
  refine go_seq ?_
  refine go_seq ?_
  refine go_region ?_
  refine gM rfl rfl ?_
  refine gr rfl (r_len rfl (os1 (ot rfl) os0) (fun _ _ => ln_50)) ?_
  refine gM rfl rfl ?_
  refine gr rfl (r_len rfl (os1 (ot rfl) os0) (fun _ _ => ln_50)) ?_
  refine gr rfl (r_bin (ot rfl) (ot rfl) rfl) ?_
  refine go_nil ?_
  refine g_cond (b := ((p0.length : Int) != (p1.length : Int))) (ot rfl) (fun hc1 => ?_) (fun hc1 => ?_)
  ·
    replace hF := ifT hc1 hF
    refine go_seq ?_
    refine go_region ?_
    refine gAc rfl rfl ?_
    refine go_nil ?_
    obtain rfl := someI hF
    exact g_ret (rst rfl rs0) (fun h1 hf hs => ⟨hs.hext, rfl⟩)
  ·
    replace hF := ifF hc1 hF
    refine go_skip ?_
    refine go_seq ?_
    refine go_seq ?_
    refine go_region ?_
    refine gAc rfl rfl ?_
    refine go_nil ?_
    replace hF := obind hF
    obtain ⟨s2, hF, hK2⟩ := hF
    refine go_joinc (β := (Unit)) (fun s h' => s2 = .go s) (fun s => [(4, true, .bool false)]) (fun s => (List.flatten [] : List Blk)) ?_ (fun J2 => ?_)
    ·
      rintro _ h2 e2 w2 hs2
      subst hs2
      replace hF := lpgo hK2
      refine go_seq ?_
      refine go_region ?_
      refine gAc rfl rfl ?_
      refine go_nil ?_
      obtain rfl := someI hF
      exact g_ret (rst rfl rs0) (fun h1 hf hs => ⟨(e2.trans hs.hext), rfl⟩)
    ·
      refine go_block ?_
      refine go_loop (α := (List TEvent) × Nat × Heap) (fun a => a.1 = List.drop a.2.1 p0 ∧ HExt h a.2.2 ∧ Wf a.2.2 ∧ F_ref05_Events_L1 p1 a.1 a.2.1 = some s2) (fun a => a.1.length) (fun a => [(0, true, .slice a0_0 p0.length c0_0), (1, true, .slice a1_0 p1.length c1_0), (4, true, .bool false), (5, true, .int .i64 (a.2.1 : Int))]) (fun a => (List.flatten [] : List Blk)) (fun a => a.2.2) ?_ (p0, 0, h) ⟨rfl, HExt.refl _, hw, hF⟩ (Sub.cons (Sub.cons (Sub.cons (Sub.cons (Sub.nil _) rfl) rfl) rfl) rfl) rfl rfl
      rintro ⟨r3, i3, h3⟩ ⟨hr3, e3, w3, hF⟩ ih3
      rcases r3 with _ | ⟨z3, r3⟩
      ·
        have hi3 := drop_nil hr3
        rw [F_ref05_Events_L1.eq_1] at hF
        refine go_seq ?_
        refine go_seq ?_
        refine go_region ?_
        refine gM rfl rfl ?_
        refine gM rfl rfl ?_
        refine gr rfl (r_len rfl (os1 (ot rfl) os0) (fun _ _ => ln_50)) ?_
        refine gr rfl (r_bin (ot rfl) (ot rfl) rfl) ?_
        refine go_cast (.bool false) (congrArg Value.bool (decide_eq_false hi3)) ?_
        refine go_nil ?_
        refine g_cond (b := false) (ot rfl) (fun hc4 => ?_) (fun hc4 => ?_)
        · cases hc4
        refine go_exit rfl ?_
        obtain rfl := someI hF
        exact Goes.weak (J2 () _ e3 w3 rfl) (Sub.cons (Sub.nil _) rfl)
      ·
        obtain ⟨hi3, hx3, hr3⟩ := drop_cons hr3
        have hb3 := (f0_0.ext e3.kn).1
        rw [F_ref05_Events_L1.eq_2] at hF
        refine go_seq ?_
        refine go_seq ?_
        refine go_region ?_
        refine gM rfl rfl ?_
        refine gM rfl rfl ?_
        refine gr rfl (r_len rfl (os1 (ot rfl) os0) (fun _ _ => ln_50)) ?_
        refine gr rfl (r_bin (ot rfl) (ot rfl) rfl) ?_
        refine go_cast (.bool true) (congrArg Value.bool (decide_eq_true (Int.ofNat_lt.mpr hi3))) ?_
        refine go_nil ?_
        refine g_cond (b := true) (ot rfl) (fun hc5 => ?_) (fun hc5 => ?_)
        rotate_left
        · cases hc5
        refine go_skip ?_
        refine go_seq ?_
        refine go_block ?_
        refine go_seq ?_
        refine go_regionq (by kernel_rfl) ?_
        refine gM rfl rfl ?_
        refine gM rfl rfl ?_
        obtain ⟨q6, row6, i6, cl6, rc6, sp6⟩ := ix (ik := .i64) (cap := c0_0) (E := EE) (f0_0.ext e3.kn) ((getI_nat _ _).trans hx3) ut_50 sz_108 rfl
        obtain rfl := rc6
        refine gr rfl (r_ia (ot rfl) (ot rfl) i6) ?_
        refine gr rfl (r_load (ot rfl) (v := .agg #[.int .i64 z3.Rev, .string z3.Key, .string z3.Val, .bool z3.Del]) (lo_e (fun hf kn => ld_of (r := [.int .i64 z3.Rev, .string z3.Key, .string z3.Val, .bool z3.Del]) ag_108 sz_108 (kn.cellsAt cl6)))) ?_
        refine gM rfl rfl ?_
        refine gM rfl rfl ?_
        replace hF := obind hF
        obtain ⟨x7, hx7, hF⟩ := hF
        obtain ⟨q7, row7, i7, cl7, rc7, sp7⟩ := ix (ik := .i64) (cap := c1_0) (E := EE) (f1_0.ext e3.kn) hx7 ut_50 sz_108 rfl
        obtain rfl := rc7
        refine gr rfl (r_ia (ot rfl) (ot rfl) i7) ?_
        refine gr rfl (r_load (ot rfl) (v := .agg #[.int .i64 x7.Rev, .string x7.Key, .string x7.Val, .bool x7.Del]) (lo_e (fun hf kn => ld_of (r := [.int .i64 x7.Rev, .string x7.Key, .string x7.Val, .bool x7.Del]) ag_108 sz_108 (kn.cellsAt cl7)))) ?_
        refine gr rfl (r_bin (ot rfl) (ot rfl) bn_108) ?_
        refine go_nil ?_
        refine g_cond (b := (!(eq_TEvent z3 x7))) (ot rfl) (fun hc8 => ?_) (fun hc8 => ?_)
        ·
          replace hF := ifT hc8 hF
          refine go_seq ?_
          refine go_region ?_
          refine gAc rfl rfl ?_
          refine go_nil ?_
          obtain rfl := someI hF
          obtain rfl := someI hK2
          exact g_ret (rst rfl rs0) (fun h1 hf hs => ⟨(e3.trans hs.hext), rfl⟩)
        ·
          replace hF := ifF hc8 hF
          refine go_skip ?_
          refine go_endb ?_
          refine go_region ?_
          refine gM rfl rfl ?_
          refine gr rfl (r_bin (ot rfl) (oc rfl) rfl) ?_
          refine gA rfl rfl ?_
          refine go_nil ?_
          refine go_re 5 (v2 := .int .i64 ((i3 + 1 : Nat) : Int)) rfl (wrap_succ hi3 hb3) ?_
          exact Goes.weak (ih3 (r3, i3 + 1, h3) ⟨hr3, e3, w3, hF⟩ (Nat.lt_succ_self _)) (Sub.cons (Sub.cons (Sub.cons (Sub.cons (Sub.nil _) rfl) rfl) rfl) rfl)
theorem s_ref05_KVs {h : Heap} (hw : Wf h) (p0 : (List TKV)) (p1 : (List TKV)) {a0_0 : Option Addr} {c0_0 : Nat} {a1_0 : Option Addr} {c1_0 : Nat} (f0_0 : RL R_TKV h a0_0 c0_0 p0) (f1_0 : RL R_TKV h a1_0 c1_0 p1) {r : Bool} (hF : F_ref05_KVs p0 p1 = some r) :
    Ev EE 21 [.slice a0_0 p0.length c0_0, .slice a1_0 p1.length c1_0] h (fun v _ => v = .bool r) := by
  unfold F_ref05_KVs at hF
  refine ev_of hw rfl at_21 rfl rfl (go_seg0 ?_)
  refine go_seq ?_
  refine go_region ?_
  refine gAc rfl rfl ?_
  refine go_nil ?_
  refine go_seq ?_
  refine go_seq ?_
  refine go_region ?_
  refine gM rfl rfl ?_
  refine gr rfl (r_len rfl (os1 (ot rfl) os0) (fun _ _ => ln_28)) ?_
  refine gM rfl rfl ?_
  refine gr rfl (r_len rfl (os1 (ot rfl) os0) (fun _ _ => ln_28)) ?_
  refine gr rfl (r_bin (ot rfl) (ot rfl) rfl) ?_
  refine go_nil ?_
  refine g_cond (b := ((p0.length : Int) != (p1.length : Int))) (ot rfl) (fun hc1 => ?_) (fun hc1 => ?_)
  ·
    replace hF := ifT hc1 hF
    refine go_seq ?_
    refine go_region ?_
    refine gAc rfl rfl ?_
    refine go_nil ?_
    obtain rfl := someI hF
    exact g_ret (rst rfl rs0) (fun h1 hf hs => ⟨hs.hext, rfl⟩)
  ·
    replace hF := ifF hc1 hF
    refine go_skip ?_
    refine go_seq ?_
    refine go_seq ?_
    refine go_region ?_
    refine gAc rfl rfl ?_
    refine go_nil ?_
    replace hF := obind hF
    obtain ⟨s2, hF, hK2⟩ := hF
    refine go_joinc (β := (Unit)) (fun s h' => s2 = .go s) (fun s => [(4, true, .bool false)]) (fun s => (List.flatten [] : List Blk)) ?_ (fun J2 => ?_)
    ·
      rintro _ h2 e2 w2 hs2
      subst hs2
      replace hF := lpgo hK2
      refine go_seq ?_
      refine go_region ?_
      refine gAc rfl rfl ?_
      refine go_nil ?_
      obtain rfl := someI hF
      exact g_ret (rst rfl rs0) (fun h1 hf hs => ⟨(e2.trans hs.hext), rfl⟩)
    ·
      refine go_block ?_
      refine go_loop (α := (List TKV) × Nat × Heap) (fun a => a.1 = List.drop a.2.1 p0 ∧ HExt h a.2.2 ∧ Wf a.2.2 ∧ F_ref05_KVs_L1 p1 a.1 a.2.1 = some s2) (fun a => a.1.length) (fun a => [(0, true, .slice a0_0 p0.length c0_0), (1, true, .slice a1_0 p1.length c1_0), (4, true, .bool false), (5, true, .int .i64 (a.2.1 : Int))]) (fun a => (List.flatten [] : List Blk)) (fun a => a.2.2) ?_ (p0, 0, h) ⟨rfl, HExt.refl _, hw, hF⟩ (Sub.cons (Sub.cons (Sub.cons (Sub.cons (Sub.nil _) rfl) rfl) rfl) rfl) rfl rfl
      rintro ⟨r3, i3, h3⟩ ⟨hr3, e3, w3, hF⟩ ih3
      rcases r3 with _ | ⟨z3, r3⟩
      ·
        have hi3 := drop_nil hr3
        rw [F_ref05_KVs_L1.eq_1] at hF
        refine go_seq ?_
        refine go_seq ?_
        refine go_region ?_
        refine gM rfl rfl ?_
        refine gM rfl rfl ?_
        refine gr rfl (r_len rfl (os1 (ot rfl) os0) (fun _ _ => ln_28)) ?_
        refine gr rfl (r_bin (ot rfl) (ot rfl) rfl) ?_
        refine go_cast (.bool false) (congrArg Value.bool (decide_eq_false hi3)) ?_
        refine go_nil ?_
        refine g_cond (b := false) (ot rfl) (fun hc4 => ?_) (fun hc4 => ?_)
        · cases hc4
        refine go_exit rfl ?_
        obtain rfl := someI hF
        exact Goes.weak (J2 () _ e3 w3 rfl) (Sub.cons (Sub.nil _) rfl)
      ·
        obtain ⟨hi3, hx3, hr3⟩ := drop_cons hr3
        have hb3 := (f0_0.ext e3.kn).1
        rw [F_ref05_KVs_L1.eq_2] at hF
        refine go_seq ?_
        refine go_seq ?_
        refine go_region ?_
        refine gM rfl rfl ?_
        refine gM rfl rfl ?_
        refine gr rfl (r_len rfl (os1 (ot rfl) os0) (fun _ _ => ln_28)) ?_
        refine gr rfl (r_bin (ot rfl) (ot rfl) rfl) ?_
        refine go_cast (.bool true) (congrArg Value.bool (decide_eq_true (Int.ofNat_lt.mpr hi3))) ?_
        refine go_nil ?_
        refine g_cond (b := true) (ot rfl) (fun hc5 => ?_) (fun hc5 => ?_)
        rotate_left
        · cases hc5
        refine go_skip ?_
        refine go_seq ?_
        refine go_block ?_
        refine go_seq ?_
        refine go_regionq (by kernel_rfl) ?_
        refine gM rfl rfl ?_
        refine gM rfl rfl ?_
        obtain ⟨q6, row6, i6, cl6, rc6, sp6⟩ := ix (ik := .i64) (cap := c0_0) (E := EE) (f0_0.ext e3.kn) ((getI_nat _ _).trans hx3) ut_28 sz_47 rfl
        obtain rfl := rc6
        refine gr rfl (r_ia (ot rfl) (ot rfl) i6) ?_
        refine gr rfl (r_load (ot rfl) (v := .agg #[.string z3.Key, .string z3.Val, .int .i64 z3.Rev]) (lo_e (fun hf kn => ld_of (r := [.string z3.Key, .string z3.Val, .int .i64 z3.Rev]) ag_47 sz_47 (kn.cellsAt cl6)))) ?_
        refine gM rfl rfl ?_
        refine gM rfl rfl ?_
        replace hF := obind hF
        obtain ⟨x7, hx7, hF⟩ := hF
        obtain ⟨q7, row7, i7, cl7, rc7, sp7⟩ := ix (ik := .i64) (cap := c1_0) (E := EE) (f1_0.ext e3.kn) hx7 ut_28 sz_47 rfl
        obtain rfl := rc7
        refine gr rfl (r_ia (ot rfl) (ot rfl) i7) ?_
        refine gr rfl (r_load (ot rfl) (v := .agg #[.string x7.Key, .string x7.Val, .int .i64 x7.Rev]) (lo_e (fun hf kn => ld_of (r := [.string x7.Key, .string x7.Val, .int .i64 x7.Rev]) ag_47 sz_47 (kn.cellsAt cl7)))) ?_
        refine gr rfl (r_bin (ot rfl) (ot rfl) bn_47) ?_
        refine go_nil ?_
        refine g_cond (b := (!(eq_TKV z3 x7))) (ot rfl) (fun hc8 => ?_) (fun hc8 => ?_)
        ·
          replace hF := ifT hc8 hF
          refine go_seq ?_
          refine go_region ?_
          refine gAc rfl rfl ?_
          refine go_nil ?_
          obtain rfl := someI hF
          obtain rfl := someI hK2
          exact g_ret (rst rfl rs0) (fun h1 hf hs => ⟨(e3.trans hs.hext), rfl⟩)
        ·
          replace hF := ifF hc8 hF
          refine go_skip ?_
          refine go_endb ?_
          refine go_region ?_
          refine gM rfl rfl ?_
          refine gr rfl (r_bin (ot rfl) (oc rfl) rfl) ?_
          refine gA rfl rfl ?_
          refine go_nil ?_
          refine go_re 5 (v2 := .int .i64 ((i3 + 1 : Nat) : Int)) rfl (wrap_succ hi3 hb3) ?_
          exact Goes.weak (ih3 (r3, i3 + 1, h3) ⟨hr3, e3, w3, hF⟩ (Nat.lt_succ_self _)) (Sub.cons (Sub.cons (Sub.cons (Sub.cons (Sub.nil _) rfl) rfl) rfl) rfl)
theorem s_ref06_Get {h : Heap} (hw : Wf h) (p0 : (List TKV)) (p1 : ByteArray) {a0_0 : Option Addr} {c0_0 : Nat} (f0_0 : RL R_TKV h a0_0 c0_0 p0) {r : TKV × Bool} (hF : F_ref06_Get p0 p1 = some r) :
    Ev EE 22 [.slice a0_0 p0.length c0_0, .string p1] h (fun v _ => v = .tuple #[.agg #[.string r.1.Key, .string r.1.Val, .int .i64 r.1.Rev], .bool r.2]) := by
  unfold F_ref06_Get at hF
  refine ev_of hw rfl at_22 rfl rfl (go_seg0 ?_)
  refine go_seq ?_
  refine go_region ?_
  refine gs_alloc rfl zo_47 rfl ?_; intro b4_1
  refine gAc rfl rfl ?_
  refine go_nil ?_
  refine go_seq ?_
  refine go_seq ?_
  refine go_region ?_
  refine gAc rfl rfl ?_
  refine go_nil ?_
  replace hF := obind hF
  obtain ⟨s2, hF, hK2⟩ := hF
  refine go_joinc (β := (Unit)) (fun s h' => s2 = .go s) (fun s => [(4, true, .pointer (some ⟨b4_1, 0, none⟩)), (5, true, .bool false)]) (fun s => (List.flatten [[⟨b4_1, .cells [.string ByteArray.empty, .string ByteArray.empty, .int .i64 0] 47⟩]] : List Blk)) ?_ (fun J2 => ?_)
  ·
    rintro _ h2 e2 w2 hs2
    subst hs2
    replace hF := lpgo hK2
    refine go_seq ?_
    refine go_region ?_
    refine gr rfl (r_build op0 rfl) ?_
    refine gs_store (ot rfl) (ot rfl) sz_47 rfl rfl rfl rfl rfl .z ?_
    refine gAc rfl rfl ?_
    refine go_nil ?_
    obtain rfl := someI hF
    exact g_ret (rsc rfl (lm_w (mem_seg 0 rfl) ag_47 sz_47 rfl) (rst rfl rs0)) (fun h1 hf hs => ⟨(e2.trans hs.hext), rfl⟩)
  ·
    refine go_block ?_
    refine go_loop (α := (List TKV) × Nat × Heap) (fun a => a.1 = List.drop a.2.1 p0 ∧ HExt h a.2.2 ∧ Wf a.2.2 ∧ F_ref06_Get_L1 p1 a.1 a.2.1 = some s2) (fun a => a.1.length) (fun a => [(0, true, .slice a0_0 p0.length c0_0), (1, true, .string p1), (4, true, .pointer (some ⟨b4_1, 0, none⟩)), (5, true, .bool false), (6, true, .int .i64 (a.2.1 : Int))]) (fun a => (List.flatten [[⟨b4_1, .cells [.string ByteArray.empty, .string ByteArray.empty, .int .i64 0] 47⟩]] : List Blk)) (fun a => a.2.2) ?_ (p0, 0, h) ⟨rfl, HExt.refl _, hw, hF⟩ (Sub.cons (Sub.cons (Sub.cons (Sub.cons (Sub.cons (Sub.nil _) rfl) rfl) rfl) rfl) rfl) rfl rfl
    rintro ⟨r3, i3, h3⟩ ⟨hr3, e3, w3, hF⟩ ih3
    rcases r3 with _ | ⟨z3, r3⟩
    ·
      have hi3 := drop_nil hr3
      rw [F_ref06_Get_L1.eq_1] at hF
      refine go_seq ?_
      refine go_seq ?_
      refine go_region ?_
      refine gM rfl rfl ?_
      refine gM rfl rfl ?_
      refine gr rfl (r_len rfl (os1 (ot rfl) os0) (fun _ _ => ln_28)) ?_
      refine gr rfl (r_bin (ot rfl) (ot rfl) rfl) ?_
      refine go_cast (.bool false) (congrArg Value.bool (decide_eq_false hi3)) ?_
      refine go_nil ?_
      refine g_cond (b := false) (ot rfl) (fun hc4 => ?_) (fun hc4 => ?_)
      · cases hc4
      refine go_exit rfl ?_
      obtain rfl := someI hF
      exact Goes.weak (J2 () _ e3 w3 rfl) (Sub.cons (Sub.cons (Sub.nil _) rfl) rfl)
    ·
      obtain ⟨hi3, hx3, hr3⟩ := drop_cons hr3
      have hb3 := (f0_0.ext e3.kn).1
      rw [F_ref06_Get_L1.eq_2] at hF
      refine go_seq ?_
      refine go_seq ?_
      refine go_region ?_
      refine gM rfl rfl ?_
      refine gM rfl rfl ?_
      refine gr rfl (r_len rfl (os1 (ot rfl) os0) (fun _ _ => ln_28)) ?_
      refine gr rfl (r_bin (ot rfl) (ot rfl) rfl) ?_
      refine go_cast (.bool true) (congrArg Value.bool (decide_eq_true (Int.ofNat_lt.mpr hi3))) ?_
      refine go_nil ?_
      refine g_cond (b := true) (ot rfl) (fun hc5 => ?_) (fun hc5 => ?_)
      rotate_left
      · cases hc5
      refine go_skip ?_
      refine go_seq ?_
      refine go_block ?_
      refine go_seq ?_
      refine go_region ?_
      refine gM rfl rfl ?_
      refine gM rfl rfl ?_
      obtain ⟨q6, row6, i6, cl6, rc6, sp6⟩ := ix (ik := .i64) (cap := c0_0) (E := EE) (f0_0.ext e3.kn) ((getI_nat _ _).trans hx3) ut_28 sz_47 rfl
      obtain rfl := rc6
      refine gr rfl (r_ia (ot rfl) (ot rfl) i6) ?_
      refine gr rfl (r_fa (ot rfl) (fs_47_0 sp6)) ?_
      refine gr rfl (r_load (ot rfl) (v := .string z3.Key) (lo_e (fun hf kn => ld_field (r := [.string z3.Key, .string z3.Val, .int .i64 z3.Rev]) ag_9 (kn.cellsAt cl6) rfl))) ?_
      refine gM rfl rfl ?_
      refine gr rfl (r_bin (ot rfl) (ot rfl) rfl) ?_
      refine go_nil ?_
      refine g_cond (b := (eqB z3.Key p1)) (ot rfl) (fun hc7 => ?_) (fun hc7 => ?_)
      ·
        replace hF := ifT hc7 hF
        refine go_seq ?_
        refine go_region ?_
        refine gM rfl rfl ?_
        refine gM rfl rfl ?_
        obtain ⟨q8, row8, i8, cl8, rc8, sp8⟩ := ix (ik := .i64) (cap := c0_0) (E := EE) (f0_0.ext e3.kn) ((getI_nat _ _).trans hx3) ut_28 sz_47 rfl
        obtain rfl := rc8
        refine gr rfl (r_ia (ot rfl) (ot rfl) i8) ?_
        refine gr rfl (r_load (ot rfl) (v := .agg #[.string z3.Key, .string z3.Val, .int .i64 z3.Rev]) (lo_e (fun hf kn => ld_of (r := [.string z3.Key, .string z3.Val, .int .i64 z3.Rev]) ag_47 sz_47 (kn.cellsAt cl8)))) ?_
        refine gs_store (ot rfl) (ot rfl) sz_47 rfl rfl rfl rfl rfl .z ?_
        refine gAc rfl rfl ?_
        refine go_nil ?_
        obtain rfl := someI hF
        obtain rfl := someI hK2
        exact g_ret (rsc rfl (lm_w (mem_seg 0 rfl) ag_47 sz_47 rfl) (rst rfl rs0)) (fun h1 hf hs => ⟨(e3.trans hs.hext), rfl⟩)
      ·
        replace hF := ifF hc7 hF
        refine go_skip ?_
        refine go_endb ?_
        refine go_region ?_
        refine gM rfl rfl ?_
        refine gr rfl (r_bin (ot rfl) (oc rfl) rfl) ?_
        refine gA rfl rfl ?_
        refine go_nil ?_
        refine go_re 6 (v2 := .int .i64 ((i3 + 1 : Nat) : Int)) rfl (wrap_succ hi3 hb3) ?_
        exact Goes.weak (ih3 (r3, i3 + 1, h3) ⟨hr3, e3, w3, hF⟩ (Nat.lt_succ_self _)) (Sub.cons (Sub.cons (Sub.cons (Sub.cons (Sub.cons (Sub.nil _) rfl) rfl) rfl) rfl) rfl)
theorem s_ref08_Same {h : Heap} (hw : Wf h) (p0 : TResp) (p1 : TResp) {a0_5 : Option Addr} {c0_5 : Nat} {a1_5 : Option Addr} {c1_5 : Nat} (f0_5 : RL R_TKV h a0_5 c0_5 p0.L) (f1_5 : RL R_TKV h a1_5 c1_5 p1.L) {r : Bool} (hF : F_ref08_Same p0 p1 = some r) :
    Ev EE 43 [.agg #[.int .i64 p0.H.Seq, .int .i64 p0.H.Rev, .int .i64 p0.H.Hor, .int .i64 p0.Err, .bool p0.Ok, .slice a0_5 p0.L.length c0_5], .agg #[.int .i64 p1.H.Seq, .int .i64 p1.H.Rev, .int .i64 p1.H.Hor, .int .i64 p1.Err, .bool p1.Ok, .slice a1_5 p1.L.length c1_5]] h (fun v _ => v = .bool r) := by
  unfold F_ref08_Same at hF
  refine ev_of hw rfl at_43 rfl rfl (go_seg0 ?_)
  refine go_seq ?_
  refine go_region ?_
  refine gs_box rfl (ot rfl) rfl ?_; intro b2_1
  refine gs_box rfl (ot rfl) rfl ?_; intro b3_2
  refine gAc rfl rfl ?_
  refine go_nil ?_
  refine go_seq ?_
  refine go_region ?_
  refine gr rfl (r_fa (ot rfl) (fa_73_0 _ _)) ?_
  refine gr rfl (r_load (ot rfl) (lm_a (vs := [_, _, _]) (mem_seg 1 rfl) ag_71 sz_71 rfl rfl)) ?_
  refine gr rfl (r_fa (ot rfl) (fa_73_0 _ _)) ?_
  refine gr rfl (r_load (ot rfl) (lm_a (vs := [_, _, _]) (mem_seg 0 rfl) ag_71 sz_71 rfl rfl)) ?_
  refine gr rfl (r_bin (ot rfl) (ot rfl) bq_71) ?_
  refine gM rfl rfl ?_
  refine grt rfl rfl rfl rfl (r_fa (ot rfl) (fa_73_1 _ _)) ?_
  refine grt rfl rfl rfl rfl (r_load (og rfl id) (lm_s (mem_seg 1 rfl) ag_29 rfl)) ?_
  refine grt rfl rfl rfl rfl (r_fa (ot rfl) (fa_73_1 _ _)) ?_
  refine grt rfl rfl rfl rfl (r_load (og rfl id) (lm_s (mem_seg 0 rfl) ag_29 rfl)) ?_
  refine grt rfl rfl rfl rfl (r_bin (og rfl id) (og rfl id) rfl) ?_
  refine gr rfl (r_pickb (ot rfl) (og rfl id) (oc rfl)) ?_
  refine gM rfl rfl ?_
  refine grt rfl rfl rfl rfl (r_fa (ot rfl) (fa_73_2 _ _)) ?_
  refine grt rfl rfl rfl rfl (r_load (og rfl id) (lm_s (mem_seg 1 rfl) ag_4 rfl)) ?_
  refine grt rfl rfl rfl rfl (r_fa (ot rfl) (fa_73_2 _ _)) ?_
  refine grt rfl rfl rfl rfl (r_load (og rfl id) (lm_s (mem_seg 0 rfl) ag_4 rfl)) ?_
  refine grt rfl rfl rfl rfl (r_bin (og rfl id) (og rfl id) be_4) ?_
  refine gr rfl (r_pickb (ot rfl) (og rfl id) (oc rfl)) ?_
  refine gM rfl rfl ?_
  replace hF := obind hF
  obtain ⟨s4, hF, hK4⟩ := hF
  refine go_joinr 6 (β := Unit) (fun s h' => True) (fun s => [(4, true, .bool false), (30, true, .bool s4)]) (fun s => (List.flatten [[⟨b3_2, .cells [.int .i64 p1.H.Seq, .int .i64 p1.H.Rev, .int .i64 p1.H.Hor, .int .i64 p1.Err, .bool p1.Ok, .slice a1_5 p1.L.length c1_5] 73⟩], [⟨b2_1, .cells [.int .i64 p0.H.Seq, .int .i64 p0.H.Rev, .int .i64 p0.H.Hor, .int .i64 p0.Err, .bool p0.Ok, .slice a0_5 p0.L.length c0_5] 73⟩]] : List Blk)) ?_ (fun J4 => ?_)
  ·
    rintro _ h4 e4 w4 _
    replace hF := hK4
    refine gA rfl rfl ?_
    refine go_nil ?_
    obtain rfl := someI hF
    exact g_ret (rst rfl rs0) (fun h1 hf hs => ⟨(e4.trans hs.hext), rfl⟩)
  ·
    rcases Bool.eq_false_or_eq_true (bif (bif (eq_THead p0.H p1.H) then (p0.Err == p1.Err) else false) then (p0.Ok == p1.Ok) else false) with hb3 | hb3
    ·
      replace hF := ifT hb3 hF
      refine go_re 24 (v2 := .bool true) rfl (congrArg Value.bool hb3) ?_
      refine g_do rfl rfl rfl ?_
      refine gr rfl (r_fa (ot rfl) (fa_73_3 _ _)) ?_
      refine g_do rfl rfl rfl ?_
      refine gr rfl (r_load (ot rfl) (lm_s (mem_seg 1 rfl) ag_28 rfl)) ?_
      refine g_do rfl rfl rfl ?_
      refine gr rfl (r_fa (ot rfl) (fa_73_3 _ _)) ?_
      refine g_do rfl rfl rfl ?_
      refine gr rfl (r_load (ot rfl) (lm_s (mem_seg 0 rfl) ag_28 rfl)) ?_
      refine g_do rfl rfl rfl ?_
      replace hF := obind hF
      obtain ⟨x5, hx5, hF⟩ := hF
      refine g_callp (v := .bool x5) EE_fr rfl of (os1 (ot rfl) (os1 (ot rfl) os0)) hb_21 (fun _ => rfl) (fun hf kn w => by exact s_ref05_KVs w p0.L p1.L (f0_5.ext kn) (f1_5.ext kn) hx5) ?_
      refine gr rfl (r_pkT (ot rfl) (ot rfl)) ?_
      obtain rfl := someI hF
      exact Goes.weak (J4 () _ (HExt.refl _) hw trivial) (Sub.cons (Sub.cons (Sub.nil _) rfl) rfl)
    ·
      replace hF := ifF hb3 hF
      refine go_re 24 (v2 := .bool false) rfl (congrArg Value.bool hb3) ?_
      refine g_no rfl rfl rfl rfl rfl ?_
      refine g_no rfl rfl rfl rfl rfl ?_
      refine g_no rfl rfl rfl rfl rfl ?_
      refine g_no rfl rfl rfl rfl rfl ?_
      refine g_no rfl rfl rfl rfl rfl ?_
      refine gr rfl (r_pkF (ot rfl) (oc rfl)) ?_
      obtain rfl := someI hF
      exact Goes.weak (J4 () _ (HExt.refl _) hw trivial) (Sub.cons (Sub.cons (Sub.nil _) rfl) rfl)
end Go.Proofs.Ytpfdandpmpmbiaa.V
