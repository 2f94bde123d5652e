/- Walks.
   No condition: these are laws of the clean machine and of this program. -/
import Derived.Test.YtpfdandpmpmbiaaPT
import Derived.Test.YtpfdandpmpmbiaaWq
import Derived.Test.YtpfdandpmpmbiaaWv
namespace Go.Proofs.Ytpfdandpmpmbiaa.V
open Go
set_option linter.unusedVariables false
set_option linter.unusedSimpArgs false
set_option maxRecDepth 100000
set_option maxHeartbeats 4000000
theorem s_hist_New {h : Heap} (hw : Wf h)    {r : Ohist_Hist} (hF : F_hist_New  = some r) :
    EvO EE 29 [] [] h (fun v S h1 => ∃ bw0 bw0m2 rww0_2 qw0_3 tw0_3, v = .pointer (some ⟨bw0, 0, none⟩) ∧ S = [[⟨bw0, .cells [.int .i64 r.bounds_rev, .int .i64 r.bounds_hor, .map (some bw0m2), .slice qw0_3 r.rows.length r.rows.length] 100⟩], [⟨bw0m2, .map (encM kS id rww0_2)⟩], tw0_3] ∧ MR R_TEvent h1 rww0_2 r.keys ∧ AccR (Rep.sl R_TEvent 50) 50 h1 tw0_3 (.slice qw0_3 r.rows.length r.rows.length) r.rows) := by
  unfold F_hist_New at hF
  refine evo_of rfl at_29 rfl rfl ?_
  refine go_seq ?_
  refine go_region ?_
  refine gAc rfl rfl ?_
  refine go_nil ?_
  refine go_seq ?_
  refine go_region ?_
  refine gs_mkmap (ke := kS) (ve := (id : Value → Value)) rfl ?_; intro b1_1
  refine gr rfl (r_build (op1 (ot rfl) op0) rfl) ?_
  refine gs_box rfl (ot rfl) rfl ?_; intro b3_2
  refine gA rfl rfl ?_
  refine go_nil ?_
  obtain rfl := someI hF
  exact g_ret (rst rfl rs0) (fun h1 hf hs => ⟨[[⟨b3_2, .cells [.int .i64 0, .int .i64 0, .map (some b1_1), .slice none 0 0] 100⟩], [⟨b1_1, .map (encM kS id ([] : List (ByteArray × Value)))⟩], []], _, hf, (HExt.refl _), hw, hs, (ndb (by intro e; cases e) (ndb (by intro e; cases e) (nde nd0))), ⟨_, _, _, _, _, rfl, rfl, MR.nil, (AccR.nil _ _ _)⟩⟩)
theorem s_hist_Hist_Apply_1 {h : Heap} (hw : Wf h) (p0 : TOp) (p1 : TOp) {b1 : Nat} (g1 : BK h b1 [.string p1.Key, .string p1.Val, .bool p1.Del] 45) {r : Bool} (hF : F_hist_Hist_Apply_1 p0 p1 = some r) :
    Ev EE 61 [.agg #[.string p0.Key, .string p0.Val, .bool p0.Del], .pointer (some ⟨b1, 0, none⟩)] h (fun v _ => v = .bool r) := by
  unfold F_hist_Hist_Apply_1 at hF
  refine ev_of hw rfl at_61 rfl rfl (go_seg0 ?_)
  refine go_seq ?_
  refine go_region ?_
  refine gs_box rfl (ot rfl) rfl ?_; intro b2_1
  refine gAc rfl rfl ?_
  refine go_nil ?_
  refine go_seq ?_
  refine go_region ?_
  refine gr rfl (r_fa (ot rfl) (fa_45_0 _ _)) ?_
  refine gr rfl (r_load (ot rfl) (lm_s (mem_seg 0 rfl) ag_9 rfl)) ?_
  refine gr rfl (r_fa (ot rfl) (fa_45_0 _ _)) ?_
  refine gr rfl (r_load (ot rfl) (v := .string p1.Key) (lo_e (fun hf kn => ld_cell ag_9 (g1.ext kn) rfl))) ?_
  refine gr rfl (r_bin (ot rfl) (ot rfl) rfl) ?_
  refine gA rfl rfl ?_
  refine go_nil ?_
  obtain rfl := someI hF
  exact g_ret (rst rfl rs0) (fun h1 hf hs => ⟨hs.hext, rfl⟩)
theorem s_slices_IndexFunc_hist_Hist_Apply_1 {h : Heap} (hw : Wf h) (p0 : (List TOp)) (p1c0 : TOp) {a0_0 : Option Addr} {c0_0 : Nat} {b1c0 : Nat} (f0_0 : RL R_TOp h a0_0 c0_0 p0) (g1c0 : BK h b1c0 [.string p1c0.Key, .string p1c0.Val, .bool p1c0.Del] 45) {r : Int} (hF : F_slices_IndexFunc_hist_Hist_Apply_1 p0 p1c0 = some r) :
    Ev EE 90 [.slice a0_0 p0.length c0_0, .func (.func 61) #[] #[.pointer (some ⟨b1c0, 0, none⟩)]] h (fun v _ => v = .int .i64 r) := by
  unfold F_slices_IndexFunc_hist_Hist_Apply_1 at hF
  refine ev_of hw rfl at_90 rfl rfl (go_seg0 ?_)
  refine go_seq ?_
  refine go_region ?_
  refine gAc rfl rfl ?_
  refine go_nil ?_
  refine go_seq ?_
  refine go_seq ?_
  refine go_region ?_
  refine gM rfl rfl ?_
  refine gr rfl (r_len rfl (os1 (ot rfl) os0) (fun _ _ => ln_39)) ?_
  refine gMc rfl rfl ?_
  refine go_nil ?_
  replace hF := obind hF
  obtain ⟨s1, hF, hK1⟩ := hF
  refine go_joinc (β := (Unit)) (fun s h' => s1 = .go s) (fun s => [(4, true, .int .i64 0)]) (fun s => (List.flatten [] : List Blk)) ?_ (fun J1 => ?_)
  ·
    rintro _ h1 e1 w1 hs1
    subst hs1
    replace hF := lpgo hK1
    refine go_seq ?_
    refine go_region ?_
    refine gAc rfl rfl ?_
    refine go_nil ?_
    obtain rfl := someI hF
    exact g_ret (rst rfl rs0) (fun h1 hf hs => ⟨(e1.trans hs.hext), rfl⟩)
  ·
    refine go_block ?_
    refine go_loop (α := (List TOp) × Nat × Heap) (fun a => a.1 = List.drop a.2.1 p0 ∧ HExt h a.2.2 ∧ Wf a.2.2 ∧ F_slices_IndexFunc_hist_Hist_Apply_1_L1 p1c0 a.1 a.2.1 = some s1) (fun a => a.1.length) (fun a => [(0, true, .slice a0_0 p0.length c0_0), (1, true, .func (.func 61) #[] #[.pointer (some ⟨b1c0, 0, none⟩)]), (4, true, .int .i64 0), (7, true, .int .i64 (p0.length : Int)), (8, true, .int .i64 (a.2.1 : Int))]) (fun a => (List.flatten [] : List Blk)) (fun a => a.2.2) ?_ (p0, 0, h) ⟨rfl, HExt.refl _, hw, hF⟩ (Sub.cons (Sub.cons (Sub.cons (Sub.cons (Sub.cons (Sub.nil _) rfl) rfl) rfl) rfl) rfl) rfl rfl
    rintro ⟨r2, i2, h2⟩ ⟨hr2, e2, w2, hF⟩ ih2
    rcases r2 with _ | ⟨z2, r2⟩
    ·
      have hi2 := drop_nil hr2
      rw [F_slices_IndexFunc_hist_Hist_Apply_1_L1.eq_1] at hF
      refine go_seq ?_
      refine go_region ?_
      refine gr rfl (r_bin (ot rfl) (ot rfl) rfl) ?_
      refine go_cast (.bool false) (congrArg Value.bool (decide_eq_false hi2)) ?_
      refine go_nil ?_
      refine go_seq ?_
      refine g_cond (b := false) (ot rfl) (fun hc3 => ?_) (fun hc3 => ?_)
      · cases hc3
      refine go_exit rfl ?_
      obtain rfl := someI hF
      exact Goes.weak (J1 () _ e2 w2 rfl) (Sub.cons (Sub.nil _) rfl)
    ·
      obtain ⟨hi2, hx2, hr2⟩ := drop_cons hr2
      have hb2 := (f0_0.ext e2.kn).1
      rw [F_slices_IndexFunc_hist_Hist_Apply_1_L1.eq_2] at hF
      refine go_seq ?_
      refine go_region ?_
      refine gr rfl (r_bin (ot rfl) (ot rfl) rfl) ?_
      refine go_cast (.bool true) (congrArg Value.bool (decide_eq_true (Int.ofNat_lt.mpr hi2))) ?_
      refine go_nil ?_
      refine go_seq ?_
      refine g_cond (b := true) (ot rfl) (fun hc4 => ?_) (fun hc4 => ?_)
      rotate_left
      · cases hc4
      refine go_skip ?_
      refine go_seq ?_
      refine go_block ?_
      refine go_seq ?_
      refine go_region ?_
      refine gM rfl rfl ?_
      refine gA rfl rfl ?_
      refine go_nil ?_
      refine go_seq ?_
      refine go_region ?_
      refine gM rfl rfl ?_
      refine gM rfl rfl ?_
      refine gM rfl rfl ?_
      obtain ⟨q5, row5, i5, cl5, rc5, sp5⟩ := ix (ik := .i64) (cap := c0_0) (E := EE) (f0_0.ext e2.kn) ((getI_nat _ _).trans hx2) ut_39 sz_45 rfl
      obtain rfl := rc5
      refine gr rfl (r_ia (ot rfl) (ot rfl) i5) ?_
      refine gr rfl (r_load (ot rfl) (v := .agg #[.string z2.Key, .string z2.Val, .bool z2.Del]) (lo_e (fun hf kn => ld_of (r := [.string z2.Key, .string z2.Val, .bool z2.Del]) ag_45 sz_45 (kn.cellsAt cl5)))) ?_
      replace hF := obind hF
      obtain ⟨x6, hx6, hF⟩ := hF
      refine g_callp (v := .bool x6) EE_fr rfl (ot rfl) (os1 (ot rfl) os0) hb_61 (fun _ => rfl) (fun hf kn w => by exact s_hist_Hist_Apply_1 w z2 p1c0 ((g1c0.ext e2.kn).ext kn) hx6) ?_
      refine go_nil ?_
      refine g_cond (b := x6) (ot rfl) (fun hc7 => ?_) (fun hc7 => ?_)
      ·
        replace hF := ifT hc7 hF
        refine go_seq ?_
        refine go_region ?_
        refine gM rfl rfl ?_
        refine gA rfl rfl ?_
        refine go_nil ?_
        obtain rfl := someI hF
        obtain rfl := someI hK1
        exact g_ret (rst rfl rs0) (fun h1 hf hs => ⟨(e2.trans hs.hext), rfl⟩)
      ·
        replace hF := ifF hc7 hF
        refine go_skip ?_
        refine go_endb ?_
        refine go_region ?_
        refine gr rfl (r_bin (ot rfl) (oc rfl) rfl) ?_
        refine gM rfl rfl ?_
        refine go_nil ?_
        refine go_re 8 (v2 := .int .i64 ((i2 + 1 : Nat) : Int)) rfl (wrap_succ hi2 hb2) ?_
        exact Goes.weak (ih2 (r2, i2 + 1, h2) ⟨hr2, e2, w2, hF⟩ (Nat.lt_succ_self _)) (Sub.cons (Sub.cons (Sub.cons (Sub.cons (Sub.cons (Sub.nil _) rfl) rfl) rfl) rfl) rfl)
theorem s_slices_ContainsFunc_hist_Hist_Apply_1 {h : Heap} (hw : Wf h) (p0 : (List TOp)) (p1c0 : TOp) {a0_0 : Option Addr} {c0_0 : Nat} {b1c0 : Nat} (f0_0 : RL R_TOp h a0_0 c0_0 p0) (g1c0 : BK h b1c0 [.string p1c0.Key, .string p1c0.Val, .bool p1c0.Del] 45) {r : Bool} (hF : F_slices_ContainsFunc_hist_Hist_Apply_1 p0 p1c0 = some r) :
    Ev EE 62 [.slice a0_0 p0.length c0_0, .func (.func 61) #[] #[.pointer (some ⟨b1c0, 0, none⟩)]] h (fun v _ => v = .bool r) := by
  unfold F_slices_ContainsFunc_hist_Hist_Apply_1 at hF
  refine ev_of hw rfl at_62 rfl rfl (go_seg0 ?_)
  refine go_seq ?_
  refine go_region ?_
  refine gAc rfl rfl ?_
  refine go_nil ?_
  refine go_seq ?_
  refine go_region ?_
  refine gM rfl rfl ?_
  refine gM rfl rfl ?_
  replace hF := obind hF
  obtain ⟨x1, hx1, hF⟩ := hF
  refine g_callp (v := .int .i64 x1) EE_fr rfl of (os1 (ot rfl) (os1 (ot rfl) os0)) hb_90 (fun _ => rfl) (fun hf kn w => by exact s_slices_IndexFunc_hist_Hist_Apply_1 w p0 p1c0 (f0_0.ext kn) (g1c0.ext kn) hx1) ?_
  refine gr rfl (r_bin (ot rfl) (oc rfl) rfl) ?_
  refine gA rfl rfl ?_
  refine go_nil ?_
  obtain rfl := someI hF
  exact g_ret (rst rfl rs0) (fun h1 hf hs => ⟨hs.hext, rfl⟩)
theorem s_hist_Hist_Apply {h : Heap} (hw : Wf h) (p0 : Ohist_Hist) (p1 : (List TOp)) {bp0 : Nat} {bp0m2 : Nat} {rw0_2 : List (ByteArray × Value)} {q0_3 : Option Addr} {t0_3 : List Blk} {a1_0 : Option Addr} {c1_0 : Nat} (fm0_2 : MR R_TEvent h rw0_2 p0.keys) (f0_3 : AccR (Rep.sl R_TEvent 50) 50 h t0_3 (.slice q0_3 p0.rows.length p0.rows.length) p0.rows) (f1_0 : RL R_TOp h a1_0 c1_0 p1) {r : (List TEvent) × Ohist_Hist} (hF : F_hist_Hist_Apply p0 p1 = some r) :
    EvO EE 23 [.pointer (some ⟨bp0, 0, none⟩), .slice a1_0 p1.length c1_0] [[⟨bp0, .cells [.int .i64 p0.bounds_rev, .int .i64 p0.bounds_hor, .map (some bp0m2), .slice q0_3 p0.rows.length p0.rows.length] 100⟩], [⟨bp0m2, .map (encM kS id rw0_2)⟩], t0_3] h (fun v S h1 => ∃ rwy0_2 qy0_3 ty0_3 a0 c0, v = .slice a0 r.1.length c0 ∧ S = [[⟨bp0, .cells [.int .i64 r.2.bounds_rev, .int .i64 r.2.bounds_hor, .map (some bp0m2), .slice qy0_3 r.2.rows.length r.2.rows.length] 100⟩], [⟨bp0m2, .map (encM kS id rwy0_2)⟩], ty0_3] ∧ MR R_TEvent h1 rwy0_2 r.2.keys ∧ AccR (Rep.sl R_TEvent 50) 50 h1 ty0_3 (.slice qy0_3 r.2.rows.length r.2.rows.length) r.2.rows ∧ RL R_TEvent h1 a0 c0 r.1) := by
  unfold F_hist_Hist_Apply at hF
  refine evo_of rfl at_23 rfl rfl ?_
  refine go_seq ?_
  refine go_region ?_
  refine gAc rfl rfl ?_
  refine go_nil ?_
  refine go_seq ?_
  refine go_seq ?_
  refine go_region ?_
  refine gM rfl rfl ?_
  refine gr rfl (r_bin (v := .bool false) (ot rfl) (oc rfl) (by first | rfl | kernel_rfl)) ?_
  refine go_nil ?_
  refine g_cond (b := false) (ot rfl) (fun hc1 => ?_) (fun hc1 => ?_)
  · cases hc1
  refine go_skip ?_
  refine go_seq ?_
  refine go_region ?_
  refine gAc rfl rfl ?_
  refine go_nil ?_
  refine go_seq ?_
  refine go_seq ?_
  refine go_region ?_
  refine gM rfl rfl ?_
  refine gr rfl (r_len rfl (os1 (ot rfl) os0) (fun _ _ => ln_39)) ?_
  refine gMc rfl rfl ?_
  refine go_nil ?_
  replace hF := obind hF
  obtain ⟨s2, hF, hK2⟩ := hF
  refine go_joinc (β := Option Addr × List Blk) (fun s h' => AccR R_TEvent 108 h' s.2 (.slice s.1 s2.length s2.length) s2) (fun s => [(0, true, .pointer (some ⟨bp0, 0, none⟩)), (4, true, .slice none 0 0), (5, true, .slice s.1 s2.length s2.length)]) (fun s => (List.flatten [s.2, [⟨bp0, .cells [.int .i64 p0.bounds_rev, .int .i64 p0.bounds_hor, .map (some bp0m2), .slice q0_3 p0.rows.length p0.rows.length] 100⟩], [⟨bp0m2, .map (encM kS id rw0_2)⟩], t0_3] : List Blk)) ?_ (fun J2 => ?_)
  ·
    rintro ⟨a2_0, a2_1⟩ h2 e2 w2 f2_0
    replace hF := hK2
    refine go_seq ?_
    refine go_seq ?_
    refine go_region ?_
    refine gM rfl rfl ?_
    refine gr rfl (r_len rfl (os1 (ot rfl) os0) (fun _ _ => ln_50)) ?_
    refine gr rfl (r_bin (ot rfl) (oc rfl) rfl) ?_
    refine go_nil ?_
    refine g_cond (b := ((s2.length : Int) == 0)) (ot rfl) (fun hc3 => ?_) (fun hc3 => ?_)
    ·
      replace hF := ifT hc3 hF
      refine go_seq ?_
      refine go_region ?_
      refine gAc rfl rfl ?_
      refine go_nil ?_
      obtain rfl := someI hF
      refine gs_sub (.cons _ (.cons_cons _ (.cons_cons _ (.cons_cons _ (.refl _))))) ?_
      exact g_ret (rst rfl rs0) (fun h1 hf hs => ⟨[[⟨bp0, .cells [.int .i64 p0.bounds_rev, .int .i64 p0.bounds_hor, .map (some bp0m2), .slice q0_3 p0.rows.length p0.rows.length] 100⟩], [⟨bp0m2, .map (encM kS id rw0_2)⟩], t0_3], _, hf, e2, w2, hs, (ndb (by intro e; cases e) (ndb (by intro e; cases e) (ndt (f0_3.ext e2.kn) nd0))), ⟨_, _, _, _, _, rfl, rfl, (fm0_2.ext e2.kn), (f0_3.ext e2.kn), (RL.nil _ _ _)⟩⟩)
    ·
      replace hF := ifF hc3 hF
      refine go_skip ?_
      refine go_seq ?_
      refine go_seq ?_
      refine go_region ?_
      refine gM rfl rfl ?_
      refine gr rfl (r_len rfl (os1 (ot rfl) os0) (fun _ _ => ln_50)) ?_
      refine gMc rfl rfl ?_
      refine go_nil ?_
      replace hF := obind hF
      obtain ⟨s4, hF, hK4⟩ := hF
      refine go_joinc (β := List (ByteArray × Value)) (fun s h' => MR R_TEvent h' s s4) (fun s => [(0, true, .pointer (some ⟨bp0, 0, none⟩)), (4, true, .slice none 0 0), (5, true, .slice a2_0 s2.length s2.length)]) (fun s => (List.flatten [a2_1, [⟨bp0, .cells [.int .i64 p0.bounds_rev, .int .i64 p0.bounds_hor, .map (some bp0m2), .slice q0_3 p0.rows.length p0.rows.length] 100⟩], [⟨bp0m2, .map (encM kS id s)⟩], t0_3] : List Blk)) ?_ (fun J4 => ?_)
      ·
        rintro a4_0 h4 e4 w4 f4_0
        replace hF := hK4
        refine go_seq ?_
        refine go_region ?_
        refine gM rfl rfl ?_
        refine gM rfl rfl ?_
        refine gr rfl (r_nilck (ot rfl)) ?_
        refine gr rfl (r_fa (ot rfl) (fa_100_2 _ _)) ?_
        refine gr rfl (r_load (ot rfl) (lm_s (mem_seg 1 rfl) ag_34 rfl)) ?_
        refine gM rfl rfl ?_
        refine gs_bslice (cs := [.slice a2_0 s2.length s2.length]) rfl (op1 (ot rfl) op0) ut_34 sz_50 zo_50 rfl rfl ?_; intro b104_5
        refine gs_accpub (.s (.z)) (f2_0.ext e4.kn) (fun h7 e7 w7 f7_ => ?_) rfl
        replace hF := obind hF
        obtain ⟨x6, hx6, hF⟩ := hF
        obtain ⟨hr6, hz6_⟩ := appL_some hx6; subst x6
        refine gs_front (.s (.s (.s (.z)))) ?_
        refine gs_app (rows2 := [[.slice a2_0 s2.length s2.length]]) (R := (Rep.sl R_TEvent 50)) rfl (os1 (ot rfl) (os1 (ot rfl) os0)) rfl ut_34 sz_50 rfl (by decide) by_50 zo_50 rfl zs_34_34 rfl rfl (first_m (mem_seg 1 rfl) rfl (by decide)) (Rws.one (x := s2) (sl_C f7_)) (((f0_3.ext e2.kn).ext e4.kn).ext e7.kn) hr6 (fun p6_ tl6 f6_ => ?_)
        refine gr rfl (r_nilck (ot rfl)) ?_
        refine gr rfl (r_fa (ot rfl) (fa_100_2 _ _)) ?_
        refine gs_store (ot rfl) (ot rfl) sz_34 rfl rfl rfl rfl rfl (.s (.s (.z))) ?_
        refine go_nil ?_
        refine go_seq ?_
        refine go_region ?_
        refine gM rfl rfl ?_
        refine gr rfl (r_nilck (ot rfl)) ?_
        refine gr rfl (r_fa (ot rfl) (fa_100_0 _ _)) ?_
        refine gr rfl (r_fa (ot rfl) (fa_97_0 _ _)) ?_
        refine gr rfl (r_load (ot rfl) (lm_s (mem_seg 2 rfl) ag_3 rfl)) ?_
        refine gr rfl (r_bin (ot rfl) (oc rfl) rfl) ?_
        refine gr rfl (r_nilck (ot rfl)) ?_
        refine gr rfl (r_fa (ot rfl) (fa_100_0 _ _)) ?_
        refine gr rfl (r_fa (ot rfl) (fa_97_0 _ _)) ?_
        refine gs_store (ot rfl) (ot rfl) sz_3 rfl rfl rfl rfl rfl (.s (.s (.z))) ?_
        refine go_nil ?_
        refine go_seq ?_
        refine go_region ?_
        refine gM rfl rfl ?_
        replace hF := obind hF
        obtain ⟨x8, hx8, hF⟩ := hF
        refine gs_call EE_fr w7 .nil (fun _ h => by cases h; rfl) of (os1 (ot rfl) os0) hb_64 (by exact evo_clone_64 w7 f7_ hx8) ?_
        rintro v8 S8 h8 e8 w8 ⟨q8, t8, rfl, rfl, f8_⟩
        simp only [List.cons_append, List.nil_append]
        refine gA rfl rfl ?_
        refine go_nil ?_
        refine gs_accpub .z f8_ (fun h9 e9 w9 f9_ => ?_) rfl
        obtain rfl := someI hF
        refine gs_sub (.cons_cons _ (.cons _ (.cons_cons _ (.cons_cons _ (.refl _))))) ?_
        refine gs_perm (perm_of (d := []) _ [1, 2, 0] rfl) ?_
        exact g_ret (rst rfl rs0) (fun h1 hf hs => ⟨[[⟨bp0, .cells [.int .i64 (IntKind.i64.wrap (p0.bounds_rev + 1)), .int .i64 p0.bounds_hor, .map (some bp0m2), .slice p6_ (p0.rows ++ ([s2] : List (List TEvent))).length (p0.rows ++ ([s2] : List (List TEvent))).length] 100⟩], [⟨bp0m2, .map (encM kS id a4_0)⟩], tl6], _, hf, (e2.trans (e4.trans (e7.trans (e8.trans e9)))), w9, hs, (ndb (by intro e; cases e) (ndb (by intro e; cases e) (ndt ((f6_.ext e8.kn).ext e9.kn) nd0))), ⟨_, _, _, _, _, rfl, rfl, (((f4_0.ext e7.kn).ext e8.kn).ext e9.kn), ((f6_.ext e8.kn).ext e9.kn), f9_⟩⟩)
      ·
        refine go_block ?_
        refine go_loop (α := (List TEvent) × Nat × (List (ByteArray × (List TEvent))) × List (ByteArray × Value) × Heap) (fun a => a.1 = List.drop a.2.1 s2 ∧ HExt h2 a.2.2.2.2 ∧ Wf a.2.2.2.2 ∧ F_hist_Hist_Apply_L1 a.1 a.2.1 a.2.2.1 = some s4 ∧ MR R_TEvent a.2.2.2.2 a.2.2.2.1 a.2.2.1) (fun a => a.1.length) (fun a => [(0, true, .pointer (some ⟨bp0, 0, none⟩)), (4, true, .slice none 0 0), (5, true, .slice a2_0 s2.length s2.length), (74, true, .slice a2_0 s2.length s2.length), (75, true, .int .i64 (s2.length : Int)), (76, true, .int .i64 (a.2.1 : Int))]) (fun a => (List.flatten [a2_1, [⟨bp0, .cells [.int .i64 p0.bounds_rev, .int .i64 p0.bounds_hor, .map (some bp0m2), .slice q0_3 p0.rows.length p0.rows.length] 100⟩], [⟨bp0m2, .map (encM kS id a.2.2.2.1)⟩], t0_3] : List Blk)) (fun a => a.2.2.2.2) ?_ (s2, 0, p0.keys, rw0_2, h2) ⟨rfl, HExt.refl _, w2, hF, (fm0_2.ext e2.kn)⟩ (Sub.cons (Sub.cons (Sub.cons (Sub.cons (Sub.cons (Sub.cons (Sub.nil _) rfl) rfl) rfl) rfl) rfl) rfl) rfl rfl
        rintro ⟨r10, i10, y10_0, a10_0, h10⟩ ⟨hr10, e10, w10, hF, f10_0⟩ ih10
        rcases r10 with _ | ⟨z10, r10⟩
        ·
          have hi10 := drop_nil hr10
          rw [F_hist_Hist_Apply_L1.eq_1] at hF
          refine go_seq ?_
          refine go_region ?_
          refine gr rfl (r_bin (ot rfl) (ot rfl) rfl) ?_
          refine go_cast (.bool false) (congrArg Value.bool (decide_eq_false hi10)) ?_
          refine go_nil ?_
          refine go_seq ?_
          refine g_cond (b := false) (ot rfl) (fun hc11 => ?_) (fun hc11 => ?_)
          · cases hc11
          refine go_exit rfl ?_
          obtain rfl := someI hF
          exact Goes.weak (J4 a10_0 _ e10 w10 f10_0) (Sub.cons (Sub.cons (Sub.cons (Sub.nil _) rfl) rfl) rfl)
        ·
          obtain ⟨hi10, hx10, hr10⟩ := drop_cons hr10
          have hb10 := (f2_0.ext e10.kn).1
          rw [F_hist_Hist_Apply_L1.eq_2] at hF
          refine go_seq ?_
          refine go_region ?_
          refine gr rfl (r_bin (ot rfl) (ot rfl) rfl) ?_
          refine go_cast (.bool true) (congrArg Value.bool (decide_eq_true (Int.ofNat_lt.mpr hi10))) ?_
          refine go_nil ?_
          refine go_seq ?_
          refine g_cond (b := true) (ot rfl) (fun hc12 => ?_) (fun hc12 => ?_)
          rotate_left
          · cases hc12
          refine go_skip ?_
          refine go_seq ?_
          refine go_block ?_
          refine go_seq ?_
          refine go_region ?_
          obtain ⟨bb13, rw13, row13, hp13, ht13, hR13, hw13, rc13, hz13, hi13, hd13, hb13, hl13⟩ := AccR.at_ (f2_0.ext e10.kn) ((getI_nat _ _).trans hx10)
          have hF13_ := hF
          subst hp13; subst ht13
          replace hF := hF13_
          obtain rfl := rc13
          refine gr rfl (r_ia (ot rfl) (ot rfl) (ia_acc (k := 4) ut_50 sz_108 hz13 hi13)) ?_
          refine gr rfl (r_load (ot rfl) (lm_a (vs := [.int .i64 z10.Rev, .string z10.Key, .string z10.Val, .bool z10.Del]) (mem_seg 0 rfl) ag_108 sz_108 (Nat.ble_eq_true_of_le hb13) hd13)) ?_
          refine gs_alloc rfl zo_108 rfl ?_; intro b13_14
          refine gs_store (ot rfl) (ot rfl) sz_108 rfl rfl rfl rfl rfl .z ?_
          refine go_nil ?_
          refine go_regA1 (L := [(0, []), (1, []), (2, []), (3, []), (4, []), (5, []), (6, []), (7, []), (8, []), (9, []), (10, []), (11, []), (12, []), (14, []), (13, [3, 5, 14]), (15, []), (16, [3, 5]), (17, [])]) (by kernel_rfl) (by kernel_rfl) (fun _ => rfl) ?_; intro b95_15
          refine go_sop rfl rfl ?_
          refine gM rfl rfl ?_
          refine go_nil ?_
          refine go_sop rfl rfl ?_
          refine gr rfl (r_nilck (ot rfl)) ?_
          refine go_nil ?_
          refine go_sop rfl rfl ?_
          refine gr rfl (r_fa (ot rfl) (fa_100_1 _ _)) ?_
          refine go_nil ?_
          refine go_sop rfl rfl ?_
          refine gr rfl (r_load (ot rfl) (lm_s (mem_seg 3 rfl) ag_98 rfl)) ?_
          refine go_nil ?_
          refine go_sop rfl rfl ?_
          refine gr rfl (r_fa (ot rfl) (fa_108_1 _ _)) ?_
          refine go_nil ?_
          refine go_sop rfl rfl ?_
          refine gr rfl (r_load (ot rfl) (lm_s (mem_seg 1 rfl) ag_9 rfl)) ?_
          refine go_nil ?_
          refine go_sop rfl rfl ?_
          refine gM rfl rfl ?_
          refine go_nil ?_
          refine go_sop rfl rfl ?_
          refine gr rfl (r_nilck (ot rfl)) ?_
          refine go_nil ?_
          refine go_sop rfl rfl ?_
          refine gr rfl (r_fa (ot rfl) (fa_100_1 _ _)) ?_
          refine go_nil ?_
          refine go_sop rfl rfl ?_
          refine gr rfl (r_load (ot rfl) (lm_s (mem_seg 3 rfl) ag_98 rfl)) ?_
          refine go_nil ?_
          refine go_sop rfl rfl ?_
          refine gr rfl (r_fa (ot rfl) (fa_108_1 _ _)) ?_
          refine go_nil ?_
          refine go_sop rfl rfl ?_
          refine gr rfl (r_load (ot rfl) (lm_s (mem_seg 1 rfl) ag_9 rfl)) ?_
          refine go_nil ?_
          refine go_sop rfl rfl ?_
          refine gr rfl (r_lookm (ke := kS) (ve := (id : Value → Value)) (es := a10_0) (kv := z10.Key) (z := .slice none 0 0) (ok := false) (ot rfl) (ot rfl) (mem_seg 4 rfl) um_98 rfl sc_9 sameS rfl) ?_
          obtain ⟨a16_, c16_, em16, f16_, gd16⟩ := MR.get f10_0 z10.Key
          refine go_cast (.slice a16_ ((mget y10_0 z10.Key).getD []).length c16_) em16 ?_
          refine go_nil ?_
          refine go_sop rfl rfl ?_
          refine gr rfl (r_load (ot rfl) (lm_w (mem_seg 1 rfl) ag_108 sz_108 rfl)) ?_
          refine go_nil ?_
          refine go_sopc [(3, .map (some bp0m2)), (5, .string z10.Key), (14, .agg #[.int .i64 z10.Rev, .string z10.Key, .string z10.Val, .bool z10.Del])] rfl rfl rfl (rc1 rfl (r_load (ot rfl) (lm_s (mem_seg 3 rfl) ag_98 rfl)) (rc1 rfl (r_load (ot rfl) (lm_s (mem_seg 1 rfl) ag_9 rfl)) (rc1 rfl (r_load (ot rfl) (lm_w (mem_seg 1 rfl) ag_108 sz_108 rfl)) rc0))) (vq1 (veq_map _ _) (vq1 (veq_str _ _) (vq1 (veq_agg _ _ (va1 (veq_int _ _ _) (va1 (veq_str _ _) (va1 (veq_str _ _) (va1 (veq_bool _ _) (va0 _)))))) vq0))) rfl ?_
          refine g_call EE_fr (fun _ h => by cases h; rfl) of (os1 (ot rfl) os0) hb_63 (fun hf kn w => by exact ev_clip_63 w (f16_.ext kn) gd16) ?_
          rintro v17 h17 e17 w17 ⟨a17_, rfl, f17_, fu17⟩
          refine go_nil ?_
          refine go_rck (rc1 rfl (r_load (ot rfl) (lm_s (mem_seg 3 rfl) ag_98 rfl)) (rc1 rfl (r_load (ot rfl) (lm_s (mem_seg 1 rfl) ag_9 rfl)) (rc1 rfl (r_load (ot rfl) (lm_w (mem_seg 1 rfl) ag_108 sz_108 rfl)) rc0))) ?_
          refine go_sbslice (cs := [.int .i64 z10.Rev, .string z10.Key, .string z10.Val, .bool z10.Del]) rfl rfl rfl (op1 (ot rfl) op0) ut_50 sz_108 zo_108 rfl rfl .z ?_
          refine go_sopc [(3, .map (some bp0m2)), (5, .string z10.Key)] rfl rfl rfl (rc1 rfl (r_load (ot rfl) (lm_s (mem_seg 3 rfl) ag_98 rfl)) (rc1 rfl (r_load (ot rfl) (lm_s (mem_seg 1 rfl) ag_9 rfl)) rc0)) (vq1 (veq_map _ _) (vq1 (veq_str _ _) vq0)) rfl ?_
          replace hF := obind hF
          obtain ⟨x18, hx18, hF⟩ := hF
          obtain ⟨hr18, hz18_⟩ := appL_some hx18; subst x18
          refine gs_appF (rows2 := [[.int .i64 z10.Rev, .string z10.Key, .string z10.Val, .bool z10.Del]]) (R := R_TEvent) rfl (os1 (ot rfl) (os1 (ot rfl) os0)) rfl ut_50 sz_108 rfl (by decide) by_108 zo_108 rfl zs_50_50 rfl rfl (by simp) (first_m (mem_seg 0 rfl) rfl (by decide)) (Rws.one (x := z10) rfl) f17_ fu17 hr18 (fun p18_ tl18 f18_ => ?_)
          refine go_nil ?_
          refine go_rck (rc1 rfl (r_load (ot rfl) (lm_s (mem_seg 4 rfl) ag_98 rfl)) (rc1 rfl (r_load (ot rfl) (lm_s (mem_seg 2 rfl) ag_9 rfl)) rc0)) ?_
          refine go_sop rfl rfl ?_
          have gd19 := AccR.good f18_
          refine gs_accpub .z f18_ (fun h20 e20 w20 f20_ => ?_) rfl
          have fm19 : MR R_TEvent h20 (mset a10_0 z10.Key (.slice p18_ (((mget y10_0 z10.Key).getD []) ++ ([z10] : List TEvent)).length ((((mget y10_0 z10.Key).getD []) ++ ([z10] : List TEvent)).length))) (mset y10_0 z10.Key (((mget y10_0 z10.Key).getD []) ++ ([z10] : List TEvent))) := MR.set ((f10_0.ext e17.kn).ext e20.kn) z10.Key f20_ gd19
          refine gs_mset (ke := kS) (ve := (id : Value → Value)) (es := a10_0) (kv := z10.Key) (v := .slice p18_ (((mget y10_0 z10.Key).getD []) ++ ([z10] : List TEvent)).length ((((mget y10_0 z10.Key).getD []) ++ ([z10] : List TEvent)).length)) (ot rfl) (ot rfl) (ot rfl) um_98 rfl sc_9 sameS (.s (.s (.s (.s (.z))))) ?_
          refine go_nil ?_
          refine go_snil ?_
          refine go_endb ?_
          refine go_region ?_
          refine gr rfl (r_bin (ot rfl) (oc rfl) rfl) ?_
          refine gM rfl rfl ?_
          refine go_nil ?_
          refine gs_sub (.cons _ (.cons _ (.cons_cons _ (.cons_cons _ (.cons_cons _ (.cons_cons _ (.refl _))))))) ?_
          refine go_re 76 (v2 := .int .i64 ((i10 + 1 : Nat) : Int)) rfl (wrap_succ hi10 hb10) ?_
          exact Goes.weak (ih10 (r10, i10 + 1, (mset y10_0 z10.Key (((mget y10_0 z10.Key).getD []) ++ ([z10] : List TEvent))), (mset a10_0 z10.Key (.slice p18_ (((mget y10_0 z10.Key).getD []) ++ ([z10] : List TEvent)).length ((((mget y10_0 z10.Key).getD []) ++ ([z10] : List TEvent)).length))), h20) ⟨hr10, (e10.trans (e17.trans e20)), w20, hF, fm19⟩ (Nat.lt_succ_self _)) (Sub.cons (Sub.cons (Sub.cons (Sub.cons (Sub.cons (Sub.cons (Sub.nil _) rfl) rfl) rfl) rfl) rfl) rfl)
  ·
    refine go_block ?_
    refine go_loop (α := (List TOp) × Nat × (List TEvent) × Option Addr × List Blk × Heap) (fun a => a.1 = List.drop a.2.1 p1 ∧ HExt h a.2.2.2.2.2 ∧ Wf a.2.2.2.2.2 ∧ F_hist_Hist_Apply_L2 p0 p1 a.1 a.2.1 a.2.2.1 = some s2 ∧ AccR R_TEvent 108 a.2.2.2.2.2 a.2.2.2.2.1 (.slice a.2.2.2.1 a.2.2.1.length a.2.2.1.length) a.2.2.1) (fun a => a.1.length) (fun a => [(0, true, .pointer (some ⟨bp0, 0, none⟩)), (1, true, .slice a1_0 p1.length c1_0), (4, true, .slice none 0 0), (5, true, .slice a.2.2.2.1 a.2.2.1.length a.2.2.1.length), (16, true, .slice a1_0 p1.length c1_0), (17, true, .int .i64 (p1.length : Int)), (18, true, .int .i64 (a.2.1 : Int))]) (fun a => (List.flatten [a.2.2.2.2.1, [⟨bp0, .cells [.int .i64 p0.bounds_rev, .int .i64 p0.bounds_hor, .map (some bp0m2), .slice q0_3 p0.rows.length p0.rows.length] 100⟩], [⟨bp0m2, .map (encM kS id rw0_2)⟩], t0_3] : List Blk)) (fun a => a.2.2.2.2.2) ?_ (p1, 0, ([] : List TEvent), none, [], h) ⟨rfl, HExt.refl _, hw, hF, (AccR.nil _ _ _)⟩ (Sub.cons (Sub.cons (Sub.cons (Sub.cons (Sub.cons (Sub.cons (Sub.cons (Sub.nil _) rfl) rfl) rfl) rfl) rfl) rfl) rfl) rfl rfl
    rintro ⟨r21, i21, y21_0, a21_0, a21_1, h21⟩ ⟨hr21, e21, w21, hF, f21_0⟩ ih21
    rcases r21 with _ | ⟨z21, r21⟩
    ·
      have hi21 := drop_nil hr21
      rw [F_hist_Hist_Apply_L2.eq_1] at hF
      refine go_seq ?_
      refine go_region ?_
      refine gr rfl (r_bin (ot rfl) (ot rfl) rfl) ?_
      refine go_cast (.bool false) (congrArg Value.bool (decide_eq_false hi21)) ?_
      refine go_nil ?_
      refine go_seq ?_
      refine g_cond (b := false) (ot rfl) (fun hc22 => ?_) (fun hc22 => ?_)
      · cases hc22
      refine go_exit rfl ?_
      obtain rfl := someI hF
      exact Goes.weak (J2 (a21_0, a21_1) _ e21 w21 f21_0) (Sub.cons (Sub.cons (Sub.cons (Sub.nil _) rfl) rfl) rfl)
    ·
      obtain ⟨hi21, hx21, hr21⟩ := drop_cons hr21
      have hb21 := (f1_0.ext e21.kn).1
      rw [F_hist_Hist_Apply_L2.eq_2] at hF
      refine go_seq ?_
      refine go_region ?_
      refine gr rfl (r_bin (ot rfl) (ot rfl) rfl) ?_
      refine go_cast (.bool true) (congrArg Value.bool (decide_eq_true (Int.ofNat_lt.mpr hi21))) ?_
      refine go_nil ?_
      refine go_seq ?_
      refine g_cond (b := true) (ot rfl) (fun hc23 => ?_) (fun hc23 => ?_)
      rotate_left
      · cases hc23
      refine go_skip ?_
      refine go_seq ?_
      replace hF := obind hF
      obtain ⟨s24, hF, hK24⟩ := hF
      refine go_joinc (β := Option Addr × List Blk × Option Addr × Nat) (fun s h' => AccR R_TEvent 108 h' s.2.1 (.slice s.1 s24.1.length s24.1.length) s24.1 ∧ RL R_TOp h' s.2.2.1 s.2.2.2 s24.2.2.2.2.2.2.2.2.2.2.2.2.2.2.2.2.2.1) (fun s => [(0, true, .pointer (some ⟨bp0, 0, none⟩)), (1, true, .slice a1_0 p1.length c1_0), (4, true, .slice none 0 0), (5, true, .slice s.1 s24.1.length s24.1.length), (6, true, .int .i64 (i21 : Int)), (10, true, .bool s24.2.1), (16, true, .slice a1_0 p1.length c1_0), (17, true, .int .i64 (p1.length : Int)), (18, true, .int .i64 (i21 : Int)), (19, true, .bool true), (20, true, .int .i64 (i21 : Int)), (22, true, .agg #[.string z21.Key, .string z21.Val, .bool z21.Del]), (24, true, .tuple #[.agg #[.int .i64 s24.2.2.1, .string s24.2.2.2.1, .string s24.2.2.2.2.1, .bool s24.2.2.2.2.2.1], .bool s24.2.2.2.2.2.2.1]), (27, true, .string z21.Key), (32, true, .int .i64 p0.bounds_rev), (33, true, .tuple #[.agg #[.int .i64 s24.2.2.2.2.2.2.2.1, .string s24.2.2.2.2.2.2.2.2.1, .string s24.2.2.2.2.2.2.2.2.2.1, .bool s24.2.2.2.2.2.2.2.2.2.2.1], .bool s24.2.2.2.2.2.2.2.2.2.2.2.1]), (34, true, .agg #[.int .i64 s24.2.2.2.2.2.2.2.2.2.2.2.2.1, .string s24.2.2.2.2.2.2.2.2.2.2.2.2.2.1, .string s24.2.2.2.2.2.2.2.2.2.2.2.2.2.2.1, .bool s24.2.2.2.2.2.2.2.2.2.2.2.2.2.2.2.1]), (35, true, .bool s24.2.2.2.2.2.2.2.2.2.2.2.2.2.2.2.2.1), (36, true, .slice a1_0 p1.length c1_0), (37, true, .int .i64 (i21 : Int)), (38, true, .int .i64 (IntKind.i64.wrap ((i21 : Int) + 1))), (39, true, .slice s.2.2.1 s24.2.2.2.2.2.2.2.2.2.2.2.2.2.2.2.2.2.1.length s.2.2.2), (41, true, .bool s24.2.2.2.2.2.2.2.2.2.2.2.2.2.2.2.2.2.2.1), (42, true, .bool s24.2.2.2.2.2.2.2.2.2.2.2.2.2.2.2.2.2.2.2.1), (49, true, .bool s24.2.2.2.2.2.2.2.2.2.2.2.2.2.2.2.2.2.2.2.2)]) (fun s => (List.flatten [s.2.1, [⟨bp0, .cells [.int .i64 p0.bounds_rev, .int .i64 p0.bounds_hor, .map (some bp0m2), .slice q0_3 p0.rows.length p0.rows.length] 100⟩], [⟨bp0m2, .map (encM kS id rw0_2)⟩], t0_3] : List Blk)) ?_ (fun J24 => ?_)
      ·
        rintro ⟨a24_0, a24_1, a24_2, a24_3⟩ h24 e24 w24 ⟨f24_0, f24_17⟩
        replace hF := hK24
        refine go_region ?_
        refine gr rfl (r_bin (ot rfl) (oc rfl) rfl) ?_
        refine gM rfl rfl ?_
        refine go_nil ?_
        refine go_re 18 (v2 := .int .i64 ((i21 + 1 : Nat) : Int)) rfl (wrap_succ hi21 hb21) ?_
        exact Goes.weak (ih21 (r21, i21 + 1, s24.1, a24_0, a24_1, h24) ⟨hr21, (e21.trans e24), w24, hF, f24_0⟩ (Nat.lt_succ_self _)) (Sub.cons (Sub.cons (Sub.cons (Sub.cons (Sub.cons (Sub.cons (Sub.cons (Sub.nil _) rfl) rfl) rfl) rfl) rfl) rfl) rfl)
      ·
        refine go_block ?_
        refine go_seq ?_
        refine go_region ?_
        refine gM rfl rfl ?_
        obtain ⟨q25, row25, i25, cl25, rc25, sp25⟩ := ix (ik := .i64) (cap := c1_0) (E := EE) (f1_0.ext e21.kn) ((getI_nat _ _).trans hx21) ut_39 sz_45 rfl
        obtain rfl := rc25
        refine gr rfl (r_ia (ot rfl) (ot rfl) i25) ?_
        refine gr rfl (r_load (ot rfl) (v := .agg #[.string z21.Key, .string z21.Val, .bool z21.Del]) (lo_e (fun hf kn => ld_of (r := [.string z21.Key, .string z21.Val, .bool z21.Del]) ag_45 sz_45 (kn.cellsAt cl25)))) ?_
        refine gs_alloc rfl zo_45 rfl ?_; intro b7_26
        refine gA rfl rfl ?_
        refine gs_store (ot rfl) (ot rfl) sz_45 rfl rfl rfl rfl rfl .z ?_
        refine go_nil ?_
        refine go_seq ?_
        refine go_region ?_
        refine gr rfl (r_func os0 (os1 (ot rfl) os0)) ?_
        refine gA rfl rfl ?_
        refine go_nil ?_
        refine go_seq ?_
        refine go_seq ?_
        refine go_regA1 (L := [(0, []), (1, []), (2, []), (3, []), (4, []), (5, []), (6, []), (7, []), (8, []), (9, []), (10, []), (11, []), (12, []), (13, []), (14, [])]) (by kernel_rfl) (by kernel_rfl) (fun _ => rfl) ?_; intro b9_27
        refine go_sop rfl rfl ?_
        refine gM rfl rfl ?_
        refine go_nil ?_
        refine go_sop rfl rfl ?_
        refine gr rfl (r_fa (ot rfl) (fa_45_0 _ _)) ?_
        refine go_nil ?_
        refine go_sop rfl rfl ?_
        refine gr rfl (r_load (ot rfl) (lm_s (mem_seg 1 rfl) ag_9 rfl)) ?_
        refine go_nil ?_
        refine go_sop rfl rfl ?_
        refine gM rfl rfl ?_
        refine go_nil ?_
        refine go_sop rfl rfl ?_
        refine gr rfl (r_nilck (ot rfl)) ?_
        refine go_nil ?_
        refine go_sop rfl rfl ?_
        refine gr rfl (r_fa (ot rfl) (fa_100_0 _ _)) ?_
        refine go_nil ?_
        refine go_sop rfl rfl ?_
        refine gr rfl (r_fa (ot rfl) (fa_97_0 _ _)) ?_
        refine go_nil ?_
        refine go_sop rfl rfl ?_
        refine gr rfl (r_load (ot rfl) (lm_s (mem_seg 3 rfl) ag_3 rfl)) ?_
        refine go_nil ?_
        refine go_sop rfl rfl ?_
        replace hF := obind hF
        obtain ⟨x28, hx28, hF⟩ := hF
        refine gs_call EE_fr w21 (.cons (.s (.s (.s (.z)))) (.cons (.s (.s (.s (.z)))) .nil)) (fun _ h => by cases h; rfl) of (os1 (ot rfl) (os1 (ot rfl) (os1 (ot rfl) os0))) hb_55 (by exact evo_hat_55 w21 (fm0_2.ext e21.kn) hx28) ?_
        rintro v28 S28 h28 e28 w28 ⟨rfl, rfl⟩
        simp only [List.cons_append, List.nil_append]
        refine go_nil ?_
        refine go_sop rfl rfl ?_
        refine gM rfl rfl ?_
        refine go_nil ?_
        refine go_sop rfl rfl ?_
        refine gE rfl rfl rfl ?_
        refine go_nil ?_
        refine go_sop rfl rfl ?_
        refine gE rfl rfl rfl ?_
        refine go_nil ?_
        refine go_salloc rfl rfl rfl zo_108 rfl (.s (.s (.z))) ?_
        refine go_sop rfl rfl ?_
        refine gs_store (ot rfl) (ot rfl) sz_108 rfl rfl rfl rfl rfl (.s (.s (.z))) ?_
        refine go_nil ?_
        refine go_sop rfl rfl ?_
        refine gA rfl rfl ?_
        refine go_nil ?_
        refine go_snil ?_
        refine go_seq ?_
        refine go_region ?_
        refine gM rfl rfl ?_
        refine gM rfl rfl ?_
        refine gr rfl (r_bin (ot rfl) (oc rfl) rfl) ?_
        replace hF := obind hF
        obtain ⟨x29, hx29, hF⟩ := hF
        obtain ⟨a29_, c29_, i29⟩ := subL_ok (E := EE) ((f1_0.ext e21.kn).ext e28.kn) hx29 ut_39 sz_45 rfl rfl
        have f29_ := i29.rl
        refine gr rfl (r_slice (ot rfl) (oo (ot rfl)) on on (fun hf kn => i29.lo kn rfl)) ?_
        refine gM rfl rfl ?_
        refine gs_pub (.s (.s (.s (.z)))) (fun h31 e31 w31 hb31 => ?_)
        have g31_ : BK h31 b7_26 [.string z21.Key, .string z21.Val, .bool z21.Del] 45 := hb31
        replace hF := obind hF
        obtain ⟨x30, hx30, hF⟩ := hF
        refine g_callp (v := .bool x30) EE_fr rfl of (os1 (ot rfl) (os1 (ot rfl) os0)) hb_62 (fun _ => rfl) (fun hf kn w => by exact s_slices_ContainsFunc_hist_Hist_Apply_1 w x29 z21 ((f29_.ext e31.kn).ext kn) (g31_.ext kn) hx30) ?_
        refine gM rfl rfl ?_
        refine grf rfl rfl rfl rfl (r_fa (ot rfl) (fa_45_2 _ _)) ?_
        refine grf rfl rfl rfl rfl (r_load (og rfl id) (v := .bool z21.Del) (lo_e (fun hf kn => ld_cell ag_4 (g31_.ext kn) rfl))) ?_
        refine grf rfl rfl rfl rfl (r_move (og rfl id)) ?_
        refine grt' rfl rfl rfl rfl (r_move (ot rfl)) ?_
        refine grt' rfl rfl rfl rfl (r_un (og rfl id) rfl) ?_
        refine grf rfl rfl rfl rfl (r_pickb (og rfl id) (og rfl id) (oc rfl)) ?_
        refine gr rfl (r_pickb (ot rfl) (oc rfl) (og rfl id)) ?_
        refine go_nil ?_
        refine g_cond (b := (bif x30 then true else (bif z21.Del then (!x28.2) else false))) (ot rfl) (fun hc32 => ?_) (fun hc32 => ?_)
        ·
          replace hF := ifT hc32 hF
          refine go_exit rfl ?_
          obtain rfl := someI hF
          refine gs_sub (.cons_cons _ (.cons_cons _ (.cons _ (.cons_cons _ (.cons_cons _ (.refl _)))))) ?_
          refine gs_perm (perm_of (d := []) _ [2, 0, 1, 3] rfl) ?_
          exact Goes.weak (J24 (a21_0, a21_1, a29_, c29_) _ (e28.trans e31) w31 ⟨((f21_0.ext e28.kn).ext e31.kn), (f29_.ext e31.kn)⟩) (Sub.cons (Sub.cons (Sub.cons (Sub.cons (Sub.cons (Sub.cons (Sub.cons (Sub.cons (Sub.cons (Sub.cons (Sub.cons (Sub.cons (Sub.cons (Sub.cons (Sub.cons (Sub.cons (Sub.cons (Sub.cons (Sub.cons (Sub.cons (Sub.cons (Sub.cons (Sub.cons (Sub.cons (Sub.cons (Sub.nil _) rfl) rfl) rfl) rfl) rfl) rfl) rfl) rfl) rfl) rfl) rfl) rfl) rfl) rfl) rfl) rfl) rfl) rfl) rfl) rfl) rfl) rfl) rfl) rfl) rfl)
        ·
          replace hF := ifF hc32 hF
          refine go_skip ?_
          refine go_seq ?_
          refine go_regA1 (L := [(0, []), (1, []), (2, []), (3, []), (4, []), (5, []), (6, []), (7, []), (8, []), (9, []), (10, []), (11, []), (12, []), (13, []), (14, [])]) (by kernel_rfl) (by kernel_rfl) (fun _ => rfl) ?_; intro b11_33
          refine go_sop rfl rfl ?_
          refine gM rfl rfl ?_
          refine go_nil ?_
          refine go_sop rfl rfl ?_
          refine gr rfl (r_nilck (ot rfl)) ?_
          refine go_nil ?_
          refine go_sop rfl rfl ?_
          refine gr rfl (r_fa (ot rfl) (fa_100_0 _ _)) ?_
          refine go_nil ?_
          refine go_sop rfl rfl ?_
          refine gr rfl (r_fa (ot rfl) (fa_97_0 _ _)) ?_
          refine go_nil ?_
          refine go_sop rfl rfl ?_
          refine gr rfl (r_load (ot rfl) (lm_s (mem_seg 1 rfl) ag_3 rfl)) ?_
          refine go_nil ?_
          refine go_sop rfl rfl ?_
          refine gr rfl (r_bin (ot rfl) (oc rfl) rfl) ?_
          refine go_nil ?_
          refine go_sop rfl rfl ?_
          refine gr rfl (r_fa (ot rfl) (fa_45_0 _ _)) ?_
          refine go_nil ?_
          refine go_sop rfl rfl ?_
          refine gr rfl (r_load (ot rfl) (v := .string z21.Key) (lo_e (fun hf kn => ld_cell ag_9 (g31_.ext kn) rfl))) ?_
          refine go_nil ?_
          refine go_sop rfl rfl ?_
          refine gr rfl (r_fa (ot rfl) (fa_45_1 _ _)) ?_
          refine go_nil ?_
          refine go_sop rfl rfl ?_
          refine gr rfl (r_load (ot rfl) (v := .string z21.Val) (lo_e (fun hf kn => ld_cell ag_9 (g31_.ext kn) rfl))) ?_
          refine go_nil ?_
          refine go_sop rfl rfl ?_
          refine gr rfl (r_fa (ot rfl) (fa_45_2 _ _)) ?_
          refine go_nil ?_
          refine go_sop rfl rfl ?_
          refine gr rfl (r_load (ot rfl) (v := .bool z21.Del) (lo_e (fun hf kn => ld_cell ag_4 (g31_.ext kn) rfl))) ?_
          refine go_nil ?_
          refine go_sop rfl rfl ?_
          refine gr rfl (r_build (op1 (ot rfl) (op1 (ot rfl) (op1 (ot rfl) (op1 (ot rfl) op0)))) rfl) ?_
          refine go_nil ?_
          refine go_salloc rfl rfl rfl zo_108 rfl .z ?_
          refine go_sop rfl rfl ?_
          refine gs_store (ot rfl) (ot rfl) sz_108 rfl rfl rfl rfl rfl .z ?_
          refine go_nil ?_
          refine go_snil ?_
          refine go_seq ?_
          refine go_seq ?_
          refine go_region ?_
          refine gr rfl (r_fa (ot rfl) (fa_45_2 _ _)) ?_
          refine gr rfl (r_load (ot rfl) (v := .bool z21.Del) (lo_e (fun hf kn => ld_cell ag_4 (g31_.ext kn) rfl))) ?_
          refine go_nil ?_
          replace hF := obind hF
          obtain ⟨s35, hF, hK35⟩ := hF
          refine go_joinc (β := Unit) (fun s h' => True) (fun s => [(0, true, .pointer (some ⟨bp0, 0, none⟩)), (1, true, .slice a1_0 p1.length c1_0), (4, true, .slice none 0 0), (5, true, .slice a21_0 y21_0.length y21_0.length), (6, true, .int .i64 (i21 : Int)), (7, true, .pointer (some ⟨b7_26, 0, none⟩)), (8, true, .func (.func 61) #[] #[.pointer (some ⟨b7_26, 0, none⟩)]), (9, true, .pointer (some ⟨b9_27, 0, none⟩)), (10, true, .bool x28.2), (11, true, .pointer (some ⟨b11_33, 0, none⟩)), (16, true, .slice a1_0 p1.length c1_0), (17, true, .int .i64 (p1.length : Int)), (18, true, .int .i64 (i21 : Int)), (19, true, .bool true), (20, true, .int .i64 (i21 : Int)), (21, true, .pointer (some q25)), (22, true, .agg #[.string z21.Key, .string z21.Val, .bool z21.Del]), (23, true, .func (.func 61) #[] #[.pointer (some ⟨b7_26, 0, none⟩)]), (24, true, .tuple #[.agg #[.int .i64 x28.1.Rev, .string x28.1.Key, .string x28.1.Val, .bool x28.1.Del], .bool x28.2]), (25, true, .pointer (some ⟨bp0, 0, none⟩)), (26, true, .pointer (some ⟨b7_26, 0, none⟩)), (27, true, .string z21.Key), (28, true, .pointer (some ⟨bp0, 0, none⟩)), (29, true, .pointer (some ⟨bp0, 0, none⟩)), (30, true, .pointer (some ⟨bp0, 0, none⟩)), (31, true, .pointer (some ⟨bp0, 0, none⟩)), (32, true, .int .i64 p0.bounds_rev), (33, true, .tuple #[.agg #[.int .i64 x28.1.Rev, .string x28.1.Key, .string x28.1.Val, .bool x28.1.Del], .bool x28.2]), (34, true, .agg #[.int .i64 x28.1.Rev, .string x28.1.Key, .string x28.1.Val, .bool x28.1.Del]), (35, true, .bool x28.2), (36, true, .slice a1_0 p1.length c1_0), (37, true, .int .i64 (i21 : Int)), (38, true, .int .i64 (IntKind.i64.wrap ((i21 : Int) + 1))), (39, true, .slice a29_ x29.length c29_), (40, true, .func (.func 61) #[] #[.pointer (some ⟨b7_26, 0, none⟩)]), (41, true, .bool x30), (42, true, .bool x30), (49, true, .bool (bif x30 then true else (bif z21.Del then (!x28.2) else false))), (50, true, .pointer (some ⟨bp0, 0, none⟩)), (51, true, .pointer (some ⟨bp0, 0, none⟩)), (52, true, .pointer (some ⟨bp0, 0, none⟩)), (53, true, .pointer (some ⟨bp0, 0, none⟩)), (54, true, .int .i64 p0.bounds_rev), (55, true, .int .i64 (IntKind.i64.wrap (p0.bounds_rev + 1))), (56, true, .pointer (some ⟨b7_26, 0, none⟩)), (57, true, .string z21.Key), (58, true, .pointer (some ⟨b7_26, 1, none⟩)), (59, true, .string z21.Val), (60, true, .pointer (some ⟨b7_26, 2, none⟩)), (61, true, .bool z21.Del), (62, true, .agg #[.int .i64 (IntKind.i64.wrap (p0.bounds_rev + 1)), .string z21.Key, .string z21.Val, .bool z21.Del]), (63, true, .pointer (some ⟨b7_26, 2, none⟩)), (64, true, .bool z21.Del)]) (fun s => (List.flatten [[⟨b11_33, .cells [.int .i64 (IntKind.i64.wrap (p0.bounds_rev + 1)), .string z21.Key, .string s35, .bool z21.Del] 108⟩], [⟨bp0, .cells [.int .i64 p0.bounds_rev, .int .i64 p0.bounds_hor, .map (some bp0m2), .slice q0_3 p0.rows.length p0.rows.length] 100⟩], [⟨bp0m2, .map (encM kS id rw0_2)⟩], [⟨b9_27, .cells [.int .i64 x28.1.Rev, .string x28.1.Key, .string x28.1.Val, .bool x28.1.Del] 108⟩], a21_1, t0_3] : List Blk)) ?_ (fun J35 => ?_)
          ·
            rintro _ h35 e35 w35 _
            replace hF := hK35
            refine go_region ?_
            refine gM rfl rfl ?_
            refine gr rfl (r_load (ot rfl) (lm_w (mem_seg 0 rfl) ag_108 sz_108 rfl)) ?_
            refine gs_bslice (cs := [.int .i64 (IntKind.i64.wrap (p0.bounds_rev + 1)), .string z21.Key, .string s35, .bool z21.Del]) rfl (op1 (ot rfl) op0) ut_50 sz_108 zo_108 rfl rfl ?_; intro b68_36
            replace hF := obind hF
            obtain ⟨x37, hx37, hF⟩ := hF
            obtain ⟨hr37, hz37_⟩ := appL_some hx37; subst x37
            refine gs_front (.s (.s (.s (.s (.s (.z)))))) ?_
            refine gs_app (rows2 := [[.int .i64 (IntKind.i64.wrap (p0.bounds_rev + 1)), .string z21.Key, .string s35, .bool z21.Del]]) (R := R_TEvent) rfl (os1 (ot rfl) (os1 (ot rfl) os0)) rfl ut_50 sz_108 rfl (by decide) by_108 zo_108 rfl zs_50_50 rfl rfl (first_m (mem_seg 1 rfl) rfl (by decide)) (Rws.one (x := (⟨(IntKind.i64.wrap (p0.bounds_rev + 1)), z21.Key, s35, z21.Del⟩ : TEvent)) rfl) (((f21_0.ext e28.kn).ext e31.kn).ext e35.kn) hr37 (fun p37_ tl37 f37_ => ?_)
            refine gA rfl rfl ?_
            refine go_nil ?_
            refine go_endb ?_
            obtain rfl := someI hF
            refine gs_sub (.cons_cons _ (.cons _ (.cons _ (.cons_cons _ (.cons_cons _ (.cons _ (.cons_cons _ (.refl _)))))))) ?_
            exact Goes.weak (J24 (p37_, tl37, a29_, c29_) _ (e28.trans (e31.trans e35)) w35 ⟨f37_, ((f29_.ext e31.kn).ext e35.kn)⟩) (Sub.cons (Sub.cons (Sub.cons (Sub.cons (Sub.cons (Sub.cons (Sub.cons (Sub.cons (Sub.cons (Sub.cons (Sub.cons (Sub.cons (Sub.cons (Sub.cons (Sub.cons (Sub.cons (Sub.cons (Sub.cons (Sub.cons (Sub.cons (Sub.cons (Sub.cons (Sub.cons (Sub.cons (Sub.cons (Sub.nil _) rfl) rfl) rfl) rfl) rfl) rfl) rfl) rfl) rfl) rfl) rfl) rfl) rfl) rfl) rfl) rfl) rfl) rfl) rfl) rfl) rfl) rfl) rfl) rfl) rfl)
          ·
            refine g_cond (b := z21.Del) (ot rfl) (fun hc34 => ?_) (fun hc34 => ?_)
            ·
              replace hF := ifT hc34 hF
              refine go_region ?_
              refine gr rfl (r_fa (ot rfl) (fa_108_2 _ _)) ?_
              refine gs_store (ot rfl) (oc rfl) sz_9 rfl rfl rfl rfl rfl .z ?_
              refine go_nil ?_
              obtain rfl := someI hF
              exact Goes.weak (J35 () _ (HExt.refl _) w31 trivial) (Sub.cons (Sub.cons (Sub.cons (Sub.cons (Sub.cons (Sub.cons (Sub.cons (Sub.cons (Sub.cons (Sub.cons (Sub.cons (Sub.cons (Sub.cons (Sub.cons (Sub.cons (Sub.cons (Sub.cons (Sub.cons (Sub.cons (Sub.cons (Sub.cons (Sub.cons (Sub.cons (Sub.cons (Sub.cons (Sub.cons (Sub.cons (Sub.cons (Sub.cons (Sub.cons (Sub.cons (Sub.cons (Sub.cons (Sub.cons (Sub.cons (Sub.cons (Sub.cons (Sub.cons (Sub.cons (Sub.cons (Sub.cons (Sub.cons (Sub.cons (Sub.cons (Sub.cons (Sub.cons (Sub.cons (Sub.cons (Sub.cons (Sub.cons (Sub.cons (Sub.cons (Sub.cons (Sub.nil _) rfl) rfl) rfl) rfl) rfl) rfl) rfl) rfl) rfl) rfl) rfl) rfl) rfl) rfl) rfl) rfl) rfl) rfl) rfl) rfl) rfl) rfl) rfl) rfl) rfl) rfl) rfl) rfl) rfl) rfl) rfl) rfl) rfl) rfl) rfl) rfl) rfl) rfl) rfl) rfl) rfl) rfl) rfl) rfl) rfl) rfl) rfl) rfl) rfl) rfl) rfl) rfl) rfl)
            ·
              replace hF := ifF hc34 hF
              refine go_skip ?_
              obtain rfl := someI hF
              exact Goes.weak (J35 () _ (HExt.refl _) w31 trivial) (Sub.cons (Sub.cons (Sub.cons (Sub.cons (Sub.cons (Sub.cons (Sub.cons (Sub.cons (Sub.cons (Sub.cons (Sub.cons (Sub.cons (Sub.cons (Sub.cons (Sub.cons (Sub.cons (Sub.cons (Sub.cons (Sub.cons (Sub.cons (Sub.cons (Sub.cons (Sub.cons (Sub.cons (Sub.cons (Sub.cons (Sub.cons (Sub.cons (Sub.cons (Sub.cons (Sub.cons (Sub.cons (Sub.cons (Sub.cons (Sub.cons (Sub.cons (Sub.cons (Sub.cons (Sub.cons (Sub.cons (Sub.cons (Sub.cons (Sub.cons (Sub.cons (Sub.cons (Sub.cons (Sub.cons (Sub.cons (Sub.cons (Sub.cons (Sub.cons (Sub.cons (Sub.cons (Sub.nil _) rfl) rfl) rfl) rfl) rfl) rfl) rfl) rfl) rfl) rfl) rfl) rfl) rfl) rfl) rfl) rfl) rfl) rfl) rfl) rfl) rfl) rfl) rfl) rfl) rfl) rfl) rfl) rfl) rfl) rfl) rfl) rfl) rfl) rfl) rfl) rfl) rfl) rfl) rfl) rfl) rfl) rfl) rfl) rfl) rfl) rfl) rfl) rfl) rfl) rfl) rfl) rfl) rfl)
theorem s_hist_bounds_late {h : Heap} (hw : Wf h) (p0 : Ohist_Hist) (p1 : Int) {bp0 : Nat} {bp0m2 : Nat} {rw0_2 : List (ByteArray × Value)} {q0_3 : Option Addr} {t0_3 : List Blk} (fm0_2 : MR R_TEvent h rw0_2 p0.keys) (f0_3 : AccR (Rep.sl R_TEvent 50) 50 h t0_3 (.slice q0_3 p0.rows.length p0.rows.length) p0.rows) {r : Bool × Ohist_Hist} (hF : F_hist_bounds_late p0 p1 = some r) :
    EvO EE 52 [.pointer (some ⟨bp0, 0, none⟩), .int .i64 p1] [[⟨bp0, .cells [.int .i64 p0.bounds_rev, .int .i64 p0.bounds_hor, .map (some bp0m2), .slice q0_3 p0.rows.length p0.rows.length] 100⟩], [⟨bp0m2, .map (encM kS id rw0_2)⟩], t0_3] h (fun v S h1 => ∃ rwy0_2 qy0_3 ty0_3, v = .bool r.1 ∧ S = [[⟨bp0, .cells [.int .i64 r.2.bounds_rev, .int .i64 r.2.bounds_hor, .map (some bp0m2), .slice qy0_3 r.2.rows.length r.2.rows.length] 100⟩], [⟨bp0m2, .map (encM kS id rwy0_2)⟩], ty0_3] ∧ MR R_TEvent h1 rwy0_2 r.2.keys ∧ AccR (Rep.sl R_TEvent 50) 50 h1 ty0_3 (.slice qy0_3 r.2.rows.length r.2.rows.length) r.2.rows) := by
  unfold F_hist_bounds_late at hF
  refine evo_of rfl at_52 rfl rfl ?_
  refine go_seq ?_
  refine go_region ?_
  refine gAc rfl rfl ?_
  refine go_nil ?_
  refine go_seq ?_
  refine go_region ?_
  refine gM rfl rfl ?_
  refine gM rfl rfl ?_
  refine gr rfl (r_nilck (ot rfl)) ?_
  refine gr rfl (r_fa (ot rfl) (fa_97_0 _ _)) ?_
  refine gr rfl (r_load (ot rfl) (lm_s (mem_seg 0 rfl) ag_3 rfl)) ?_
  refine gr rfl (r_bin (ot rfl) (ot rfl) rfl) ?_
  refine gA rfl rfl ?_
  refine go_nil ?_
  obtain rfl := someI hF
  exact g_ret (rst rfl rs0) (fun h1 hf hs => ⟨[[⟨bp0, .cells [.int .i64 p0.bounds_rev, .int .i64 p0.bounds_hor, .map (some bp0m2), .slice q0_3 p0.rows.length p0.rows.length] 100⟩], [⟨bp0m2, .map (encM kS id rw0_2)⟩], t0_3], _, hf, (HExt.refl _), hw, hs, (ndb (by intro e; cases e) (ndb (by intro e; cases e) (ndt f0_3 nd0))), ⟨_, _, _, rfl, rfl, fm0_2, f0_3⟩⟩)
theorem s_hist_Hist_Compact {h : Heap} (hw : Wf h) (p0 : Ohist_Hist) (p1 : Int) {bp0 : Nat} {bp0m2 : Nat} {rw0_2 : List (ByteArray × Value)} {q0_3 : Option Addr} {t0_3 : List Blk} (fm0_2 : MR R_TEvent h rw0_2 p0.keys) (f0_3 : AccR (Rep.sl R_TEvent 50) 50 h t0_3 (.slice q0_3 p0.rows.length p0.rows.length) p0.rows) {r : Int × Ohist_Hist} (hF : F_hist_Hist_Compact p0 p1 = some r) :
    EvO EE 24 [.pointer (some ⟨bp0, 0, none⟩), .int .i64 p1] [[⟨bp0, .cells [.int .i64 p0.bounds_rev, .int .i64 p0.bounds_hor, .map (some bp0m2), .slice q0_3 p0.rows.length p0.rows.length] 100⟩], [⟨bp0m2, .map (encM kS id rw0_2)⟩], t0_3] h (fun v S h1 => ∃ rwy0_2 qy0_3 ty0_3, v = .int .i64 r.1 ∧ S = [[⟨bp0, .cells [.int .i64 r.2.bounds_rev, .int .i64 r.2.bounds_hor, .map (some bp0m2), .slice qy0_3 r.2.rows.length r.2.rows.length] 100⟩], [⟨bp0m2, .map (encM kS id rwy0_2)⟩], ty0_3] ∧ MR R_TEvent h1 rwy0_2 r.2.keys ∧ AccR (Rep.sl R_TEvent 50) 50 h1 ty0_3 (.slice qy0_3 r.2.rows.length r.2.rows.length) r.2.rows) := by
  unfold F_hist_Hist_Compact at hF
  refine evo_of rfl at_24 rfl rfl ?_
  refine go_seq ?_
  refine go_region ?_
  refine gAc rfl rfl ?_
  refine go_nil ?_
  refine go_seq ?_
  refine go_block ?_
  refine go_seq ?_
  refine go_region ?_
  refine gM rfl rfl ?_
  refine gr rfl (r_bin (v := .bool false) (ot rfl) (oc rfl) (by first | rfl | kernel_rfl)) ?_
  refine gM rfl rfl ?_
  refine g_do rfl rfl rfl ?_
  refine gM rfl rfl ?_
  refine g_do rfl rfl rfl ?_
  refine gr rfl (r_bin (ot rfl) (oc rfl) rfl) ?_
  refine gr rfl (r_pkF (ot rfl) (ot rfl)) ?_
  refine gA rfl rfl ?_
  refine go_nil ?_
  refine g_cond (b := (decide (p1 < 0))) (ot rfl) (fun hc1 => ?_) (fun hc1 => ?_)
  ·
    replace hF := ifT hc1 hF
    refine go_seq ?_
    refine go_region ?_
    refine gAc rfl rfl ?_
    refine go_nil ?_
    obtain rfl := someI hF
    exact g_ret (rst rfl rs0) (fun h1 hf hs => ⟨[[⟨bp0, .cells [.int .i64 p0.bounds_rev, .int .i64 p0.bounds_hor, .map (some bp0m2), .slice q0_3 p0.rows.length p0.rows.length] 100⟩], [⟨bp0m2, .map (encM kS id rw0_2)⟩], t0_3], _, hf, (HExt.refl _), hw, hs, (ndb (by intro e; cases e) (ndb (by intro e; cases e) (ndt f0_3 nd0))), ⟨_, _, _, rfl, rfl, fm0_2, f0_3⟩⟩)
  ·
    replace hF := ifF hc1 hF
    refine go_seq ?_
    refine go_region ?_
    refine gM rfl rfl ?_
    refine gr rfl (r_nilck (ot rfl)) ?_
    refine gr rfl (r_fa (ot rfl) (fa_100_0 _ _)) ?_
    refine gM rfl rfl ?_
    replace hF := obind hF
    obtain ⟨x2, hx2, hF⟩ := hF
    refine gs_call EE_fr hw (.cons .z (.cons .z (.cons .z .nil))) (fun _ h => by cases h; rfl) of (os1 (ot rfl) (os1 (ot rfl) os0)) hb_52 (by exact s_hist_bounds_late hw p0 p1 fm0_2 f0_3 hx2) ?_
    rintro v2 S2 h2 e2 w2 ⟨rw2_y0_2, q2_y0_3, t2_y0_3, rfl, rfl, f2_0, f2_1⟩
    simp only [List.cons_append, List.nil_append]
    refine gA rfl rfl ?_
    refine go_nil ?_
    refine g_cond (b := x2.1) (ot rfl) (fun hc3 => ?_) (fun hc3 => ?_)
    ·
      replace hF := ifT hc3 hF
      refine go_seq ?_
      refine go_region ?_
      refine gAc rfl rfl ?_
      refine go_nil ?_
      obtain rfl := someI hF
      exact g_ret (rst rfl rs0) (fun h1 hf hs => ⟨[[⟨bp0, .cells [.int .i64 x2.2.bounds_rev, .int .i64 x2.2.bounds_hor, .map (some bp0m2), .slice q2_y0_3 x2.2.rows.length x2.2.rows.length] 100⟩], [⟨bp0m2, .map (encM kS id rw2_y0_2)⟩], t2_y0_3], _, hf, e2, w2, hs, (ndb (by intro e; cases e) (ndb (by intro e; cases e) (ndt f2_1 nd0))), ⟨_, _, _, rfl, rfl, f2_0, f2_1⟩⟩)
    ·
      replace hF := ifF hc3 hF
      refine go_skip ?_
      refine go_endb ?_
      refine go_seq ?_
      refine go_region ?_
      refine gM rfl rfl ?_
      refine gM rfl rfl ?_
      refine gr rfl (r_nilck (ot rfl)) ?_
      refine gr rfl (r_fa (ot rfl) (fa_100_0 _ _)) ?_
      refine gr rfl (r_fa (ot rfl) (fa_97_1 _ _)) ?_
      refine gr rfl (r_load (ot rfl) (lm_s (mem_seg 0 rfl) ag_3 rfl)) ?_
      refine gM rfl rfl ?_
      refine gr rfl (r_max (os1 (ot rfl) (os1 (ot rfl) os0)) rfl) ?_
      refine gr rfl (r_nilck (ot rfl)) ?_
      refine gr rfl (r_fa (ot rfl) (fa_100_0 _ _)) ?_
      refine gr rfl (r_fa (ot rfl) (fa_97_1 _ _)) ?_
      refine gs_store (ot rfl) (ot rfl) sz_3 rfl rfl rfl rfl rfl .z ?_
      refine go_nil ?_
      refine go_seq ?_
      refine go_region ?_
      refine gAc rfl rfl ?_
      refine go_nil ?_
      obtain rfl := someI hF
      exact g_ret (rst rfl rs0) (fun h1 hf hs => ⟨[[⟨bp0, .cells [.int .i64 x2.2.bounds_rev, .int .i64 (if p1 > x2.2.bounds_hor then p1 else x2.2.bounds_hor), .map (some bp0m2), .slice q2_y0_3 x2.2.rows.length x2.2.rows.length] 100⟩], [⟨bp0m2, .map (encM kS id rw2_y0_2)⟩], t2_y0_3], _, hf, e2, w2, hs, (ndb (by intro e; cases e) (ndb (by intro e; cases e) (ndt f2_1 nd0))), ⟨_, _, _, rfl, rfl, f2_0, f2_1⟩⟩)
theorem s_hist_Hist_Rev {h : Heap} (hw : Wf h) (p0 : Ohist_Hist) {bp0 : Nat} {bp0m2 : Nat} {rw0_2 : List (ByteArray × Value)} {q0_3 : Option Addr} {t0_3 : List Blk} (fm0_2 : MR R_TEvent h rw0_2 p0.keys) (f0_3 : AccR (Rep.sl R_TEvent 50) 50 h t0_3 (.slice q0_3 p0.rows.length p0.rows.length) p0.rows) {r : Int × Ohist_Hist} (hF : F_hist_Hist_Rev p0 = some r) :
    EvO EE 17 [.pointer (some ⟨bp0, 0, none⟩)] [[⟨bp0, .cells [.int .i64 p0.bounds_rev, .int .i64 p0.bounds_hor, .map (some bp0m2), .slice q0_3 p0.rows.length p0.rows.length] 100⟩], [⟨bp0m2, .map (encM kS id rw0_2)⟩], t0_3] h (fun v S h1 => ∃ rwy0_2 qy0_3 ty0_3, v = .int .i64 r.1 ∧ S = [[⟨bp0, .cells [.int .i64 r.2.bounds_rev, .int .i64 r.2.bounds_hor, .map (some bp0m2), .slice qy0_3 r.2.rows.length r.2.rows.length] 100⟩], [⟨bp0m2, .map (encM kS id rwy0_2)⟩], ty0_3] ∧ MR R_TEvent h1 rwy0_2 r.2.keys ∧ AccR (Rep.sl R_TEvent 50) 50 h1 ty0_3 (.slice qy0_3 r.2.rows.length r.2.rows.length) r.2.rows) := by
  unfold F_hist_Hist_Rev at hF
  refine evo_of rfl at_17 rfl rfl ?_
  refine go_seq ?_
  refine go_region ?_
  refine gAc rfl rfl ?_
  refine go_nil ?_
  refine go_seq ?_
  refine go_seq ?_
  refine go_region ?_
  refine gM rfl rfl ?_
  refine gr rfl (r_bin (v := .bool false) (ot rfl) (oc rfl) (by first | rfl | kernel_rfl)) ?_
  refine go_nil ?_
  refine g_cond (b := false) (ot rfl) (fun hc1 => ?_) (fun hc1 => ?_)
  · cases hc1
  refine go_skip ?_
  refine go_seq ?_
  refine go_region ?_
  refine gM rfl rfl ?_
  refine gr rfl (r_nilck (ot rfl)) ?_
  refine gr rfl (r_fa (ot rfl) (fa_100_0 _ _)) ?_
  refine gr rfl (r_fa (ot rfl) (fa_97_0 _ _)) ?_
  refine gr rfl (r_load (ot rfl) (lm_s (mem_seg 0 rfl) ag_3 rfl)) ?_
  refine gA rfl rfl ?_
  refine go_nil ?_
  obtain rfl := someI hF
  exact g_ret (rst rfl rs0) (fun h1 hf hs => ⟨[[⟨bp0, .cells [.int .i64 p0.bounds_rev, .int .i64 p0.bounds_hor, .map (some bp0m2), .slice q0_3 p0.rows.length p0.rows.length] 100⟩], [⟨bp0m2, .map (encM kS id rw0_2)⟩], t0_3], _, hf, (HExt.refl _), hw, hs, (ndb (by intro e; cases e) (ndb (by intro e; cases e) (ndt f0_3 nd0))), ⟨_, _, _, rfl, rfl, fm0_2, f0_3⟩⟩)
theorem s_hist_bounds_old {h : Heap} (hw : Wf h) (p0 : Ohist_Hist) (p1 : Int) {bp0 : Nat} {bp0m2 : Nat} {rw0_2 : List (ByteArray × Value)} {q0_3 : Option Addr} {t0_3 : List Blk} (fm0_2 : MR R_TEvent h rw0_2 p0.keys) (f0_3 : AccR (Rep.sl R_TEvent 50) 50 h t0_3 (.slice q0_3 p0.rows.length p0.rows.length) p0.rows) {r : Bool × Ohist_Hist} (hF : F_hist_bounds_old p0 p1 = some r) :
    EvO EE 51 [.pointer (some ⟨bp0, 0, none⟩), .int .i64 p1] [[⟨bp0, .cells [.int .i64 p0.bounds_rev, .int .i64 p0.bounds_hor, .map (some bp0m2), .slice q0_3 p0.rows.length p0.rows.length] 100⟩], [⟨bp0m2, .map (encM kS id rw0_2)⟩], t0_3] h (fun v S h1 => ∃ rwy0_2 qy0_3 ty0_3, v = .bool r.1 ∧ S = [[⟨bp0, .cells [.int .i64 r.2.bounds_rev, .int .i64 r.2.bounds_hor, .map (some bp0m2), .slice qy0_3 r.2.rows.length r.2.rows.length] 100⟩], [⟨bp0m2, .map (encM kS id rwy0_2)⟩], ty0_3] ∧ MR R_TEvent h1 rwy0_2 r.2.keys ∧ AccR (Rep.sl R_TEvent 50) 50 h1 ty0_3 (.slice qy0_3 r.2.rows.length r.2.rows.length) r.2.rows) := by
  unfold F_hist_bounds_old at hF
  refine evo_of rfl at_51 rfl rfl ?_
  refine go_seq ?_
  refine go_region ?_
  refine gAc rfl rfl ?_
  refine go_nil ?_
  refine go_seq ?_
  refine go_region ?_
  refine gM rfl rfl ?_
  refine gM rfl rfl ?_
  refine gr rfl (r_nilck (ot rfl)) ?_
  refine gr rfl (r_fa (ot rfl) (fa_97_1 _ _)) ?_
  refine gr rfl (r_load (ot rfl) (lm_s (mem_seg 0 rfl) ag_3 rfl)) ?_
  refine gr rfl (r_bin (ot rfl) (ot rfl) rfl) ?_
  refine gA rfl rfl ?_
  refine go_nil ?_
  obtain rfl := someI hF
  exact g_ret (rst rfl rs0) (fun h1 hf hs => ⟨[[⟨bp0, .cells [.int .i64 p0.bounds_rev, .int .i64 p0.bounds_hor, .map (some bp0m2), .slice q0_3 p0.rows.length p0.rows.length] 100⟩], [⟨bp0m2, .map (encM kS id rw0_2)⟩], t0_3], _, hf, (HExt.refl _), hw, hs, (ndb (by intro e; cases e) (ndb (by intro e; cases e) (ndt f0_3 nd0))), ⟨_, _, _, rfl, rfl, fm0_2, f0_3⟩⟩)
theorem s_hist_Hist_At (n : Nat) {h : Heap} (hw : Wf h) (p0 : Ohist_Hist) (p1 : Int) (p2 : TRange) {bp0 : Nat} {bp0m2 : Nat} {rw0_2 : List (ByteArray × Value)} {q0_3 : Option Addr} {t0_3 : List Blk} (fm0_2 : MR R_TEvent h rw0_2 p0.keys) (f0_3 : AccR (Rep.sl R_TEvent 50) 50 h t0_3 (.slice q0_3 p0.rows.length p0.rows.length) p0.rows) {r : (List TKV) × Int × Ohist_Hist} (hF : F_hist_Hist_At n p0 p1 p2 = some r) :
    EvO EE 18 [.pointer (some ⟨bp0, 0, none⟩), .int .i64 p1, .agg #[.string p2.From, .string p2.To]] [[⟨bp0, .cells [.int .i64 p0.bounds_rev, .int .i64 p0.bounds_hor, .map (some bp0m2), .slice q0_3 p0.rows.length p0.rows.length] 100⟩], [⟨bp0m2, .map (encM kS id rw0_2)⟩], t0_3] h (fun v S h1 => ∃ rwy0_2 qy0_3 ty0_3 a0 c0, v = .tuple #[.slice a0 r.1.length c0, .int .i64 r.2.1] ∧ S = [[⟨bp0, .cells [.int .i64 r.2.2.bounds_rev, .int .i64 r.2.2.bounds_hor, .map (some bp0m2), .slice qy0_3 r.2.2.rows.length r.2.2.rows.length] 100⟩], [⟨bp0m2, .map (encM kS id rwy0_2)⟩], ty0_3] ∧ MR R_TEvent h1 rwy0_2 r.2.2.keys ∧ AccR (Rep.sl R_TEvent 50) 50 h1 ty0_3 (.slice qy0_3 r.2.2.rows.length r.2.2.rows.length) r.2.2.rows ∧ RL R_TKV h1 a0 c0 r.1) := by
  unfold F_hist_Hist_At at hF
  refine evo_of rfl at_18 rfl rfl ?_
  refine go_seq ?_
  refine go_region ?_
  refine gs_box rfl (ot rfl) rfl ?_; intro b5_1
  refine gAc rfl rfl ?_
  refine gAc rfl rfl ?_
  refine go_nil ?_
  refine go_seq ?_
  refine go_block ?_
  refine go_seq ?_
  refine go_region ?_
  refine gM rfl rfl ?_
  refine gr rfl (r_bin (v := .bool false) (ot rfl) (oc rfl) (by first | rfl | kernel_rfl)) ?_
  refine gA rfl rfl ?_
  refine go_nil ?_
  refine g_cond (b := false) (ot rfl) (fun hc2 => ?_) (fun hc2 => ?_)
  · cases hc2
  refine go_seq ?_
  refine go_region ?_
  refine gM rfl rfl ?_
  refine gr rfl (r_nilck (ot rfl)) ?_
  refine gr rfl (r_fa (ot rfl) (fa_100_0 _ _)) ?_
  refine gM rfl rfl ?_
  replace hF := obind hF
  obtain ⟨x3, hx3, hF⟩ := hF
  refine gs_call EE_fr hw (.cons (.s (.z)) (.cons (.s (.z)) (.cons (.s (.z)) .nil))) (fun _ h => by cases h; rfl) of (os1 (ot rfl) (os1 (ot rfl) os0)) hb_51 (by exact s_hist_bounds_old hw p0 p1 fm0_2 f0_3 hx3) ?_
  rintro v3 S3 h3 e3 w3 ⟨rw3_y0_2, q3_y0_3, t3_y0_3, rfl, rfl, f3_0, f3_1⟩
  simp only [List.cons_append, List.nil_append]
  refine gA rfl rfl ?_
  refine go_nil ?_
  refine g_cond (b := x3.1) (ot rfl) (fun hc4 => ?_) (fun hc4 => ?_)
  ·
    replace hF := ifT hc4 hF
    refine go_seq ?_
    refine go_region ?_
    refine gAc rfl rfl ?_
    refine gAc rfl rfl ?_
    refine go_nil ?_
    obtain rfl := someI hF
    refine gs_sub (.cons_cons _ (.cons_cons _ (.cons_cons _ (.cons _ (.refl _))))) ?_
    exact g_ret (rst rfl (rst rfl rs0)) (fun h1 hf hs => ⟨[[⟨bp0, .cells [.int .i64 x3.2.bounds_rev, .int .i64 x3.2.bounds_hor, .map (some bp0m2), .slice q3_y0_3 x3.2.rows.length x3.2.rows.length] 100⟩], [⟨bp0m2, .map (encM kS id rw3_y0_2)⟩], t3_y0_3], _, hf, e3, w3, hs, (ndb (by intro e; cases e) (ndb (by intro e; cases e) (ndt f3_1 nd0))), ⟨_, _, _, _, _, rfl, rfl, f3_0, f3_1, (RL.nil _ _ _)⟩⟩)
  ·
    replace hF := ifF hc4 hF
    refine go_seq ?_
    refine go_region ?_
    refine gM rfl rfl ?_
    refine gr rfl (r_nilck (ot rfl)) ?_
    refine gr rfl (r_fa (ot rfl) (fa_100_0 _ _)) ?_
    refine gM rfl rfl ?_
    replace hF := obind hF
    obtain ⟨x5, hx5, hF⟩ := hF
    refine gs_call EE_fr w3 (.cons .z (.cons .z (.cons .z .nil))) (fun _ h => by cases h; rfl) of (os1 (ot rfl) (os1 (ot rfl) os0)) hb_52 (by exact s_hist_bounds_late w3 (⟨x3.2.bounds_rev, x3.2.bounds_hor, x3.2.keys, x3.2.rows⟩ : Ohist_Hist) p1 f3_0 f3_1 hx5) ?_
    rintro v5 S5 h5 e5 w5 ⟨rw5_y0_2, q5_y0_3, t5_y0_3, rfl, rfl, f5_0, f5_1⟩
    simp only [List.cons_append, List.nil_append]
    refine gA rfl rfl ?_
    refine go_nil ?_
    refine g_cond (b := x5.1) (ot rfl) (fun hc6 => ?_) (fun hc6 => ?_)
    ·
      replace hF := ifT hc6 hF
      refine go_seq ?_
      refine go_region ?_
      refine gAc rfl rfl ?_
      refine gAc rfl rfl ?_
      refine go_nil ?_
      obtain rfl := someI hF
      refine gs_sub (.cons_cons _ (.cons_cons _ (.cons_cons _ (.cons _ (.refl _))))) ?_
      exact g_ret (rst rfl (rst rfl rs0)) (fun h1 hf hs => ⟨[[⟨bp0, .cells [.int .i64 x5.2.bounds_rev, .int .i64 x5.2.bounds_hor, .map (some bp0m2), .slice q5_y0_3 x5.2.rows.length x5.2.rows.length] 100⟩], [⟨bp0m2, .map (encM kS id rw5_y0_2)⟩], t5_y0_3], _, hf, (e3.trans e5), w5, hs, (ndb (by intro e; cases e) (ndb (by intro e; cases e) (ndt f5_1 nd0))), ⟨_, _, _, _, _, rfl, rfl, f5_0, f5_1, (RL.nil _ _ _)⟩⟩)
    ·
      replace hF := ifF hc6 hF
      refine go_skip ?_
      refine go_endb ?_
      refine go_seq ?_
      refine go_region ?_
      refine gAc rfl rfl ?_
      refine go_nil ?_
      refine go_seq ?_
      refine go_seq ?_
      refine go_region ?_
      refine gM rfl rfl ?_
      refine gr rfl (r_nilck (ot rfl)) ?_
      refine gr rfl (r_fa (ot rfl) (fa_100_1 _ _)) ?_
      refine gr rfl (r_load (ot rfl) (lm_s (mem_seg 0 rfl) ag_98 rfl)) ?_
      refine gs_call EE_fr w5 .nil (fun _ h => by cases h; rfl) of (os1 (ot rfl) os0) hb_54 (by exact evo_mkeys_54 w5) ?_
      rintro v7 S7 h7 e7 w7 ⟨bq7, rfl, rfl⟩
      simp only [List.cons_append, List.nil_append]
      replace hF := obind hF
      obtain ⟨x8, hx8, hF⟩ := hF
      refine gs_call EE_fr w7 (.cons .z (.cons (.s (.z)) .nil)) (fun _ h => by cases h; rfl) of (os1 (ot rfl) os0) hb_53 (by exact evo_keys_53 w7 (MR.keys (f5_0.ext e7.kn)) hx8) ?_
      rintro v8 S8 h8 e8 w8 ⟨q8, t8, rfl, rfl, f8_⟩
      simp only [List.cons_append, List.nil_append]
      refine gr rfl (r_len rfl (os1 (ot rfl) os0) (fun _ _ => ln_102)) ?_
      refine gMc rfl rfl ?_
      refine go_nil ?_
      replace hF := obind hF
      obtain ⟨s9, hF, hK9⟩ := hF
      refine go_joinc (β := Option Addr × List Blk) (fun s h' => AccR R_TEvent 108 h' s.2 (.slice s.1 s9.length s9.length) s9) (fun s => [(6, true, .slice none 0 0), (7, true, .int .i64 0), (8, true, .slice s.1 s9.length s9.length)]) (fun s => (List.flatten [s.2, t8, [⟨bp0m2, .map (encM kS id rw5_y0_2)⟩], [⟨bp0, .cells [.int .i64 x5.2.bounds_rev, .int .i64 x5.2.bounds_hor, .map (some bp0m2), .slice q5_y0_3 x5.2.rows.length x5.2.rows.length] 100⟩], t5_y0_3, [⟨b5_1, .cells [.string p2.From, .string p2.To] 33⟩]] : List Blk)) ?_ (fun J9 => ?_)
      ·
        rintro ⟨a9_0, a9_1⟩ h9 e9 w9 f9_0
        replace hF := hK9
        refine go_seq ?_
        refine go_region ?_
        refine gM rfl rfl ?_
        refine gs_accpub .z f9_0 (fun h11 e11 w11 f11_ => ?_) rfl
        replace hF := obind hF
        obtain ⟨x10, hx10, hF⟩ := hF
        refine g_call EE_fr (fun _ h => by cases h; rfl) of (os1 (oc rfl) (os1 (ot rfl) os0)) hb_57 (fun hf kn w => by exact s_event_Fold n w ([] : List TKV) s9 (RL.nil _ _ _) (f11_.ext kn) hx10) ?_
        rintro v10 h10 e10 w10 ⟨a10_0, c10_0, rfl, f10_0⟩
        refine gA rfl rfl ?_
        refine gAc rfl rfl ?_
        refine go_nil ?_
        obtain rfl := someI hF
        refine gs_sub (.cons _ (.cons_cons _ (.cons_cons _ (.cons_cons _ (.cons _ (.refl _)))))) ?_
        refine gs_perm (perm_of (d := []) _ [1, 0, 2] rfl) ?_
        exact g_ret (rst rfl (rst rfl rs0)) (fun h1 hf hs => ⟨[[⟨bp0, .cells [.int .i64 x5.2.bounds_rev, .int .i64 x5.2.bounds_hor, .map (some bp0m2), .slice q5_y0_3 x5.2.rows.length x5.2.rows.length] 100⟩], [⟨bp0m2, .map (encM kS id rw5_y0_2)⟩], t5_y0_3], _, hf, (e3.trans (e5.trans (e7.trans (e8.trans (e9.trans (e11.trans e10)))))), w10, hs, (ndb (by intro e; cases e) (ndb (by intro e; cases e) (ndt (((((f5_1.ext e7.kn).ext e8.kn).ext e9.kn).ext e11.kn).ext e10.kn) nd0))), ⟨_, _, _, _, _, rfl, rfl, (((((f5_0.ext e7.kn).ext e8.kn).ext e9.kn).ext e11.kn).ext e10.kn), (((((f5_1.ext e7.kn).ext e8.kn).ext e9.kn).ext e11.kn).ext e10.kn), f10_0⟩⟩)
      ·
        refine go_block ?_
        refine go_loop (α := (List ByteArray) × Nat × (List TEvent) × Option Addr × List Blk × Heap) (fun a => a.1 = List.drop a.2.1 x8 ∧ HExt h8 a.2.2.2.2.2 ∧ Wf a.2.2.2.2.2 ∧ F_hist_Hist_At_L1 p1 p2 x5 a.1 a.2.1 a.2.2.1 = some s9 ∧ AccR R_TEvent 108 a.2.2.2.2.2 a.2.2.2.2.1 (.slice a.2.2.2.1 a.2.2.1.length a.2.2.1.length) a.2.2.1) (fun a => a.1.length) (fun a => [(0, true, .pointer (some ⟨bp0, 0, none⟩)), (1, true, .int .i64 p1), (5, true, .pointer (some ⟨b5_1, 0, none⟩)), (6, true, .slice none 0 0), (7, true, .int .i64 0), (8, true, .slice a.2.2.2.1 a.2.2.1.length a.2.2.1.length), (33, true, .slice q8 x8.length x8.length), (34, true, .int .i64 (x8.length : Int)), (35, true, .int .i64 (a.2.1 : Int))]) (fun a => (List.flatten [a.2.2.2.2.1, t8, [⟨bp0m2, .map (encM kS id rw5_y0_2)⟩], [⟨bp0, .cells [.int .i64 x5.2.bounds_rev, .int .i64 x5.2.bounds_hor, .map (some bp0m2), .slice q5_y0_3 x5.2.rows.length x5.2.rows.length] 100⟩], t5_y0_3, [⟨b5_1, .cells [.string p2.From, .string p2.To] 33⟩]] : List Blk)) (fun a => a.2.2.2.2.2) ?_ (x8, 0, ([] : List TEvent), none, [], h8) ⟨rfl, HExt.refl _, w8, hF, (AccR.nil _ _ _)⟩ (Sub.cons (Sub.cons (Sub.cons (Sub.cons (Sub.cons (Sub.cons (Sub.cons (Sub.cons (Sub.cons (Sub.nil _) rfl) rfl) rfl) rfl) rfl) rfl) rfl) rfl) rfl) rfl rfl
        rintro ⟨r12, i12, y12_0, a12_0, a12_1, h12⟩ ⟨hr12, e12, w12, hF, f12_0⟩ ih12
        rcases r12 with _ | ⟨z12, r12⟩
        ·
          have hi12 := drop_nil hr12
          rw [F_hist_Hist_At_L1.eq_1] at hF
          refine go_seq ?_
          refine go_region ?_
          refine gr rfl (r_bin (ot rfl) (ot rfl) rfl) ?_
          refine go_cast (.bool false) (congrArg Value.bool (decide_eq_false hi12)) ?_
          refine go_nil ?_
          refine go_seq ?_
          refine g_cond (b := false) (ot rfl) (fun hc13 => ?_) (fun hc13 => ?_)
          · cases hc13
          refine go_exit rfl ?_
          obtain rfl := someI hF
          exact Goes.weak (J9 (a12_0, a12_1) _ e12 w12 f12_0) (Sub.cons (Sub.cons (Sub.cons (Sub.nil _) rfl) rfl) rfl)
        ·
          obtain ⟨hi12, hx12, hr12⟩ := drop_cons hr12
          have hb12 := (f8_.ext e12.kn).1
          rw [F_hist_Hist_At_L1.eq_2] at hF
          refine go_seq ?_
          refine go_region ?_
          refine gr rfl (r_bin (ot rfl) (ot rfl) rfl) ?_
          refine go_cast (.bool true) (congrArg Value.bool (decide_eq_true (Int.ofNat_lt.mpr hi12))) ?_
          refine go_nil ?_
          refine go_seq ?_
          refine g_cond (b := true) (ot rfl) (fun hc14 => ?_) (fun hc14 => ?_)
          rotate_left
          · cases hc14
          refine go_skip ?_
          refine go_seq ?_
          refine go_block ?_
          refine go_seq ?_
          refine go_region ?_
          obtain ⟨bb15, rw15, row15, hp15, ht15, hR15, hw15, rc15, hz15, hi15, hd15, hb15, hl15⟩ := AccR.at_ (f8_.ext e12.kn) ((getI_nat _ _).trans hx12)
          have hF15_ := hF
          subst hp15; subst ht15
          replace hF := hF15_
          obtain rfl := rc15
          refine gr rfl (r_ia (ot rfl) (ot rfl) (ia_acc (k := 1) ut_102 sz_9 hz15 hi15)) ?_
          refine gr rfl (r_load (ot rfl) (lm_s (mem_seg 1 rfl) ag_9 (acc_cell (j := 0) hd15 rfl))) ?_
          refine gA rfl rfl ?_
          refine go_nil ?_
          refine go_seq ?_
          refine go_region ?_
          refine gM rfl rfl ?_
          refine gM rfl rfl ?_
          refine gM rfl rfl ?_
          replace hF := obind hF
          obtain ⟨x16, hx16, hF⟩ := hF
          refine gs_call EE_fr w12 (.cons (.s (.s (.s (.z)))) (.cons (.s (.s (.z))) .nil)) (fun _ h => by cases h; rfl) of (os1 (ot rfl) (os1 (ot rfl) (os1 (ot rfl) os0))) hb_55 (by exact evo_hat_55 w12 (((f5_0.ext e7.kn).ext e8.kn).ext e12.kn) hx16) ?_
          rintro v16 S16 h16 e16 w16 ⟨rfl, rfl⟩
          simp only [List.cons_append, List.nil_append]
          refine gM rfl rfl ?_
          refine gE rfl rfl rfl ?_
          refine gE rfl rfl rfl ?_
          refine gs_alloc rfl zo_108 rfl ?_; intro b11_17
          refine gs_store (ot rfl) (ot rfl) sz_108 rfl rfl rfl rfl rfl .z ?_
          refine gA rfl rfl ?_
          refine go_nil ?_
          refine go_seq ?_
          refine go_region ?_
          refine gM rfl rfl ?_
          refine gM rfl rfl ?_
          replace hF := obind hF
          obtain ⟨s19, hF, hK19⟩ := hF
          refine go_joinr 4 (β := Unit) (fun s h' => True) (fun s => [(0, true, .pointer (some ⟨bp0, 0, none⟩)), (1, true, .int .i64 p1), (5, true, .pointer (some ⟨b5_1, 0, none⟩)), (6, true, .slice none 0 0), (7, true, .int .i64 0), (8, true, .slice a12_0 y12_0.length y12_0.length), (10, true, .string z12), (11, true, .pointer (some ⟨b11_17, 0, none⟩)), (12, true, .bool x16.2), (33, true, .slice (some ⟨bb15, 0, some 0⟩) x8.length x8.length), (34, true, .int .i64 (x8.length : Int)), (35, true, .int .i64 (i12 : Int)), (36, true, .bool true), (37, true, .pointer (some ⟨bb15, (i12 : Int).toNat * 1, none⟩)), (38, true, .string z12), (39, true, .tuple #[.agg #[.int .i64 x16.1.Rev, .string x16.1.Key, .string x16.1.Val, .bool x16.1.Del], .bool x16.2]), (40, true, .pointer (some ⟨bp0, 0, none⟩)), (41, true, .string z12), (42, true, .int .i64 p1), (43, true, .tuple #[.agg #[.int .i64 x16.1.Rev, .string x16.1.Key, .string x16.1.Val, .bool x16.1.Del], .bool x16.2]), (44, true, .agg #[.int .i64 x16.1.Rev, .string x16.1.Key, .string x16.1.Val, .bool x16.1.Del]), (45, true, .bool x16.2), (46, true, .bool x16.2), (47, true, .bool s19.1), (51, true, .bool s19.2)]) (fun s => (List.flatten [[⟨b11_17, .cells [.int .i64 x16.1.Rev, .string x16.1.Key, .string x16.1.Val, .bool x16.1.Del] 108⟩], [⟨bp0, .cells [.int .i64 x5.2.bounds_rev, .int .i64 x5.2.bounds_hor, .map (some bp0m2), .slice q5_y0_3 x5.2.rows.length x5.2.rows.length] 100⟩], [⟨bp0m2, .map (encM kS id rw5_y0_2)⟩], a12_1, [⟨bb15, .cells rw15.flatten 9⟩], t5_y0_3, [⟨b5_1, .cells [.string p2.From, .string p2.To] 33⟩]] : List Blk)) ?_ (fun J19 => ?_)
          ·
            rintro _ h19 e19 w19 _
            replace hF := hK19
            refine go_nil ?_
            refine g_cond (b := s19.2) (ot rfl) (fun hc20 => ?_) (fun hc20 => ?_)
            ·
              replace hF := ifT hc20 hF
              refine go_region ?_
              refine gM rfl rfl ?_
              refine gr rfl (r_load (ot rfl) (lm_w (mem_seg 0 rfl) ag_108 sz_108 rfl)) ?_
              refine gs_bslice (cs := [.int .i64 x16.1.Rev, .string x16.1.Key, .string x16.1.Val, .bool x16.1.Del]) rfl (op1 (ot rfl) op0) ut_50 sz_108 zo_108 rfl rfl ?_; intro b54_21
              replace hF := obind hF
              obtain ⟨x22, hx22, hF⟩ := hF
              obtain ⟨hr22, hz22_⟩ := appL_some hx22; subst x22
              refine gs_front (.s (.s (.s (.s (.z))))) ?_
              refine gs_app (rows2 := [[.int .i64 x16.1.Rev, .string x16.1.Key, .string x16.1.Val, .bool x16.1.Del]]) (R := R_TEvent) rfl (os1 (ot rfl) (os1 (ot rfl) os0)) rfl ut_50 sz_108 rfl (by decide) by_108 zo_108 rfl zs_50_50 rfl rfl (first_m (mem_seg 1 rfl) rfl (by decide)) (Rws.one (x := x16.1) rfl) ((f12_0.ext e16.kn).ext e19.kn) hr22 (fun p22_ tl22 f22_ => ?_)
              refine gA rfl rfl ?_
              refine go_nil ?_
              refine go_endb ?_
              refine go_region ?_
              refine gr rfl (r_bin (ot rfl) (oc rfl) rfl) ?_
              refine gM rfl rfl ?_
              refine go_nil ?_
              refine gs_sub (.cons_cons _ (.cons _ (.cons _ (.cons_cons _ (.cons_cons _ (.cons_cons _ (.cons_cons _ (.cons_cons _ (.refl _))))))))) ?_
              refine gs_perm (perm_of (d := []) _ [0, 3, 2, 1, 4, 5] rfl) ?_
              refine go_re 35 (v2 := .int .i64 ((i12 + 1 : Nat) : Int)) rfl (wrap_succ hi12 hb12) ?_
              exact Goes.weak (ih12 (r12, i12 + 1, (y12_0 ++ ([x16.1] : List TEvent)), p22_, tl22, h19) ⟨hr12, (e12.trans (e16.trans e19)), w19, hF, f22_⟩ (Nat.lt_succ_self _)) (Sub.cons (Sub.cons (Sub.cons (Sub.cons (Sub.cons (Sub.cons (Sub.cons (Sub.cons (Sub.cons (Sub.nil _) rfl) rfl) rfl) rfl) rfl) rfl) rfl) rfl) rfl)
            ·
              replace hF := ifF hc20 hF
              refine go_skip ?_
              refine go_endb ?_
              refine go_region ?_
              refine gr rfl (r_bin (ot rfl) (oc rfl) rfl) ?_
              refine gM rfl rfl ?_
              refine go_nil ?_
              refine gs_sub (.cons _ (.cons_cons _ (.cons_cons _ (.cons_cons _ (.cons_cons _ (.cons_cons _ (.cons_cons _ (.refl _)))))))) ?_
              refine gs_perm (perm_of (d := []) _ [2, 3, 1, 0, 4, 5] rfl) ?_
              refine go_re 35 (v2 := .int .i64 ((i12 + 1 : Nat) : Int)) rfl (wrap_succ hi12 hb12) ?_
              exact Goes.weak (ih12 (r12, i12 + 1, y12_0, a12_0, a12_1, h19) ⟨hr12, (e12.trans (e16.trans e19)), w19, hF, ((f12_0.ext e16.kn).ext e19.kn)⟩ (Nat.lt_succ_self _)) (Sub.cons (Sub.cons (Sub.cons (Sub.cons (Sub.cons (Sub.cons (Sub.cons (Sub.cons (Sub.cons (Sub.nil _) rfl) rfl) rfl) rfl) rfl) rfl) rfl) rfl) rfl)
          ·
            rcases Bool.eq_false_or_eq_true x16.2 with hb18 | hb18
            ·
              replace hF := ifT hb18 hF
              refine go_re 47 (v2 := .bool true) rfl (congrArg Value.bool hb18) ?_
              refine g_do rfl rfl rfl ?_
              refine gr rfl (r_load (ot rfl) (lm_w (mem_seg 6 rfl) ag_33 sz_33 rfl)) ?_
              refine g_do rfl rfl rfl ?_
              refine gM rfl rfl ?_
              refine g_do rfl rfl rfl ?_
              replace hF := obind hF
              obtain ⟨x23, hx23, hF⟩ := hF
              refine g_callp (v := .bool x23) EE_fr rfl of (os1 (ot rfl) (os1 (ot rfl) os0)) hb_56 (fun _ => rfl) (fun hf kn w => by exact s_key_In w p2 z12  hx23) ?_
              refine gr rfl (r_pkT (ot rfl) (ot rfl)) ?_
              obtain rfl := someI hF
              exact Goes.weak (J19 () _ (HExt.refl _) w16 trivial) (Sub.cons (Sub.cons (Sub.cons (Sub.cons (Sub.cons (Sub.cons (Sub.cons (Sub.cons (Sub.cons (Sub.cons (Sub.cons (Sub.cons (Sub.cons (Sub.cons (Sub.cons (Sub.cons (Sub.cons (Sub.cons (Sub.cons (Sub.cons (Sub.cons (Sub.cons (Sub.cons (Sub.cons (Sub.cons (Sub.nil _) rfl) rfl) rfl) rfl) rfl) rfl) rfl) rfl) rfl) rfl) rfl) rfl) rfl) rfl) rfl) rfl) rfl) rfl) rfl) rfl) rfl) rfl) rfl) rfl) rfl)
            ·
              replace hF := ifF hb18 hF
              refine go_re 47 (v2 := .bool false) rfl (congrArg Value.bool hb18) ?_
              refine g_no rfl rfl rfl rfl rfl ?_
              refine g_no rfl rfl rfl rfl rfl ?_
              refine g_no rfl rfl rfl rfl rfl ?_
              refine gr rfl (r_pkF (ot rfl) (oc rfl)) ?_
              obtain rfl := someI hF
              exact Goes.weak (J19 () _ (HExt.refl _) w16 trivial) (Sub.cons (Sub.cons (Sub.cons (Sub.cons (Sub.cons (Sub.cons (Sub.cons (Sub.cons (Sub.cons (Sub.cons (Sub.cons (Sub.cons (Sub.cons (Sub.cons (Sub.cons (Sub.cons (Sub.cons (Sub.cons (Sub.cons (Sub.cons (Sub.cons (Sub.cons (Sub.cons (Sub.cons (Sub.cons (Sub.nil _) rfl) rfl) rfl) rfl) rfl) rfl) rfl) rfl) rfl) rfl) rfl) rfl) rfl) rfl) rfl) rfl) rfl) rfl) rfl) rfl) rfl) rfl) rfl) rfl) rfl)
theorem s_hist_Hist_Hor {h : Heap} (hw : Wf h) (p0 : Ohist_Hist) {bp0 : Nat} {bp0m2 : Nat} {rw0_2 : List (ByteArray × Value)} {q0_3 : Option Addr} {t0_3 : List Blk} (fm0_2 : MR R_TEvent h rw0_2 p0.keys) (f0_3 : AccR (Rep.sl R_TEvent 50) 50 h t0_3 (.slice q0_3 p0.rows.length p0.rows.length) p0.rows) {r : Int × Ohist_Hist} (hF : F_hist_Hist_Hor p0 = some r) :
    EvO EE 20 [.pointer (some ⟨bp0, 0, none⟩)] [[⟨bp0, .cells [.int .i64 p0.bounds_rev, .int .i64 p0.bounds_hor, .map (some bp0m2), .slice q0_3 p0.rows.length p0.rows.length] 100⟩], [⟨bp0m2, .map (encM kS id rw0_2)⟩], t0_3] h (fun v S h1 => ∃ rwy0_2 qy0_3 ty0_3, v = .int .i64 r.1 ∧ S = [[⟨bp0, .cells [.int .i64 r.2.bounds_rev, .int .i64 r.2.bounds_hor, .map (some bp0m2), .slice qy0_3 r.2.rows.length r.2.rows.length] 100⟩], [⟨bp0m2, .map (encM kS id rwy0_2)⟩], ty0_3] ∧ MR R_TEvent h1 rwy0_2 r.2.keys ∧ AccR (Rep.sl R_TEvent 50) 50 h1 ty0_3 (.slice qy0_3 r.2.rows.length r.2.rows.length) r.2.rows) := by
  unfold F_hist_Hist_Hor at hF
  refine evo_of rfl at_20 rfl rfl ?_
  refine go_seq ?_
  refine go_region ?_
  refine gAc rfl rfl ?_
  refine go_nil ?_
  refine go_seq ?_
  refine go_seq ?_
  refine go_region ?_
  refine gM rfl rfl ?_
  refine gr rfl (r_bin (v := .bool false) (ot rfl) (oc rfl) (by first | rfl | kernel_rfl)) ?_
  refine go_nil ?_
  refine g_cond (b := false) (ot rfl) (fun hc1 => ?_) (fun hc1 => ?_)
  · cases hc1
  refine go_skip ?_
  refine go_seq ?_
  refine go_region ?_
  refine gM rfl rfl ?_
  refine gr rfl (r_nilck (ot rfl)) ?_
  refine gr rfl (r_fa (ot rfl) (fa_100_0 _ _)) ?_
  refine gr rfl (r_fa (ot rfl) (fa_97_1 _ _)) ?_
  refine gr rfl (r_load (ot rfl) (lm_s (mem_seg 0 rfl) ag_3 rfl)) ?_
  refine gA rfl rfl ?_
  refine go_nil ?_
  obtain rfl := someI hF
  exact g_ret (rst rfl rs0) (fun h1 hf hs => ⟨[[⟨bp0, .cells [.int .i64 p0.bounds_rev, .int .i64 p0.bounds_hor, .map (some bp0m2), .slice q0_3 p0.rows.length p0.rows.length] 100⟩], [⟨bp0m2, .map (encM kS id rw0_2)⟩], t0_3], _, hf, (HExt.refl _), hw, hs, (ndb (by intro e; cases e) (ndb (by intro e; cases e) (ndt f0_3 nd0))), ⟨_, _, _, rfl, rfl, fm0_2, f0_3⟩⟩)
theorem s_hist_Hist_Copy {h : Heap} (hw : Wf h) (p0 : Ohist_Hist) {bp0 : Nat} {bp0m2 : Nat} {rw0_2 : List (ByteArray × Value)} {q0_3 : Option Addr} {t0_3 : List Blk} (fm0_2 : MR R_TEvent h rw0_2 p0.keys) (f0_3 : AccR (Rep.sl R_TEvent 50) 50 h t0_3 (.slice q0_3 p0.rows.length p0.rows.length) p0.rows) {r : Ohist_Hist × Ohist_Hist} (hF : F_hist_Hist_Copy p0 = some r) :
    EvO EE 25 [.pointer (some ⟨bp0, 0, none⟩)] [[⟨bp0, .cells [.int .i64 p0.bounds_rev, .int .i64 p0.bounds_hor, .map (some bp0m2), .slice q0_3 p0.rows.length p0.rows.length] 100⟩], [⟨bp0m2, .map (encM kS id rw0_2)⟩], t0_3] h (fun v S h1 => ∃ rwy0_2 qy0_3 ty0_3 bw0 bw0m2 rww0_2 qw0_3 tw0_3, v = .pointer (some ⟨bw0, 0, none⟩) ∧ S = [[⟨bp0, .cells [.int .i64 r.2.bounds_rev, .int .i64 r.2.bounds_hor, .map (some bp0m2), .slice qy0_3 r.2.rows.length r.2.rows.length] 100⟩], [⟨bp0m2, .map (encM kS id rwy0_2)⟩], ty0_3, [⟨bw0, .cells [.int .i64 r.1.bounds_rev, .int .i64 r.1.bounds_hor, .map (some bw0m2), .slice qw0_3 r.1.rows.length r.1.rows.length] 100⟩], [⟨bw0m2, .map (encM kS id rww0_2)⟩], tw0_3] ∧ MR R_TEvent h1 rwy0_2 r.2.keys ∧ AccR (Rep.sl R_TEvent 50) 50 h1 ty0_3 (.slice qy0_3 r.2.rows.length r.2.rows.length) r.2.rows ∧ MR R_TEvent h1 rww0_2 r.1.keys ∧ AccR (Rep.sl R_TEvent 50) 50 h1 tw0_3 (.slice qw0_3 r.1.rows.length r.1.rows.length) r.1.rows) := by
  unfold F_hist_Hist_Copy at hF
  refine evo_of rfl at_25 rfl rfl ?_
  refine go_seq ?_
  refine go_region ?_
  refine gAc rfl rfl ?_
  refine go_nil ?_
  refine go_seq ?_
  refine go_seq ?_
  refine go_region ?_
  refine gM rfl rfl ?_
  refine gr rfl (r_bin (v := .bool false) (ot rfl) (oc rfl) (by first | rfl | kernel_rfl)) ?_
  refine go_nil ?_
  refine g_cond (b := false) (ot rfl) (fun hc1 => ?_) (fun hc1 => ?_)
  · cases hc1
  refine go_skip ?_
  refine go_seq ?_
  refine go_regA1 (L := [(0, []), (1, []), (2, []), (3, []), (4, []), (5, []), (6, []), (7, []), (9, []), (10, []), (11, []), (12, []), (8, [3, 12]), (13, [3]), (14, []), (15, []), (16, [])]) (by kernel_rfl) (by kernel_rfl) (fun _ => rfl) ?_; intro b20_2
  refine go_sop rfl rfl ?_
  refine gM rfl rfl ?_
  refine go_nil ?_
  refine go_sop rfl rfl ?_
  refine gr rfl (r_nilck (ot rfl)) ?_
  refine go_nil ?_
  refine go_sop rfl rfl ?_
  refine gr rfl (r_fa (ot rfl) (fa_100_0 _ _)) ?_
  refine go_nil ?_
  refine go_sop rfl rfl ?_
  refine gr rfl (r_load (ot rfl) (lm_a (vs := [_, _]) (mem_seg 1 rfl) ag_97 sz_97 rfl rfl)) ?_
  refine go_nil ?_
  refine go_sop rfl rfl ?_
  refine gM rfl rfl ?_
  refine go_nil ?_
  refine go_sop rfl rfl ?_
  refine gr rfl (r_nilck (ot rfl)) ?_
  refine go_nil ?_
  refine go_sop rfl rfl ?_
  refine gr rfl (r_fa (ot rfl) (fa_100_1 _ _)) ?_
  refine go_nil ?_
  refine go_sop rfl rfl ?_
  refine gr rfl (r_load (ot rfl) (lm_s (mem_seg 1 rfl) ag_98 rfl)) ?_
  refine go_nil ?_
  refine go_sop rfl rfl ?_
  refine gM rfl rfl ?_
  refine go_nil ?_
  refine go_sop rfl rfl ?_
  refine gr rfl (r_nilck (ot rfl)) ?_
  refine go_nil ?_
  refine go_sop rfl rfl ?_
  refine gr rfl (r_fa (ot rfl) (fa_100_2 _ _)) ?_
  refine go_nil ?_
  refine go_sop rfl rfl ?_
  refine gr rfl (r_load (ot rfl) (lm_s (mem_seg 1 rfl) ag_34 rfl)) ?_
  refine go_nil ?_
  refine go_sopc [(3, .agg #[.int .i64 p0.bounds_rev, .int .i64 p0.bounds_hor]), (12, .slice q0_3 p0.rows.length p0.rows.length)] rfl rfl rfl (rc1 rfl (r_load (ot rfl) (lm_a (vs := [_, _]) (mem_seg 1 rfl) ag_97 sz_97 rfl rfl)) (rc1 rfl (r_load (ot rfl) (lm_s (mem_seg 1 rfl) ag_34 rfl)) rc0)) (vq1 (veq_agg _ _ (va1 (veq_int _ _ _) (va1 (veq_int _ _ _) (va0 _)))) (vq1 (veq_sl _ _ _ _) vq0)) rfl ?_
  refine gs_call EE_fr hw (.cons (.s (.s (.z))) .nil) (fun _ h => by cases h; rfl) of (os1 (ot rfl) os0) hb_65 (by exact evo_mclone_65 hw) ?_
  rintro v3 S3 h3 e3 w3 ⟨bq3, rfl, rfl⟩
  simp only [List.cons_append, List.nil_append]
  refine go_nil ?_
  refine go_rck (rc1 rfl (r_load (ot rfl) (lm_a (vs := [_, _]) (mem_seg 3 rfl) ag_97 sz_97 rfl rfl)) (rc1 rfl (r_load (ot rfl) (lm_s (mem_seg 3 rfl) ag_34 rfl)) rc0)) ?_
  refine go_sopc [(3, .agg #[.int .i64 p0.bounds_rev, .int .i64 p0.bounds_hor])] rfl rfl rfl (rc1 rfl (r_load (ot rfl) (lm_a (vs := [_, _]) (mem_seg 3 rfl) ag_97 sz_97 rfl rfl)) rc0) (vq1 (veq_agg _ _ (va1 (veq_int _ _ _) (va1 (veq_int _ _ _) (va0 _)))) vq0) rfl ?_
  replace hF := obind hF
  obtain ⟨x4, hx4, hF⟩ := hF
  refine gs_call EE_fr w3 (.cons (.s (.s (.s (.s (.z))))) .nil) (fun _ h => by cases h; rfl) of (os1 (ot rfl) os0) hb_66 (by exact evo_cloneA_66 w3 (f0_3.ext e3.kn) hx4) ?_
  rintro v4 S4 h4 e4 w4 ⟨q4, t4, rfl, rfl, f4_, fo4_⟩
  simp only [List.cons_append, List.nil_append]
  refine go_nil ?_
  refine go_rck (rc1 rfl (r_load (ot rfl) (lm_a (vs := [_, _]) (mem_seg 5 rfl) ag_97 sz_97 rfl rfl)) rc0) ?_
  refine go_sop rfl rfl ?_
  refine gr rfl (r_build (op1 (ot rfl) (op1 (ot rfl) (op1 (ot rfl) op0))) rfl) ?_
  refine go_nil ?_
  refine go_sbox rfl rfl rfl (ot rfl) rfl (.s (.s (.s (.s (.z))))) ?_
  refine go_sop rfl rfl ?_
  refine gA rfl rfl ?_
  refine go_nil ?_
  refine go_snil ?_
  obtain rfl := someI hF
  refine gs_perm (perm_of (d := []) _ [5, 3, 1, 4, 2, 0] rfl) ?_
  exact g_ret (rst rfl rs0) (fun h1 hf hs => ⟨[[⟨bp0, .cells [.int .i64 p0.bounds_rev, .int .i64 p0.bounds_hor, .map (some bp0m2), .slice q0_3 p0.rows.length p0.rows.length] 100⟩], [⟨bp0m2, .map (encM kS id rw0_2)⟩], t0_3, [⟨b20_2, .cells [.int .i64 p0.bounds_rev, .int .i64 p0.bounds_hor, .map (some bq3), .slice q4 x4.length x4.length] 100⟩], [⟨bq3, .map (encM kS id rw0_2)⟩], t4], _, hf, (e3.trans e4), w4, hs, (ndb (by intro e; cases e) (ndb (by intro e; cases e) (ndt fo4_ (ndb (by intro e; cases e) (ndb (by intro e; cases e) (ndt f4_ nd0)))))), ⟨_, _, _, _, _, _, _, _, rfl, rfl, ((fm0_2.ext e3.kn).ext e4.kn), fo4_, ((fm0_2.ext e3.kn).ext e4.kn), f4_⟩⟩)
theorem s_hist_Hist_At_nil {h : Heap} (hw : Wf h) (p1 : Int) (p2 : TRange)   {r : (List TKV) × Int} (hF : F_hist_Hist_At_nil p1 p2 = some r) :
    Ev EE 18 [.pointer none, .int .i64 p1, .agg #[.string p2.From, .string p2.To]] h (fun v h1 => ∃ a0 c0, v = .tuple #[.slice a0 r.1.length c0, .int .i64 r.2] ∧ RL R_TKV h1 a0 c0 r.1) := by
  unfold F_hist_Hist_At_nil at hF
  refine ev_of hw rfl at_18 rfl rfl (go_seg0 ?_)
  refine go_seq ?_
  refine go_region ?_
  refine gs_box rfl (ot rfl) rfl ?_; intro b5_1
  refine gAc rfl rfl ?_
  refine gAc rfl rfl ?_
  refine go_nil ?_
  refine go_seq ?_
  refine go_block ?_
  refine go_seq ?_
  refine go_region ?_
  refine gM rfl rfl ?_
  refine gr rfl (r_bin (v := .bool true) (ot rfl) (oc rfl) (by first | rfl | kernel_rfl)) ?_
  refine gA rfl rfl ?_
  refine go_nil ?_
  refine g_cond (b := true) (ot rfl) (fun hc2 => ?_) (fun hc2 => ?_)
  rotate_left
  · cases hc2
  refine go_seq ?_
  refine go_region ?_
  refine gAc rfl rfl ?_
  refine gAc rfl rfl ?_
  refine go_nil ?_
  obtain rfl := someI hF
  exact g_ret (rst rfl (rst rfl rs0)) (fun h1 hf hs => ⟨hs.hext, ⟨_, _, rfl, (RL.nil _ _ _)⟩⟩)
theorem s_hist_Hist_Events_nil {h : Heap} (hw : Wf h) (p1 : Int)   {r : (List TEvent) × Int} (hF : F_hist_Hist_Events_nil p1 = some r) :
    Ev EE 26 [.pointer none, .int .i64 p1] h (fun v h1 => ∃ a0 c0, v = .tuple #[.slice a0 r.1.length c0, .int .i64 r.2] ∧ RL R_TEvent h1 a0 c0 r.1) := by
  unfold F_hist_Hist_Events_nil at hF
  refine ev_of hw rfl at_26 rfl rfl (go_seg0 ?_)
  refine go_seq ?_
  refine go_region ?_
  refine gAc rfl rfl ?_
  refine gAc rfl rfl ?_
  refine go_nil ?_
  refine go_seq ?_
  refine go_block ?_
  refine go_seq ?_
  refine go_region ?_
  refine gM rfl rfl ?_
  refine gr rfl (r_bin (v := .bool true) (ot rfl) (oc rfl) (by first | rfl | kernel_rfl)) ?_
  refine gA rfl rfl ?_
  refine go_nil ?_
  refine g_cond (b := true) (ot rfl) (fun hc1 => ?_) (fun hc1 => ?_)
  rotate_left
  · cases hc1
  refine go_seq ?_
  refine go_region ?_
  refine gAc rfl rfl ?_
  refine gAc rfl rfl ?_
  refine go_nil ?_
  obtain rfl := someI hF
  exact g_ret (rst rfl (rst rfl rs0)) (fun h1 hf hs => ⟨hs.hext, ⟨_, _, rfl, (RL.nil _ _ _)⟩⟩)
theorem s_hist_Hist_Compact_nil {h : Heap} (hw : Wf h) (p1 : Int)   {r : Int} (hF : F_hist_Hist_Compact_nil p1 = some r) :
    Ev EE 24 [.pointer none, .int .i64 p1] h (fun v _ => v = .int .i64 r) := by
  unfold F_hist_Hist_Compact_nil at hF
  refine ev_of hw rfl at_24 rfl rfl (go_seg0 ?_)
  refine go_seq ?_
  refine go_region ?_
  refine gAc rfl rfl ?_
  refine go_nil ?_
  refine go_seq ?_
  refine go_block ?_
  refine go_seq ?_
  refine go_region ?_
  refine gM rfl rfl ?_
  refine gr rfl (r_bin (v := .bool true) (ot rfl) (oc rfl) (by first | rfl | kernel_rfl)) ?_
  refine gM rfl rfl ?_
  refine g_no rfl rfl rfl rfl rfl ?_
  refine g_no rfl rfl rfl rfl rfl ?_
  refine gr rfl (r_pkT (ot rfl) (oc rfl)) ?_
  refine gA rfl rfl ?_
  refine go_nil ?_
  refine g_cond (b := true) (ot rfl) (fun hc1 => ?_) (fun hc1 => ?_)
  rotate_left
  · cases hc1
  refine go_seq ?_
  refine go_region ?_
  refine gAc rfl rfl ?_
  refine go_nil ?_
  obtain rfl := someI hF
  exact g_ret (rst rfl rs0) (fun h1 hf hs => ⟨hs.hext, rfl⟩)
theorem s_hist_Hist_Apply_nil {h : Heap} (hw : Wf h) (p1 : (List TOp)) {a1_0 : Option Addr} {c1_0 : Nat} (f1_0 : RL R_TOp h a1_0 c1_0 p1) {r : (List TEvent)} (hF : F_hist_Hist_Apply_nil p1 = some r) :
    Ev EE 23 [.pointer none, .slice a1_0 p1.length c1_0] h (fun v h1 => ∃ a0 c0, v = .slice a0 r.length c0 ∧ RL R_TEvent h1 a0 c0 r) := by
  unfold F_hist_Hist_Apply_nil at hF
  refine ev_of hw rfl at_23 rfl rfl (go_seg0 ?_)
  refine go_seq ?_
  refine go_region ?_
  refine gAc rfl rfl ?_
  refine go_nil ?_
  refine go_seq ?_
  refine go_seq ?_
  refine go_region ?_
  refine gM rfl rfl ?_
  refine gr rfl (r_bin (v := .bool true) (ot rfl) (oc rfl) (by first | rfl | kernel_rfl)) ?_
  refine go_nil ?_
  refine g_cond (b := true) (ot rfl) (fun hc1 => ?_) (fun hc1 => ?_)
  rotate_left
  · cases hc1
  refine go_seq ?_
  refine go_region ?_
  refine gAc rfl rfl ?_
  refine go_nil ?_
  obtain rfl := someI hF
  exact g_ret (rst rfl rs0) (fun h1 hf hs => ⟨hs.hext, ⟨_, _, rfl, (RL.nil _ _ _)⟩⟩)
theorem s_hist_Hist_Copy_nil {h : Heap} (hw : Wf h)    {r : Unit} (hF : F_hist_Hist_Copy_nil  = some r) :
    Ev EE 25 [.pointer none] h (fun v _ => v = .pointer none) := by
  unfold F_hist_Hist_Copy_nil at hF
  refine ev_of hw rfl at_25 rfl rfl (go_seg0 ?_)
  refine go_seq ?_
  refine go_region ?_
  refine gAc rfl rfl ?_
  refine go_nil ?_
  refine go_seq ?_
  refine go_seq ?_
  refine go_region ?_
  refine gM rfl rfl ?_
  refine gr rfl (r_bin (v := .bool true) (ot rfl) (oc rfl) (by first | rfl | kernel_rfl)) ?_
  refine go_nil ?_
  refine g_cond (b := true) (ot rfl) (fun hc1 => ?_) (fun hc1 => ?_)
  rotate_left
  · cases hc1
  refine go_seq ?_
  refine go_region ?_
  refine gAc rfl rfl ?_
  refine go_nil ?_
  obtain rfl := someI hF
  exact g_ret (rst rfl rs0) (fun h1 hf hs => ⟨hs.hext, rfl⟩)
theorem s_hist_Hist_Rev_nil {h : Heap} (hw : Wf h)    {r : Int} (hF : F_hist_Hist_Rev_nil  = some r) :
    Ev EE 17 [.pointer none] h (fun v _ => v = .int .i64 r) := by
  unfold F_hist_Hist_Rev_nil at hF
  refine ev_of hw rfl at_17 rfl rfl (go_seg0 ?_)
  refine go_seq ?_
  refine go_region ?_
  refine gAc rfl rfl ?_
  refine go_nil ?_
  refine go_seq ?_
  refine go_seq ?_
  refine go_region ?_
  refine gM rfl rfl ?_
  refine gr rfl (r_bin (v := .bool true) (ot rfl) (oc rfl) (by first | rfl | kernel_rfl)) ?_
  refine go_nil ?_
  refine g_cond (b := true) (ot rfl) (fun hc1 => ?_) (fun hc1 => ?_)
  rotate_left
  · cases hc1
  refine go_seq ?_
  refine go_region ?_
  refine gAc rfl rfl ?_
  refine go_nil ?_
  obtain rfl := someI hF
  exact g_ret (rst rfl rs0) (fun h1 hf hs => ⟨hs.hext, rfl⟩)
theorem s_hist_Hist_Hor_nil {h : Heap} (hw : Wf h)    {r : Int} (hF : F_hist_Hist_Hor_nil  = some r) :
    Ev EE 20 [.pointer none] h (fun v _ => v = .int .i64 r) := by
  unfold F_hist_Hist_Hor_nil at hF
  refine ev_of hw rfl at_20 rfl rfl (go_seg0 ?_)
  refine go_seq ?_
  refine go_region ?_
  refine gAc rfl rfl ?_
  refine go_nil ?_
  refine go_seq ?_
  refine go_seq ?_
  refine go_region ?_
  refine gM rfl rfl ?_
  refine gr rfl (r_bin (v := .bool true) (ot rfl) (oc rfl) (by first | rfl | kernel_rfl)) ?_
  refine go_nil ?_
  refine g_cond (b := true) (ot rfl) (fun hc1 => ?_) (fun hc1 => ?_)
  rotate_left
  · cases hc1
  refine go_seq ?_
  refine go_region ?_
  refine gAc rfl rfl ?_
  refine go_nil ?_
  obtain rfl := someI hF
  exact g_ret (rst rfl rs0) (fun h1 hf hs => ⟨hs.hext, rfl⟩)
end Go.Proofs.Ytpfdandpmpmbiaa.V
