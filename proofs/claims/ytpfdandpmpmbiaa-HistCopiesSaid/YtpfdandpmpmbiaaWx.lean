/- Walks.
   No condition: these are laws of the clean machine and of this program. -/
import Derived.Test.YtpfdandpmpmbiaaPT
import Derived.Test.YtpfdandpmpmbiaaWs
import Derived.Test.YtpfdandpmpmbiaaWr
import Derived.Test.YtpfdandpmpmbiaaWo
namespace Go.Proofs.Ytpfdandpmpmbiaa.V
open Go
set_option linter.unusedVariables false
set_option linter.unusedSimpArgs false
set_option maxRecDepth 100000
set_option maxHeartbeats 4000000
theorem s_law06_few {h : Heap} (hw : Wf h) (p0 : (List Timpostlaw06_Deed)) {a0_0 : Option Addr} {c0_0 : Nat} (f0_0 : RL R_Timpostlaw06_Deed h a0_0 c0_0 p0) {r : Bool} (hF : F_law06_few p0 = some r) :
    Ev EE 15 [.slice a0_0 p0.length c0_0] h (fun v _ => v = .bool r) := by
  unfold F_law06_few at hF
  refine ev_of hw rfl at_15 rfl rfl (go_seg0 ?_)
  refine go_seq ?_
  refine go_region ?_
  refine gAc rfl rfl ?_
  refine go_nil ?_
  refine go_seq ?_
  refine go_seq ?_
  refine go_region ?_
  refine gAc rfl rfl ?_
  refine go_nil ?_
  replace hF := obind hF
  obtain ⟨s1, hF, hK1⟩ := hF
  refine go_joinc (β := (Unit)) (fun s h' => s1 = .go s) (fun s => [(0, true, .slice a0_0 p0.length c0_0), (2, true, .bool false)]) (fun s => (List.flatten [] : List Blk)) ?_ (fun J1 => ?_)
  ·
    rintro _ h1 e1 w1 hs1
    subst hs1
    replace hF := lpgo hK1
    refine go_seq ?_
    refine go_region ?_
    refine gM rfl rfl ?_
    refine gr rfl (r_len rfl (os1 (ot rfl) os0) (fun _ _ => ln_22)) ?_
    refine gr rfl (r_bin (ot rfl) (oc rfl) rfl) ?_
    refine gA rfl rfl ?_
    refine go_nil ?_
    obtain rfl := someI hF
    exact g_ret (rst rfl rs0) (fun h1 hf hs => ⟨(e1.trans hs.hext), rfl⟩)
  ·
    refine go_block ?_
    refine go_loop (α := (List Timpostlaw06_Deed) × Nat × Heap) (fun a => a.1 = List.drop a.2.1 p0 ∧ HExt h a.2.2 ∧ Wf a.2.2 ∧ F_law06_few_L1 a.1 a.2.1 = some s1) (fun a => a.1.length) (fun a => [(0, true, .slice a0_0 p0.length c0_0), (2, true, .bool false), (3, true, .int .i64 (a.2.1 : Int))]) (fun a => (List.flatten [] : List Blk)) (fun a => a.2.2) ?_ (p0, 0, h) ⟨rfl, HExt.refl _, hw, hF⟩ (Sub.cons (Sub.cons (Sub.cons (Sub.nil _) rfl) rfl) rfl) rfl rfl
    rintro ⟨r2, i2, h2⟩ ⟨hr2, e2, w2, hF⟩ ih2
    rcases r2 with _ | ⟨z2, r2⟩
    ·
      have hi2 := drop_nil hr2
      rw [F_law06_few_L1.eq_1] at hF
      refine go_seq ?_
      refine go_seq ?_
      refine go_region ?_
      refine gM rfl rfl ?_
      refine gM rfl rfl ?_
      refine gr rfl (r_len rfl (os1 (ot rfl) os0) (fun _ _ => ln_22)) ?_
      refine gr rfl (r_bin (ot rfl) (ot rfl) rfl) ?_
      refine go_cast (.bool false) (congrArg Value.bool (decide_eq_false hi2)) ?_
      refine gM rfl rfl ?_
      refine g_no rfl rfl rfl rfl rfl ?_
      refine g_no rfl rfl rfl rfl rfl ?_
      refine gr rfl (r_pkF (ot rfl) (oc rfl)) ?_
      refine go_nil ?_
      refine g_cond (b := false) (ot rfl) (fun hc3 => ?_) (fun hc3 => ?_)
      · cases hc3
      refine go_exit rfl ?_
      obtain rfl := someI hF
      exact Goes.weak (J1 () _ e2 w2 rfl) (Sub.cons (Sub.cons (Sub.nil _) rfl) rfl)
    ·
      obtain ⟨hi2, hx2, hr2⟩ := drop_cons hr2
      have hb2 := (f0_0.ext e2.kn).1
      rw [F_law06_few_L1.eq_2] at hF
      refine go_seq ?_
      refine go_seq ?_
      refine go_region ?_
      refine gM rfl rfl ?_
      refine gM rfl rfl ?_
      refine gr rfl (r_len rfl (os1 (ot rfl) os0) (fun _ _ => ln_22)) ?_
      refine gr rfl (r_bin (ot rfl) (ot rfl) rfl) ?_
      refine go_cast (.bool true) (congrArg Value.bool (decide_eq_true (Int.ofNat_lt.mpr hi2))) ?_
      refine gM rfl rfl ?_
      refine g_do rfl rfl rfl ?_
      refine gM rfl rfl ?_
      refine g_do rfl rfl rfl ?_
      refine gr rfl (r_bin (ot rfl) (oc rfl) rfl) ?_
      refine gr rfl (r_pkT (ot rfl) (ot rfl)) ?_
      refine go_nil ?_
      refine g_cond (b := (decide ((i2 : Int) < 31))) (ot rfl) (fun hc4 => ?_) (fun hc4 => ?_)
      ·
        replace hF := ifT hc4 hF
        refine go_skip ?_
        refine go_seq ?_
        refine go_block ?_
        refine go_seq ?_
        refine go_region ?_
        refine gM rfl rfl ?_
        refine gM rfl rfl ?_
        obtain ⟨q5, row5, i5, cl5, rc5, sp5⟩ := ix (ik := .i64) (cap := c0_0) (E := EE) (f0_0.ext e2.kn) ((getI_nat _ _).trans hx2) ut_22 sz_41 rfl
        obtain ⟨a5_0, c5_0, rfl, f5_0⟩ := rc5
        refine gr rfl (r_ia (ot rfl) (ot rfl) i5) ?_
        refine gr rfl (r_fa (ot rfl) (fs_41_1 sp5)) ?_
        refine gr rfl (r_load (ot rfl) (v := .slice a5_0 z2.Ops.length c5_0) (lo_e (fun hf kn => ld_field (r := [.int .i64 z2.Kind, .slice a5_0 z2.Ops.length c5_0, .int .i64 z2.Rev]) ag_39 (kn.cellsAt cl5) rfl))) ?_
        refine gr rfl (r_len rfl (os1 (ot rfl) os0) (fun _ _ => ln_39)) ?_
        refine gr rfl (r_bin (ot rfl) (oc rfl) rfl) ?_
        refine go_nil ?_
        refine g_cond (b := (decide ((z2.Ops.length : Int) > 8))) (ot rfl) (fun hc6 => ?_) (fun hc6 => ?_)
        ·
          replace hF := ifT hc6 hF
          refine go_seq ?_
          refine go_region ?_
          refine gAc rfl rfl ?_
          refine go_nil ?_
          obtain rfl := someI hF
          obtain rfl := someI hK1
          exact g_ret (rst rfl rs0) (fun h1 hf hs => ⟨(e2.trans hs.hext), rfl⟩)
        ·
          replace hF := ifF hc6 hF
          refine go_skip ?_
          refine go_endb ?_
          refine go_region ?_
          refine gM rfl rfl ?_
          refine gr rfl (r_bin (ot rfl) (oc rfl) rfl) ?_
          refine gA rfl rfl ?_
          refine go_nil ?_
          refine go_re 3 (v2 := .int .i64 ((i2 + 1 : Nat) : Int)) rfl (wrap_succ hi2 hb2) ?_
          exact Goes.weak (ih2 (r2, i2 + 1, h2) ⟨hr2, e2, w2, hF⟩ (Nat.lt_succ_self _)) (Sub.cons (Sub.cons (Sub.cons (Sub.nil _) rfl) rfl) rfl)
      ·
        replace hF := ifF hc4 hF
        refine go_exit rfl ?_
        obtain rfl := someI hF
        exact Goes.weak (J1 () _ e2 w2 rfl) (Sub.cons (Sub.cons (Sub.nil _) rfl) rfl)
theorem s_law06_do (n : Nat) {h : Heap} (hw : Wf h) (p0 : Ohist_Hist) (p1 : Timpostref06_Hist) (p2 : Timpostlaw06_Deed) {bp0 : Nat} {bp0m2 : Nat} {rw0_2 : List (ByteArray × Value)} {q0_3 : Option Addr} {t0_3 : List Blk} {a1_0 : Option Addr} {c1_0 : Nat} {a2_1 : Option Addr} {c2_1 : Nat} (fm0_2 : MR R_TEvent h rw0_2 p0.keys) (f0_3 : AccR (Rep.sl R_TEvent 50) 50 h t0_3 (.slice q0_3 p0.rows.length p0.rows.length) p0.rows) (f1_0 : RL (Rep.sl R_TEvent 50) h a1_0 c1_0 p1.Rows) (f2_1 : RL R_TOp h a2_1 c2_1 p2.Ops) {r : Timpostref06_Hist × Bool × Ohist_Hist} (hF : F_law06_do n p0 p1 p2 = some r) :
    EvO EE 19 [.pointer (some ⟨bp0, 0, none⟩), .agg #[.slice a1_0 p1.Rows.length c1_0, .int .i64 p1.Hor], .agg #[.int .i64 p2.Kind, .slice a2_1 p2.Ops.length c2_1, .int .i64 p2.Rev]] [[⟨bp0, .cells [.int .i64 p0.bounds_rev, .int .i64 p0.bounds_hor, .map (some bp0m2), .slice q0_3 p0.rows.length p0.rows.length] 100⟩], [⟨bp0m2, .map (encM kS id rw0_2)⟩], t0_3] h (fun v S h1 => ∃ rwy0_2 qy0_3 ty0_3 a0 c0, v = .tuple #[.agg #[.slice a0 r.1.Rows.length c0, .int .i64 r.1.Hor], .bool r.2.1] ∧ S = [[⟨bp0, .cells [.int .i64 r.2.2.bounds_rev, .int .i64 r.2.2.bounds_hor, .map (some bp0m2), .slice qy0_3 r.2.2.rows.length r.2.2.rows.length] 100⟩], [⟨bp0m2, .map (encM kS id rwy0_2)⟩], ty0_3] ∧ MR R_TEvent h1 rwy0_2 r.2.2.keys ∧ AccR (Rep.sl R_TEvent 50) 50 h1 ty0_3 (.slice qy0_3 r.2.2.rows.length r.2.2.rows.length) r.2.2.rows ∧ RL (Rep.sl R_TEvent 50) h1 a0 c0 r.1.Rows) := by
  unfold F_law06_do at hF
  refine evo_of rfl at_19 rfl rfl ?_
  refine go_seq ?_
  refine go_region ?_
  refine gs_box rfl (ot rfl) rfl ?_; intro b4_1
  refine gs_box rfl (ot rfl) rfl ?_; intro b5_2
  refine gs_alloc rfl zo_36 rfl ?_; intro b6_3
  refine gAc rfl rfl ?_
  refine go_nil ?_
  refine go_seq ?_
  refine go_seq ?_
  refine go_region ?_
  refine gr rfl (r_fa (ot rfl) (fa_41_0 _ _)) ?_
  refine gr rfl (r_load (ot rfl) (lm_s (mem_seg 1 rfl) ag_3 rfl)) ?_
  refine gr rfl (r_bin (ot rfl) (oc rfl) rfl) ?_
  refine go_nil ?_
  refine g_cond (b := (p2.Kind == 1)) (ot rfl) (fun hc4 => ?_) (fun hc4 => ?_)
  ·
    replace hF := ifT hc4 hF
    refine go_seq ?_
    refine go_region ?_
    refine gM rfl rfl ?_
    refine gr rfl (r_fa (ot rfl) (fa_41_1 _ _)) ?_
    refine gr rfl (r_load (ot rfl) (lm_s (mem_seg 1 rfl) ag_39 rfl)) ?_
    replace hF := obind hF
    obtain ⟨x5, hx5, hF⟩ := hF
    refine gs_call EE_fr hw (.cons (.s (.s (.s (.z)))) (.cons (.s (.s (.s (.z)))) (.cons (.s (.s (.s (.z)))) .nil))) (fun _ h => by cases h; rfl) of (os1 (ot rfl) (os1 (ot rfl) os0)) hb_23 (by exact s_hist_Hist_Apply hw p0 p2.Ops fm0_2 f0_3 f2_1 hx5) ?_
    rintro v5 S5 h5 e5 w5 ⟨rw5_y0_2, q5_y0_3, t5_y0_3, a5_0, c5_0, rfl, rfl, f5_0, f5_1, f5_2⟩
    simp only [List.cons_append, List.nil_append]
    refine gA rfl rfl ?_
    refine go_nil ?_
    refine go_seq ?_
    refine go_region ?_
    refine gr rfl (r_load (ot rfl) (lm_w (mem_seg 5 rfl) ag_36 sz_36 rfl)) ?_
    refine gr rfl (r_fa (ot rfl) (fa_41_1 _ _)) ?_
    refine gr rfl (r_load (ot rfl) (lm_s (mem_seg 4 rfl) ag_39 rfl)) ?_
    replace hF := obind hF
    obtain ⟨x6, hx6, hF⟩ := hF
    refine g_call EE_fr (fun _ h => by cases h; rfl) of (os1 (ot rfl) (os1 (ot rfl) os0)) hb_58 (fun hf kn w => by exact s_ref06_Apply n w p1 p2.Ops ((f1_0.ext e5.kn).ext kn) ((f2_1.ext e5.kn).ext kn) hx6) ?_
    rintro v6 h6 e6 w6 ⟨a6_0, c6_0, a6_1, c6_1, rfl, f6_0, f6_1⟩
    refine gM rfl rfl ?_
    refine gE rfl rfl rfl ?_
    refine gE rfl rfl rfl ?_
    refine gs_alloc rfl zo_36 rfl ?_; intro b9_7
    refine gs_store (ot rfl) (ot rfl) sz_36 rfl rfl rfl rfl rfl .z ?_
    refine gA rfl rfl ?_
    refine go_nil ?_
    refine go_seq ?_
    refine go_regions (L := [(0, []), (1, []), (2, []), (3, [0]), (4, []), (5, [])]) (by kernel_rfl) (by kernel_rfl) (fun _ => rfl) ?_
    refine go_sop rfl rfl ?_
    refine gr rfl (r_load (ot rfl) (lm_w (mem_seg 0 rfl) ag_36 sz_36 rfl)) ?_
    refine go_nil ?_
    refine go_sop rfl rfl ?_
    refine gM rfl rfl ?_
    refine go_nil ?_
    refine go_sop rfl rfl ?_
    refine gM rfl rfl ?_
    refine go_nil ?_
    refine go_sopc [(0, .agg #[.slice a6_0 x6.1.Rows.length c6_0, .int .i64 x6.1.Hor])] rfl rfl rfl (rc1 rfl (r_load (ot rfl) (lm_w (mem_seg 0 rfl) ag_36 sz_36 rfl)) rc0) (vq1 (veq_agg _ _ (va1 (veq_sl _ _ _ _) (va1 (veq_int _ _ _) (va0 _)))) vq0) rfl ?_
    replace hF := obind hF
    obtain ⟨x8, hx8, hF⟩ := hF
    refine g_callp (v := .bool x8) EE_fr rfl of (os1 (ot rfl) (os1 (ot rfl) os0)) hb_59 (fun _ => rfl) (fun hf kn w => by exact s_ref05_Events w x5.1 x6.2 ((f5_2.ext e6.kn).ext kn) (f6_1.ext kn) hx8) ?_
    refine go_nil ?_
    refine go_rck (rc1 rfl (r_load (ot rfl) (lm_w (mem_seg 0 rfl) ag_36 sz_36 rfl)) rc0) ?_
    refine go_sop rfl rfl ?_
    refine gs_store (ot rfl) (ot rfl) sz_36 rfl rfl rfl rfl rfl (.s (.s (.s (.s (.z))))) ?_
    refine go_nil ?_
    refine go_sop rfl rfl ?_
    refine gA rfl rfl ?_
    refine go_nil ?_
    refine go_snil ?_
    obtain rfl := someI hF
    exact g_retS (.cons _ (.cons_cons _ (.cons_cons _ (.cons_cons _ (.cons _ (.cons _ (.cons _ (.refl _)))))))) (.refl _) (rsc rfl (lm_w (mem_seg 4 rfl) ag_36 sz_36 rfl) (rst rfl rs0)) (fun h1 hf hs => ⟨[[⟨bp0, .cells [.int .i64 x5.2.bounds_rev, .int .i64 x5.2.bounds_hor, .map (some bp0m2), .slice q5_y0_3 x5.2.rows.length x5.2.rows.length] 100⟩], [⟨bp0m2, .map (encM kS id rw5_y0_2)⟩], t5_y0_3], _, hf, (e5.trans e6), w6, hs, (ndb (by intro e; cases e) (ndb (by intro e; cases e) (ndt (f5_1.ext e6.kn) nd0))), ⟨_, _, _, _, _, rfl, rfl, (f5_0.ext e6.kn), (f5_1.ext e6.kn), f6_0⟩⟩)
  ·
    replace hF := ifF hc4 hF
    refine go_skip ?_
    refine go_seq ?_
    refine go_region ?_
    refine gM rfl rfl ?_
    refine gr rfl (r_fa (ot rfl) (fa_41_2 _ _)) ?_
    refine gr rfl (r_load (ot rfl) (lm_s (mem_seg 1 rfl) ag_3 rfl)) ?_
    replace hF := obind hF
    obtain ⟨x9, hx9, hF⟩ := hF
    refine gs_call EE_fr hw (.cons (.s (.s (.s (.z)))) (.cons (.s (.s (.s (.z)))) (.cons (.s (.s (.s (.z)))) .nil))) (fun _ h => by cases h; rfl) of (os1 (ot rfl) (os1 (ot rfl) os0)) hb_24 (by exact s_hist_Hist_Compact hw p0 p2.Rev fm0_2 f0_3 hx9) ?_
    rintro v9 S9 h9 e9 w9 ⟨rw9_y0_2, q9_y0_3, t9_y0_3, rfl, rfl, f9_0, f9_1⟩
    simp only [List.cons_append, List.nil_append]
    refine gA rfl rfl ?_
    refine go_nil ?_
    refine go_seq ?_
    refine go_region ?_
    refine gr rfl (r_load (ot rfl) (lm_w (mem_seg 5 rfl) ag_36 sz_36 rfl)) ?_
    refine gr rfl (r_fa (ot rfl) (fa_41_2 _ _)) ?_
    refine gr rfl (r_load (ot rfl) (lm_s (mem_seg 4 rfl) ag_3 rfl)) ?_
    replace hF := obind hF
    obtain ⟨x10, hx10, hF⟩ := hF
    refine g_call EE_fr (fun _ h => by cases h; rfl) of (os1 (ot rfl) (os1 (ot rfl) os0)) hb_60 (fun hf kn w => by exact s_ref06_Compact w p1 p2.Rev ((f1_0.ext e9.kn).ext kn) hx10) ?_
    rintro v10 h10 e10 w10 ⟨a10_0, c10_0, rfl, f10_0⟩
    refine gM rfl rfl ?_
    refine gE rfl rfl rfl ?_
    refine gE rfl rfl rfl ?_
    refine gs_alloc rfl zo_36 rfl ?_; intro b12_11
    refine gs_store (ot rfl) (ot rfl) sz_36 rfl rfl rfl rfl rfl .z ?_
    refine gA rfl rfl ?_
    refine go_nil ?_
    refine go_seq ?_
    refine go_region ?_
    refine gr rfl (r_load (ot rfl) (lm_w (mem_seg 0 rfl) ag_36 sz_36 rfl)) ?_
    refine gM rfl rfl ?_
    refine gM rfl rfl ?_
    refine gr rfl (r_bin (ot rfl) (ot rfl) rfl) ?_
    refine gs_store (ot rfl) (ot rfl) sz_36 rfl rfl rfl rfl rfl (.s (.s (.s (.s (.z))))) ?_
    refine gA rfl rfl ?_
    refine go_nil ?_
    obtain rfl := someI hF
    exact g_retS (.cons _ (.cons_cons _ (.cons_cons _ (.cons_cons _ (.cons _ (.cons _ (.cons _ (.refl _)))))))) (.refl _) (rsc rfl (lm_w (mem_seg 4 rfl) ag_36 sz_36 rfl) (rst rfl rs0)) (fun h1 hf hs => ⟨[[⟨bp0, .cells [.int .i64 x9.2.bounds_rev, .int .i64 x9.2.bounds_hor, .map (some bp0m2), .slice q9_y0_3 x9.2.rows.length x9.2.rows.length] 100⟩], [⟨bp0m2, .map (encM kS id rw9_y0_2)⟩], t9_y0_3], _, hf, (e9.trans e10), w10, hs, (ndb (by intro e; cases e) (ndb (by intro e; cases e) (ndt (f9_1.ext e10.kn) nd0))), ⟨_, _, _, _, _, rfl, rfl, (f9_0.ext e10.kn), (f9_1.ext e10.kn), f10_0⟩⟩)
theorem s_law06_ran (n : Nat) {h : Heap} (hw : Wf h) (p0 : (List Timpostlaw06_Deed)) {a0_0 : Option Addr} {c0_0 : Nat} (f0_0 : RL R_Timpostlaw06_Deed h a0_0 c0_0 p0) {r : Ohist_Hist} (hF : F_law06_ran n p0 = some r) :
    EvO EE 16 [.slice a0_0 p0.length c0_0] [] h (fun v S h1 => ∃ bw0 bw0m2 rww0_2 qw0_3 tw0_3, v = .pointer (some ⟨bw0, 0, none⟩) ∧ S = [[⟨bw0, .cells [.int .i64 r.bounds_rev, .int .i64 r.bounds_hor, .map (some bw0m2), .slice qw0_3 r.rows.length r.rows.length] 100⟩], [⟨bw0m2, .map (encM kS id rww0_2)⟩], tw0_3] ∧ MR R_TEvent h1 rww0_2 r.keys ∧ AccR (Rep.sl R_TEvent 50) 50 h1 tw0_3 (.slice qw0_3 r.rows.length r.rows.length) r.rows) := by
  unfold F_law06_ran at hF
  refine evo_of rfl at_16 rfl rfl ?_
  refine go_seq ?_
  refine go_region ?_
  refine gAc rfl rfl ?_
  refine go_nil ?_
  refine go_seq ?_
  refine go_region ?_
  replace hF := obind hF
  obtain ⟨x1, hx1, hF⟩ := hF
  refine gs_call EE_fr hw .nil (fun _ h => by cases h; rfl) of os0 hb_29 (by exact s_hist_New hw   hx1) ?_
  rintro v1 S1 h1 e1 w1 ⟨b1_w0, b1_w0m2, rw1_w0_2, q1_w0_3, t1_w0_3, rfl, rfl, f1_0, f1_1⟩
  simp only [List.cons_append, List.nil_append]
  refine gA rfl rfl ?_
  refine go_nil ?_
  refine go_seq ?_
  refine go_region ?_
  refine gr rfl (r_build op0 rfl) ?_
  refine gs_alloc rfl zo_36 rfl ?_; intro b4_2
  refine gs_store (ot rfl) (ot rfl) sz_36 rfl rfl rfl rfl rfl .z ?_
  refine go_nil ?_
  refine go_seq ?_
  refine go_seq ?_
  refine go_region ?_
  refine gAc rfl rfl ?_
  refine go_nil ?_
  replace hF := obind hF
  obtain ⟨s3, hF, hK3⟩ := hF
  refine go_joinc (β := Option Addr × Nat × Option Addr × List Blk × List (ByteArray × Value)) (fun s h' => RL (Rep.sl R_TEvent 50) h' s.1 s.2.1 s3.1 ∧ AccR (Rep.sl R_TEvent 50) 50 h' s.2.2.2.1 (.slice s.2.2.1 s3.2.2.2.2.1.length s3.2.2.2.2.1.length) s3.2.2.2.2.1 ∧ MR R_TEvent h' s.2.2.2.2 s3.2.2.2.2.2) (fun s => [(2, true, .pointer none), (3, true, .pointer (some ⟨b1_w0, 0, none⟩))]) (fun s => (List.flatten [[⟨b4_2, .cells [.slice s.1 s3.1.length s.2.1, .int .i64 s3.2.1] 36⟩], [⟨b1_w0, .cells [.int .i64 s3.2.2.1, .int .i64 s3.2.2.2.1, .map (some b1_w0m2), .slice s.2.2.1 s3.2.2.2.2.1.length s3.2.2.2.2.1.length] 100⟩], [⟨b1_w0m2, .map (encM kS id s.2.2.2.2)⟩], s.2.2.2.1] : List Blk)) ?_ (fun J3 => ?_)
  ·
    rintro ⟨a3_0, a3_1, a3_2, a3_3, a3_4⟩ h3 e3 w3 ⟨f3_0, f3_4, f3_5⟩
    replace hF := hK3
    refine go_seq ?_
    refine go_region ?_
    refine gM rfl rfl ?_
    refine gA rfl rfl ?_
    refine go_nil ?_
    obtain rfl := someI hF
    refine gs_sub (.cons _ (.cons_cons _ (.cons_cons _ (.cons_cons _ (.refl _))))) ?_
    exact g_ret (rst rfl rs0) (fun h1 hf hs => ⟨[[⟨b1_w0, .cells [.int .i64 s3.2.2.1, .int .i64 s3.2.2.2.1, .map (some b1_w0m2), .slice a3_2 s3.2.2.2.2.1.length s3.2.2.2.2.1.length] 100⟩], [⟨b1_w0m2, .map (encM kS id a3_4)⟩], a3_3], _, hf, (e1.trans e3), w3, hs, (ndb (by intro e; cases e) (ndb (by intro e; cases e) (ndt f3_4 nd0))), ⟨_, _, _, _, _, rfl, rfl, f3_5, f3_4⟩⟩)
  ·
    refine go_block ?_
    refine go_loop (α := (List Timpostlaw06_Deed) × Nat × (List (List TEvent)) × Int × Int × Int × (List (List TEvent)) × (List (ByteArray × (List TEvent))) × Option Addr × Nat × Option Addr × List Blk × List (ByteArray × Value) × Heap) (fun a => a.1 = List.drop a.2.1 p0 ∧ HExt h1 a.2.2.2.2.2.2.2.2.2.2.2.2.2 ∧ Wf a.2.2.2.2.2.2.2.2.2.2.2.2.2 ∧ F_law06_ran_L1 n a.1 a.2.1 a.2.2.1 a.2.2.2.1 a.2.2.2.2.1 a.2.2.2.2.2.1 a.2.2.2.2.2.2.1 a.2.2.2.2.2.2.2.1 = some s3 ∧ RL (Rep.sl R_TEvent 50) a.2.2.2.2.2.2.2.2.2.2.2.2.2 a.2.2.2.2.2.2.2.2.1 a.2.2.2.2.2.2.2.2.2.1 a.2.2.1 ∧ AccR (Rep.sl R_TEvent 50) 50 a.2.2.2.2.2.2.2.2.2.2.2.2.2 a.2.2.2.2.2.2.2.2.2.2.2.1 (.slice a.2.2.2.2.2.2.2.2.2.2.1 a.2.2.2.2.2.2.1.length a.2.2.2.2.2.2.1.length) a.2.2.2.2.2.2.1 ∧ MR R_TEvent a.2.2.2.2.2.2.2.2.2.2.2.2.2 a.2.2.2.2.2.2.2.2.2.2.2.2.1 a.2.2.2.2.2.2.2.1) (fun a => a.1.length) (fun a => [(0, true, .slice a0_0 p0.length c0_0), (2, true, .pointer none), (3, true, .pointer (some ⟨b1_w0, 0, none⟩)), (4, true, .pointer (some ⟨b4_2, 0, none⟩)), (5, true, .int .i64 (a.2.1 : Int))]) (fun a => (List.flatten [[⟨b4_2, .cells [.slice a.2.2.2.2.2.2.2.2.1 a.2.2.1.length a.2.2.2.2.2.2.2.2.2.1, .int .i64 a.2.2.2.1] 36⟩], [⟨b1_w0, .cells [.int .i64 a.2.2.2.2.1, .int .i64 a.2.2.2.2.2.1, .map (some b1_w0m2), .slice a.2.2.2.2.2.2.2.2.2.2.1 a.2.2.2.2.2.2.1.length a.2.2.2.2.2.2.1.length] 100⟩], [⟨b1_w0m2, .map (encM kS id a.2.2.2.2.2.2.2.2.2.2.2.2.1)⟩], a.2.2.2.2.2.2.2.2.2.2.2.1] : List Blk)) (fun a => a.2.2.2.2.2.2.2.2.2.2.2.2.2) ?_ (p0, 0, ([] : List (List TEvent)), 0, x1.bounds_rev, x1.bounds_hor, x1.rows, x1.keys, none, 0, q1_w0_3, t1_w0_3, rw1_w0_2, h1) ⟨rfl, HExt.refl _, w1, hF, (RL.nil _ _ _), f1_1, f1_0⟩ (Sub.cons (Sub.cons (Sub.cons (Sub.cons (Sub.cons (Sub.nil _) rfl) rfl) rfl) rfl) rfl) rfl rfl
    rintro ⟨r4, i4, y4_0, y4_1, y4_2, y4_3, y4_4, y4_5, a4_0, a4_1, a4_2, a4_3, a4_4, h4⟩ ⟨hr4, e4, w4, hF, f4_0, f4_4, f4_5⟩ ih4
    rcases r4 with _ | ⟨z4, r4⟩
    ·
      have hi4 := drop_nil hr4
      rw [F_law06_ran_L1.eq_1] at hF
      refine go_seq ?_
      refine go_seq ?_
      refine go_region ?_
      refine gM rfl rfl ?_
      refine gM rfl rfl ?_
      refine gr rfl (r_len rfl (os1 (ot rfl) os0) (fun _ _ => ln_22)) ?_
      refine gr rfl (r_bin (ot rfl) (ot rfl) rfl) ?_
      refine go_cast (.bool false) (congrArg Value.bool (decide_eq_false hi4)) ?_
      refine go_nil ?_
      refine g_cond (b := false) (ot rfl) (fun hc5 => ?_) (fun hc5 => ?_)
      · cases hc5
      refine go_exit rfl ?_
      obtain rfl := someI hF
      exact Goes.weak (J3 (a4_0, a4_1, a4_2, a4_3, a4_4) _ e4 w4 ⟨f4_0, f4_4, f4_5⟩) (Sub.cons (Sub.cons (Sub.nil _) rfl) rfl)
    ·
      obtain ⟨hi4, hx4, hr4⟩ := drop_cons hr4
      have hb4 := ((f0_0.ext e1.kn).ext e4.kn).1
      rw [F_law06_ran_L1.eq_2] at hF
      refine go_seq ?_
      refine go_seq ?_
      refine go_region ?_
      refine gM rfl rfl ?_
      refine gM rfl rfl ?_
      refine gr rfl (r_len rfl (os1 (ot rfl) os0) (fun _ _ => ln_22)) ?_
      refine gr rfl (r_bin (ot rfl) (ot rfl) rfl) ?_
      refine go_cast (.bool true) (congrArg Value.bool (decide_eq_true (Int.ofNat_lt.mpr hi4))) ?_
      refine go_nil ?_
      refine g_cond (b := true) (ot rfl) (fun hc6 => ?_) (fun hc6 => ?_)
      rotate_left
      · cases hc6
      refine go_skip ?_
      refine go_seq ?_
      refine go_block ?_
      refine go_seq ?_
      refine go_regA1 (L := [(0, []), (1, []), (2, []), (3, []), (4, []), (5, []), (6, []), (7, []), (8, []), (9, []), (10, []), (11, []), (12, [])]) (by kernel_rfl) (by kernel_rfl) (fun _ => rfl) ?_; intro b6_7
      refine go_sop rfl rfl ?_
      refine gM rfl rfl ?_
      refine go_nil ?_
      refine go_sop rfl rfl ?_
      refine gr rfl (r_load (ot rfl) (lm_w (mem_seg 1 rfl) ag_36 sz_36 rfl)) ?_
      refine go_nil ?_
      refine go_sop rfl rfl ?_
      refine gM rfl rfl ?_
      refine go_nil ?_
      refine go_sop rfl rfl ?_
      refine gM rfl rfl ?_
      refine go_nil ?_
      refine go_sop rfl rfl ?_
      obtain ⟨q8, row8, i8, cl8, rc8, sp8⟩ := ix (ik := .i64) (cap := c0_0) (E := EE) ((f0_0.ext e1.kn).ext e4.kn) ((getI_nat _ _).trans hx4) ut_22 sz_41 rfl
      obtain ⟨a8_0, c8_0, rfl, f8_0⟩ := rc8
      refine gr rfl (r_ia (ot rfl) (ot rfl) i8) ?_
      refine go_nil ?_
      refine go_sop rfl rfl ?_
      refine gr rfl (r_load (ot rfl) (v := .agg #[.int .i64 z4.Kind, .slice a8_0 z4.Ops.length c8_0, .int .i64 z4.Rev]) (lo_e (fun hf kn => ld_of (r := [.int .i64 z4.Kind, .slice a8_0 z4.Ops.length c8_0, .int .i64 z4.Rev]) ag_41 sz_41 (kn.cellsAt cl8)))) ?_
      refine go_nil ?_
      refine go_sop rfl rfl ?_
      replace hF := obind hF
      obtain ⟨x9, hx9, hF⟩ := hF
      refine gs_call EE_fr w4 (.cons (.s (.s (.z))) (.cons (.s (.s (.z))) (.cons (.s (.s (.z))) .nil))) (fun _ h => by cases h; rfl) of (os1 (ot rfl) (os1 (ot rfl) (os1 (ot rfl) os0))) hb_19 (by exact s_law06_do n w4 (⟨y4_2, y4_3, y4_5, y4_4⟩ : Ohist_Hist) (⟨y4_0, y4_1⟩ : Timpostref06_Hist) z4 f4_5 f4_4 f4_0 f8_0 hx9) ?_
      rintro v9 S9 h9 e9 w9 ⟨rw9_y0_2, q9_y0_3, t9_y0_3, a9_0, c9_0, rfl, rfl, f9_0, f9_1, f9_2⟩
      simp only [List.cons_append, List.nil_append]
      refine go_nil ?_
      refine go_sop rfl rfl ?_
      refine gM rfl rfl ?_
      refine go_nil ?_
      refine go_sop rfl rfl ?_
      refine gE rfl rfl rfl ?_
      refine go_nil ?_
      refine go_sop rfl rfl ?_
      refine gE rfl rfl rfl ?_
      refine go_nil ?_
      refine go_salloc rfl rfl rfl zo_36 rfl (.s (.s (.s (.z)))) ?_
      refine go_sop rfl rfl ?_
      refine gs_store (ot rfl) (ot rfl) sz_36 rfl rfl rfl rfl rfl (.s (.s (.s (.z)))) ?_
      refine go_nil ?_
      refine go_sop rfl rfl ?_
      refine gA rfl rfl ?_
      refine go_nil ?_
      refine go_snil ?_
      refine go_region ?_
      refine gr rfl (r_load (ot rfl) (lm_w (mem_seg 3 rfl) ag_36 sz_36 rfl)) ?_
      refine gs_store (ot rfl) (ot rfl) sz_36 rfl rfl rfl rfl rfl (.s (.s (.s (.s (.z))))) ?_
      refine go_nil ?_
      refine go_endb ?_
      refine go_region ?_
      refine gM rfl rfl ?_
      refine gr rfl (r_bin (ot rfl) (oc rfl) rfl) ?_
      refine gA rfl rfl ?_
      refine go_nil ?_
      refine gs_sub (.cons_cons _ (.cons_cons _ (.cons_cons _ (.cons _ (.cons_cons _ (.refl _)))))) ?_
      refine gs_perm (perm_of (d := []) _ [3, 0, 1, 2] rfl) ?_
      refine go_re 5 (v2 := .int .i64 ((i4 + 1 : Nat) : Int)) rfl (wrap_succ hi4 hb4) ?_
      exact Goes.weak (ih4 (r4, i4 + 1, x9.1.Rows, x9.1.Hor, x9.2.2.bounds_rev, x9.2.2.bounds_hor, x9.2.2.rows, x9.2.2.keys, a9_0, c9_0, q9_y0_3, t9_y0_3, rw9_y0_2, h9) ⟨hr4, (e4.trans e9), w9, hF, f9_2, f9_1, f9_0⟩ (Nat.lt_succ_self _)) (Sub.cons (Sub.cons (Sub.cons (Sub.cons (Sub.cons (Sub.nil _) rfl) rfl) rfl) rfl) rfl)
end Go.Proofs.Ytpfdandpmpmbiaa.V
