/- Walks.
   No condition: these are laws of the clean machine and of this program. -/
import Derived.Test.YtpfdandpmpmbiaaPT
import Derived.Test.YtpfdandpmpmbiaaWt
import Derived.Test.YtpfdandpmpmbiaaWo
namespace Go.Proofs.Ytpfdandpmpmbiaa.V
open Go
set_option linter.unusedVariables false
set_option linter.unusedSimpArgs false
set_option maxRecDepth 100000
set_option maxHeartbeats 4000000
theorem s_model_New {h : Heap} (hw : Wf h)    {r : Omodel_Model × Ohist_Hist} (hF : F_model_New  = some r) :
    EvO EE 32 [] [] h (fun v S h1 => ∃ bw0 bw0o0 bw0o0m2 rww0o0_2 qw0o0_3 tw0o0_3, v = .pointer (some ⟨bw0, 0, none⟩) ∧ S = [[⟨bw0, .cells [.pointer (some ⟨bw0o0, 0, none⟩), .int .i64 r.1.seq] 130⟩], [⟨bw0o0, .cells [.int .i64 r.2.bounds_rev, .int .i64 r.2.bounds_hor, .map (some bw0o0m2), .slice qw0o0_3 r.2.rows.length r.2.rows.length] 100⟩], [⟨bw0o0m2, .map (encM kS id rww0o0_2)⟩], tw0o0_3] ∧ MR R_TEvent h1 rww0o0_2 r.2.keys ∧ AccR (Rep.sl R_TEvent 50) 50 h1 tw0o0_3 (.slice qw0o0_3 r.2.rows.length r.2.rows.length) r.2.rows) := by
  unfold F_model_New at hF
  refine evo_of rfl at_32 rfl rfl ?_
  refine go_seq ?_
  refine go_region ?_
  refine gAc rfl rfl ?_
  refine go_nil ?_
  refine go_seq ?_
  refine go_region ?_
  replace hF := obind hF
  obtain ⟨x1, hx1, hF⟩ := hF
  refine gs_call EE_fr hw .nil (fun _ h => by cases h; rfl) of os0 hb_29 (by exact s_hist_New hw   hx1) ?_
  rintro v1 S1 h1 e1 w1 ⟨b1_w0, b1_w0m2, rw1_w0_2, q1_w0_3, t1_w0_3, rfl, rfl, f1_0, f1_1⟩
  simp only [List.cons_append, List.nil_append]
  refine gr rfl (r_build (op1 (ot rfl) op0) rfl) ?_
  refine gs_box rfl (ot rfl) rfl ?_; intro b3_2
  refine gA rfl rfl ?_
  refine go_nil ?_
  obtain rfl := someI hF
  exact g_ret (rst rfl rs0) (fun h1 hf hs => ⟨[[⟨b3_2, .cells [.pointer (some ⟨b1_w0, 0, none⟩), .int .i64 0] 130⟩], [⟨b1_w0, .cells [.int .i64 x1.bounds_rev, .int .i64 x1.bounds_hor, .map (some b1_w0m2), .slice q1_w0_3 x1.rows.length x1.rows.length] 100⟩], [⟨b1_w0m2, .map (encM kS id rw1_w0_2)⟩], t1_w0_3], _, hf, e1, w1, hs, (ndb (by intro e; cases e) (ndb (by intro e; cases e) (ndb (by intro e; cases e) (ndt f1_1 nd0)))), ⟨_, _, _, _, _, _, rfl, rfl, f1_0, f1_1⟩⟩)
theorem s_model_Model_Head {h : Heap} (hw : Wf h) (p0 : Omodel_Model) (p0o0 : Ohist_Hist) {bp0 : Nat} {bp0o0 : Nat} {bp0o0m2 : Nat} {rw0o0_2 : List (ByteArray × Value)} {q0o0_3 : Option Addr} {t0o0_3 : List Blk} (fm0o0_2 : MR R_TEvent h rw0o0_2 p0o0.keys) (f0o0_3 : AccR (Rep.sl R_TEvent 50) 50 h t0o0_3 (.slice q0o0_3 p0o0.rows.length p0o0.rows.length) p0o0.rows) {r : THead × Omodel_Model × Ohist_Hist} (hF : F_model_Model_Head p0 p0o0 = some r) :
    EvO EE 35 [.pointer (some ⟨bp0, 0, none⟩)] [[⟨bp0, .cells [.pointer (some ⟨bp0o0, 0, none⟩), .int .i64 p0.seq] 130⟩], [⟨bp0o0, .cells [.int .i64 p0o0.bounds_rev, .int .i64 p0o0.bounds_hor, .map (some bp0o0m2), .slice q0o0_3 p0o0.rows.length p0o0.rows.length] 100⟩], [⟨bp0o0m2, .map (encM kS id rw0o0_2)⟩], t0o0_3] h (fun v S h1 => ∃ rwy0o0_2 qy0o0_3 ty0o0_3, v = .agg #[.int .i64 r.1.Seq, .int .i64 r.1.Rev, .int .i64 r.1.Hor] ∧ S = [[⟨bp0, .cells [.pointer (some ⟨bp0o0, 0, none⟩), .int .i64 r.2.1.seq] 130⟩], [⟨bp0o0, .cells [.int .i64 r.2.2.bounds_rev, .int .i64 r.2.2.bounds_hor, .map (some bp0o0m2), .slice qy0o0_3 r.2.2.rows.length r.2.2.rows.length] 100⟩], [⟨bp0o0m2, .map (encM kS id rwy0o0_2)⟩], ty0o0_3] ∧ MR R_TEvent h1 rwy0o0_2 r.2.2.keys ∧ AccR (Rep.sl R_TEvent 50) 50 h1 ty0o0_3 (.slice qy0o0_3 r.2.2.rows.length r.2.2.rows.length) r.2.2.rows) := by
  unfold F_model_Model_Head at hF
  refine evo_of rfl at_35 rfl rfl ?_
  refine go_seq ?_
  refine go_region ?_
  refine gs_alloc rfl zo_71 rfl ?_; intro b2_1
  refine go_nil ?_
  refine go_seq ?_
  refine go_seq ?_
  refine go_region ?_
  refine gM rfl rfl ?_
  refine gr rfl (r_bin (v := .bool false) (ot rfl) (oc rfl) (by first | rfl | kernel_rfl)) ?_
  refine go_nil ?_
  refine g_cond (b := false) (ot rfl) (fun hc2 => ?_) (fun hc2 => ?_)
  · cases hc2
  refine go_skip ?_
  refine go_seq ?_
  refine go_regions (L := [(0, []), (1, []), (2, []), (3, []), (4, []), (5, []), (6, []), (7, []), (9, []), (10, []), (11, []), (12, []), (8, [3, 12]), (13, [3]), (14, []), (15, [])]) (by kernel_rfl) (by kernel_rfl) (fun _ => rfl) ?_
  refine go_sop rfl rfl ?_
  refine gM rfl rfl ?_
  refine go_nil ?_
  refine go_sop rfl rfl ?_
  refine gr rfl (r_nilck (ot rfl)) ?_
  refine go_nil ?_
  refine go_sop rfl rfl ?_
  refine gr rfl (r_fa (ot rfl) (fa_130_1 _ _)) ?_
  refine go_nil ?_
  refine go_sop rfl rfl ?_
  refine gr rfl (r_load (ot rfl) (lm_s (mem_seg 1 rfl) ag_3 rfl)) ?_
  refine go_nil ?_
  refine go_sop rfl rfl ?_
  refine gM rfl rfl ?_
  refine go_nil ?_
  refine go_sop rfl rfl ?_
  refine gr rfl (r_nilck (ot rfl)) ?_
  refine go_nil ?_
  refine go_sop rfl rfl ?_
  refine gr rfl (r_fa (ot rfl) (fa_130_0 _ _)) ?_
  refine go_nil ?_
  refine go_sop rfl rfl ?_
  refine gr rfl (r_load (ot rfl) (lm_s (mem_seg 1 rfl) ag_25 rfl)) ?_
  refine go_nil ?_
  refine go_sop rfl rfl ?_
  refine gM rfl rfl ?_
  refine go_nil ?_
  refine go_sop rfl rfl ?_
  refine gr rfl (r_nilck (ot rfl)) ?_
  refine go_nil ?_
  refine go_sop rfl rfl ?_
  refine gr rfl (r_fa (ot rfl) (fa_130_0 _ _)) ?_
  refine go_nil ?_
  refine go_sop rfl rfl ?_
  refine gr rfl (r_load (ot rfl) (lm_s (mem_seg 1 rfl) ag_25 rfl)) ?_
  refine go_nil ?_
  refine go_sopc [(3, .int .i64 p0.seq), (12, .pointer (some ⟨bp0o0, 0, none⟩))] rfl rfl rfl (rc1 rfl (r_load (ot rfl) (lm_s (mem_seg 1 rfl) ag_3 rfl)) (rc1 rfl (r_load (ot rfl) (lm_s (mem_seg 1 rfl) ag_25 rfl)) rc0)) (vq1 (veq_int _ _ _) (vq1 (veq_ptr _ _) vq0)) rfl ?_
  replace hF := obind hF
  obtain ⟨x3, hx3, hF⟩ := hF
  refine gs_call EE_fr hw (.cons (.s (.s (.z))) (.cons (.s (.s (.z))) (.cons (.s (.s (.z))) .nil))) (fun _ h => by cases h; rfl) of (os1 (ot rfl) os0) hb_17 (by exact s_hist_Hist_Rev hw p0o0 fm0o0_2 f0o0_3 hx3) ?_
  rintro v3 S3 h3 e3 w3 ⟨rw3_y0_2, q3_y0_3, t3_y0_3, rfl, rfl, f3_0, f3_1⟩
  simp only [List.cons_append, List.nil_append]
  refine go_nil ?_
  refine go_rck (rc1 rfl (r_load (ot rfl) (lm_s (mem_seg 4 rfl) ag_3 rfl)) (rc1 rfl (r_load (ot rfl) (lm_s (mem_seg 4 rfl) ag_25 rfl)) rc0)) ?_
  refine go_sopc [(3, .int .i64 p0.seq)] rfl rfl rfl (rc1 rfl (r_load (ot rfl) (lm_s (mem_seg 4 rfl) ag_3 rfl)) rc0) (vq1 (veq_int _ _ _) vq0) rfl ?_
  replace hF := obind hF
  obtain ⟨x4, hx4, hF⟩ := hF
  refine gs_call EE_fr w3 (.cons .z (.cons .z (.cons .z .nil))) (fun _ h => by cases h; rfl) of (os1 (ot rfl) os0) hb_20 (by exact s_hist_Hist_Hor w3 (⟨x3.2.bounds_rev, x3.2.bounds_hor, x3.2.keys, x3.2.rows⟩ : Ohist_Hist) f3_0 f3_1 hx4) ?_
  rintro v4 S4 h4 e4 w4 ⟨rw4_y0_2, q4_y0_3, t4_y0_3, rfl, rfl, f4_0, f4_1⟩
  simp only [List.cons_append, List.nil_append]
  refine go_nil ?_
  refine go_rck (rc1 rfl (r_load (ot rfl) (lm_s (mem_seg 4 rfl) ag_3 rfl)) rc0) ?_
  refine go_sop rfl rfl ?_
  refine gr rfl (r_build (op1 (ot rfl) (op1 (ot rfl) (op1 (ot rfl) op0))) rfl) ?_
  refine go_nil ?_
  refine go_sop rfl rfl ?_
  refine gs_store (ot rfl) (ot rfl) sz_71 rfl rfl rfl rfl rfl (.s (.s (.s (.z)))) ?_
  refine go_nil ?_
  refine go_snil ?_
  obtain rfl := someI hF
  exact g_retS (.cons_cons _ (.cons_cons _ (.cons_cons _ (.cons _ (.cons_cons _ (.refl _)))))) (perm_of (d := []) _ [3, 0, 1, 2] rfl) (rsc rfl (lm_w (mem_seg 3 rfl) ag_71 sz_71 rfl) rs0) (fun h1 hf hs => ⟨[[⟨bp0, .cells [.pointer (some ⟨bp0o0, 0, none⟩), .int .i64 p0.seq] 130⟩], [⟨bp0o0, .cells [.int .i64 x4.2.bounds_rev, .int .i64 x4.2.bounds_hor, .map (some bp0o0m2), .slice q4_y0_3 x4.2.rows.length x4.2.rows.length] 100⟩], [⟨bp0o0m2, .map (encM kS id rw4_y0_2)⟩], t4_y0_3], _, hf, (e3.trans e4), w4, hs, (ndb (by intro e; cases e) (ndb (by intro e; cases e) (ndb (by intro e; cases e) (ndt f4_1 nd0)))), ⟨_, _, _, rfl, rfl, f4_0, f4_1⟩⟩)
theorem s_model_Model_answer {h : Heap} (hw : Wf h) (p0 : Omodel_Model) (p0o0 : Ohist_Hist) (p1 : TResp) {bp0 : Nat} {bp0o0 : Nat} {bp0o0m2 : Nat} {rw0o0_2 : List (ByteArray × Value)} {q0o0_3 : Option Addr} {t0o0_3 : List Blk} {a1_5 : Option Addr} {c1_5 : Nat} (fm0o0_2 : MR R_TEvent h rw0o0_2 p0o0.keys) (f0o0_3 : AccR (Rep.sl R_TEvent 50) 50 h t0o0_3 (.slice q0o0_3 p0o0.rows.length p0o0.rows.length) p0o0.rows) (f1_5 : RL R_TKV h a1_5 c1_5 p1.L) {r : TResp × Omodel_Model × Ohist_Hist} (hF : F_model_Model_answer p0 p0o0 p1 = some r) :
    EvO EE 74 [.pointer (some ⟨bp0, 0, none⟩), .agg #[.int .i64 p1.H.Seq, .int .i64 p1.H.Rev, .int .i64 p1.H.Hor, .int .i64 p1.Err, .bool p1.Ok, .slice a1_5 p1.L.length c1_5]] [[⟨bp0, .cells [.pointer (some ⟨bp0o0, 0, none⟩), .int .i64 p0.seq] 130⟩], [⟨bp0o0, .cells [.int .i64 p0o0.bounds_rev, .int .i64 p0o0.bounds_hor, .map (some bp0o0m2), .slice q0o0_3 p0o0.rows.length p0o0.rows.length] 100⟩], [⟨bp0o0m2, .map (encM kS id rw0o0_2)⟩], t0o0_3] h (fun v S h1 => ∃ rwy0o0_2 qy0o0_3 ty0o0_3 a0 c0, v = .agg #[.int .i64 r.1.H.Seq, .int .i64 r.1.H.Rev, .int .i64 r.1.H.Hor, .int .i64 r.1.Err, .bool r.1.Ok, .slice a0 r.1.L.length c0] ∧ S = [[⟨bp0, .cells [.pointer (some ⟨bp0o0, 0, none⟩), .int .i64 r.2.1.seq] 130⟩], [⟨bp0o0, .cells [.int .i64 r.2.2.bounds_rev, .int .i64 r.2.2.bounds_hor, .map (some bp0o0m2), .slice qy0o0_3 r.2.2.rows.length r.2.2.rows.length] 100⟩], [⟨bp0o0m2, .map (encM kS id rwy0o0_2)⟩], ty0o0_3] ∧ MR R_TEvent h1 rwy0o0_2 r.2.2.keys ∧ AccR (Rep.sl R_TEvent 50) 50 h1 ty0o0_3 (.slice qy0o0_3 r.2.2.rows.length r.2.2.rows.length) r.2.2.rows ∧ RL R_TKV h1 a0 c0 r.1.L) := by
  unfold F_model_Model_answer at hF
  refine evo_of rfl at_74 rfl rfl ?_
  refine go_seq ?_
  refine go_region ?_
  refine gs_box rfl (ot rfl) rfl ?_; intro b3_1
  refine gs_alloc rfl zo_73 rfl ?_; intro b4_2
  refine go_nil ?_
  refine go_seq ?_
  refine go_seq ?_
  refine go_region ?_
  refine gr rfl (r_fa (ot rfl) (fa_73_1 _ _)) ?_
  refine gr rfl (r_load (ot rfl) (lm_s (mem_seg 1 rfl) ag_29 rfl)) ?_
  refine gr rfl (r_bin (ot rfl) (oc rfl) rfl) ?_
  refine go_nil ?_
  replace hF := obind hF
  obtain ⟨s4, hF, hK4⟩ := hF
  refine go_joinc (β := Option Addr × Nat) (fun s h' => RL R_TKV h' s.1 s.2 s4.2.2.2.2) (fun s => [(0, true, .pointer (some ⟨bp0, 0, none⟩)), (3, true, .pointer (some ⟨b3_1, 0, none⟩)), (4, true, .pointer (some ⟨b4_2, 0, none⟩))]) (fun s => (List.flatten [[⟨b4_2, .cells [.int .i64 0, .int .i64 0, .int .i64 0, .int .i64 0, .bool false, .slice none 0 0] 73⟩], [⟨b3_1, .cells [.int .i64 s4.1, .int .i64 s4.2.1, .int .i64 s4.2.2.1, .int .i64 p1.Err, .bool s4.2.2.2.1, .slice s.1 s4.2.2.2.2.length s.2] 73⟩], [⟨bp0, .cells [.pointer (some ⟨bp0o0, 0, none⟩), .int .i64 p0.seq] 130⟩], [⟨bp0o0, .cells [.int .i64 p0o0.bounds_rev, .int .i64 p0o0.bounds_hor, .map (some bp0o0m2), .slice q0o0_3 p0o0.rows.length p0o0.rows.length] 100⟩], [⟨bp0o0m2, .map (encM kS id rw0o0_2)⟩], t0o0_3] : List Blk)) ?_ (fun J4 => ?_)
  ·
    rintro ⟨a4_0, a4_1⟩ h4 e4 w4 f4_4
    replace hF := hK4
    refine go_seq ?_
    refine go_region ?_
    refine gM rfl rfl ?_
    replace hF := obind hF
    obtain ⟨x5, hx5, hF⟩ := hF
    refine gs_call EE_fr w4 (.cons (.s (.s (.z))) (.cons (.s (.s (.z))) (.cons (.s (.s (.z))) (.cons (.s (.s (.z))) .nil)))) (fun _ h => by cases h; rfl) of (os1 (ot rfl) os0) hb_35 (by exact s_model_Model_Head w4 p0 p0o0 (fm0o0_2.ext e4.kn) (f0o0_3.ext e4.kn) hx5) ?_
    rintro v5 S5 h5 e5 w5 ⟨rw5_y0o0_2, q5_y0o0_3, t5_y0o0_3, rfl, rfl, f5_0, f5_1⟩
    simp only [List.cons_append, List.nil_append]
    refine gr rfl (r_fa (ot rfl) (fa_73_0 _ _)) ?_
    refine gs_store (ot rfl) (ot rfl) sz_71 rfl rfl rfl rfl rfl (.s (.s (.s (.s (.s (.z)))))) ?_
    refine go_nil ?_
    refine go_seq ?_
    refine go_region ?_
    refine gr rfl (r_load (ot rfl) (lm_w (mem_seg 5 rfl) ag_73 sz_73 rfl)) ?_
    refine gs_store (ot rfl) (ot rfl) sz_73 rfl rfl rfl rfl rfl (.s (.s (.s (.s (.z))))) ?_
    refine go_nil ?_
    obtain rfl := someI hF
    exact g_retS (.cons_cons _ (.cons_cons _ (.cons_cons _ (.cons_cons _ (.cons _ (.cons _ (.refl _))))))) (.refl _) (rsc rfl (lm_w (mem_seg 4 rfl) ag_73 sz_73 rfl) rs0) (fun h1 hf hs => ⟨[[⟨bp0, .cells [.pointer (some ⟨bp0o0, 0, none⟩), .int .i64 x5.2.1.seq] 130⟩], [⟨bp0o0, .cells [.int .i64 x5.2.2.bounds_rev, .int .i64 x5.2.2.bounds_hor, .map (some bp0o0m2), .slice q5_y0o0_3 x5.2.2.rows.length x5.2.2.rows.length] 100⟩], [⟨bp0o0m2, .map (encM kS id rw5_y0o0_2)⟩], t5_y0o0_3], _, hf, (e4.trans e5), w5, hs, (ndb (by intro e; cases e) (ndb (by intro e; cases e) (ndb (by intro e; cases e) (ndt f5_1 nd0)))), ⟨_, _, _, _, _, rfl, rfl, f5_0, f5_1, (f4_4.ext e5.kn)⟩⟩)
  ·
    refine g_cond (b := (p1.Err != 0)) (ot rfl) (fun hc3 => ?_) (fun hc3 => ?_)
    ·
      replace hF := ifT hc3 hF
      refine go_region ?_
      refine gr rfl (r_fa (ot rfl) (fa_73_1 _ _)) ?_
      refine gr rfl (r_load (ot rfl) (lm_s (mem_seg 1 rfl) ag_29 rfl)) ?_
      refine gr rfl (r_build (op1 (ot rfl) op0) rfl) ?_
      refine gs_store (ot rfl) (ot rfl) sz_73 rfl rfl rfl rfl rfl (.s (.z)) ?_
      refine go_nil ?_
      obtain rfl := someI hF
      exact Goes.weak (J4 (none, 0) _ (HExt.refl _) hw (RL.nil _ _ _)) (Sub.cons (Sub.cons (Sub.cons (Sub.nil _) rfl) rfl) rfl)
    ·
      replace hF := ifF hc3 hF
      refine go_skip ?_
      obtain rfl := someI hF
      exact Goes.weak (J4 (a1_5, c1_5) _ (HExt.refl _) hw f1_5) (Sub.cons (Sub.cons (Sub.cons (Sub.nil _) rfl) rfl) rfl)
theorem s_model_Model_read (n : Nat) {h : Heap} (hw : Wf h) (p0 : Omodel_Model) (p0o0 : Ohist_Hist) (p1 : TReq) {bp0 : Nat} {bp0o0 : Nat} {bp0o0m2 : Nat} {rw0o0_2 : List (ByteArray × Value)} {q0o0_3 : Option Addr} {t0o0_3 : List Blk} {a1_4 : Option Addr} {c1_4 : Nat} {a1_5 : Option Addr} {c1_5 : Nat} {a1_6 : Option Addr} {c1_6 : Nat} (fm0o0_2 : MR R_TEvent h rw0o0_2 p0o0.keys) (f0o0_3 : AccR (Rep.sl R_TEvent 50) 50 h t0o0_3 (.slice q0o0_3 p0o0.rows.length p0o0.rows.length) p0o0.rows) (f1_4 : RL R_TCmp h a1_4 c1_4 p1.Cmps) (f1_5 : RL R_TOp h a1_5 c1_5 p1.Then) (f1_6 : RL R_TOp h a1_6 c1_6 p1.Else) {r : TResp × Omodel_Model × Ohist_Hist} (hF : F_model_Model_read n p0 p0o0 p1 = some r) :
    EvO EE 75 [.pointer (some ⟨bp0, 0, none⟩), .agg #[.int .i64 p1.Kind, .string p1.R.From, .string p1.R.To, .int .i64 p1.Rev, .slice a1_4 p1.Cmps.length c1_4, .slice a1_5 p1.Then.length c1_5, .slice a1_6 p1.Else.length c1_6]] [[⟨bp0, .cells [.pointer (some ⟨bp0o0, 0, none⟩), .int .i64 p0.seq] 130⟩], [⟨bp0o0, .cells [.int .i64 p0o0.bounds_rev, .int .i64 p0o0.bounds_hor, .map (some bp0o0m2), .slice q0o0_3 p0o0.rows.length p0o0.rows.length] 100⟩], [⟨bp0o0m2, .map (encM kS id rw0o0_2)⟩], t0o0_3] h (fun v S h1 => ∃ rwy0o0_2 qy0o0_3 ty0o0_3 a0 c0, v = .agg #[.int .i64 r.1.H.Seq, .int .i64 r.1.H.Rev, .int .i64 r.1.H.Hor, .int .i64 r.1.Err, .bool r.1.Ok, .slice a0 r.1.L.length c0] ∧ S = [[⟨bp0, .cells [.pointer (some ⟨bp0o0, 0, none⟩), .int .i64 r.2.1.seq] 130⟩], [⟨bp0o0, .cells [.int .i64 r.2.2.bounds_rev, .int .i64 r.2.2.bounds_hor, .map (some bp0o0m2), .slice qy0o0_3 r.2.2.rows.length r.2.2.rows.length] 100⟩], [⟨bp0o0m2, .map (encM kS id rwy0o0_2)⟩], ty0o0_3] ∧ MR R_TEvent h1 rwy0o0_2 r.2.2.keys ∧ AccR (Rep.sl R_TEvent 50) 50 h1 ty0o0_3 (.slice qy0o0_3 r.2.2.rows.length r.2.2.rows.length) r.2.2.rows ∧ RL R_TKV h1 a0 c0 r.1.L) := by
  unfold F_model_Model_read at hF
  refine evo_of rfl at_75 rfl rfl ?_
  refine go_seq ?_
  refine go_region ?_
  refine gs_box rfl (ot rfl) rfl ?_; intro b3_1
  refine gs_alloc rfl zo_73 rfl ?_; intro b4_2
  refine go_nil ?_
  refine go_seq ?_
  refine go_region ?_
  refine gr rfl (r_fa (ot rfl) (fa_61_2 _ _)) ?_
  refine gr rfl (r_load (ot rfl) (lm_s (mem_seg 1 rfl) ag_3 rfl)) ?_
  refine gA rfl rfl ?_
  refine go_nil ?_
  refine go_seq ?_
  refine go_seq ?_
  refine go_region ?_
  refine gM rfl rfl ?_
  refine gr rfl (r_bin (ot rfl) (oc rfl) rfl) ?_
  refine go_nil ?_
  replace hF := obind hF
  obtain ⟨s4, hF, hK4⟩ := hF
  refine go_joinc (β := Option Addr × List Blk × List (ByteArray × Value)) (fun s h' => AccR (Rep.sl R_TEvent 50) 50 h' s.2.1 (.slice s.1 s4.2.2.2.1.length s4.2.2.2.1.length) s4.2.2.2.1 ∧ MR R_TEvent h' s.2.2 s4.2.2.2.2) (fun s => [(0, true, .pointer (some ⟨bp0, 0, none⟩)), (3, true, .pointer (some ⟨b3_1, 0, none⟩)), (4, true, .pointer (some ⟨b4_2, 0, none⟩)), (5, true, .int .i64 s4.1)]) (fun s => (List.flatten [[⟨b4_2, .cells [.int .i64 0, .int .i64 0, .int .i64 0, .int .i64 0, .bool false, .slice none 0 0] 73⟩], [⟨b3_1, .cells [.int .i64 p1.Kind, .string p1.R.From, .string p1.R.To, .int .i64 p1.Rev, .slice a1_4 p1.Cmps.length c1_4, .slice a1_5 p1.Then.length c1_5, .slice a1_6 p1.Else.length c1_6] 61⟩], [⟨bp0, .cells [.pointer (some ⟨bp0o0, 0, none⟩), .int .i64 p0.seq] 130⟩], [⟨bp0o0, .cells [.int .i64 s4.2.1, .int .i64 s4.2.2.1, .map (some bp0o0m2), .slice s.1 s4.2.2.2.1.length s4.2.2.2.1.length] 100⟩], [⟨bp0o0m2, .map (encM kS id s.2.2)⟩], s.2.1] : List Blk)) ?_ (fun J4 => ?_)
  ·
    rintro ⟨a4_0, a4_1, a4_2⟩ h4 e4 w4 ⟨f4_3, f4_4⟩
    replace hF := hK4
    refine go_seq ?_
    refine go_regions (L := [(0, []), (1, []), (2, []), (3, []), (4, []), (5, []), (6, []), (7, []), (8, []), (9, []), (10, []), (11, []), (12, [])]) (by kernel_rfl) (by kernel_rfl) (fun _ => rfl) ?_
    refine go_sop rfl rfl ?_
    refine gM rfl rfl ?_
    refine go_nil ?_
    refine go_sop rfl rfl ?_
    refine gr rfl (r_nilck (ot rfl)) ?_
    refine go_nil ?_
    refine go_sop rfl rfl ?_
    refine gr rfl (r_fa (ot rfl) (fa_130_0 _ _)) ?_
    refine go_nil ?_
    refine go_sop rfl rfl ?_
    refine gr rfl (r_load (ot rfl) (lm_s (mem_seg 2 rfl) ag_25 rfl)) ?_
    refine go_nil ?_
    refine go_sop rfl rfl ?_
    refine gM rfl rfl ?_
    refine go_nil ?_
    refine go_sop rfl rfl ?_
    refine gr rfl (r_fa (ot rfl) (fa_61_1 _ _)) ?_
    refine go_nil ?_
    refine go_sop rfl rfl ?_
    refine gr rfl (r_load (ot rfl) (lm_a (vs := [_, _]) (mem_seg 1 rfl) ag_33 sz_33 rfl rfl)) ?_
    refine go_nil ?_
    refine go_sop rfl rfl ?_
    replace hF := obind hF
    obtain ⟨x5, hx5, hF⟩ := hF
    refine gs_call EE_fr w4 (.cons (.s (.s (.s (.z)))) (.cons (.s (.s (.s (.z)))) (.cons (.s (.s (.s (.z)))) .nil))) (fun _ h => by cases h; rfl) of (os1 (ot rfl) (os1 (ot rfl) (os1 (ot rfl) os0))) hb_18 (by exact s_hist_Hist_At n w4 (⟨s4.2.1, s4.2.2.1, s4.2.2.2.2, s4.2.2.2.1⟩ : Ohist_Hist) s4.1 p1.R f4_4 f4_3 hx5) ?_
    rintro v5 S5 h5 e5 w5 ⟨rw5_y0_2, q5_y0_3, t5_y0_3, a5_0, c5_0, rfl, rfl, f5_0, f5_1, f5_2⟩
    simp only [List.cons_append, List.nil_append]
    refine go_nil ?_
    refine go_sop rfl rfl ?_
    refine gM rfl rfl ?_
    refine go_nil ?_
    refine go_sop rfl rfl ?_
    refine gE rfl rfl rfl ?_
    refine go_nil ?_
    refine go_sop rfl rfl ?_
    refine gE rfl rfl rfl ?_
    refine go_nil ?_
    refine go_sop rfl rfl ?_
    refine gA rfl rfl ?_
    refine go_nil ?_
    refine go_sop rfl rfl ?_
    refine gA rfl rfl ?_
    refine go_nil ?_
    refine go_snil ?_
    refine go_seq ?_
    refine go_region ?_
    refine gM rfl rfl ?_
    refine gM rfl rfl ?_
    refine gr rfl (r_build (op1 (ot rfl) (op1 (ot rfl) op0)) rfl) ?_
    refine gs_store (ot rfl) (ot rfl) sz_73 rfl rfl rfl rfl rfl (.s (.s (.s (.z)))) ?_
    refine go_nil ?_
    obtain rfl := someI hF
    exact g_retS (.cons_cons _ (.cons_cons _ (.cons_cons _ (.cons _ (.cons _ (.cons_cons _ (.refl _))))))) (perm_of (d := []) _ [3, 0, 1, 2] rfl) (rsc rfl (lm_w (mem_seg 3 rfl) ag_73 sz_73 rfl) rs0) (fun h1 hf hs => ⟨[[⟨bp0, .cells [.pointer (some ⟨bp0o0, 0, none⟩), .int .i64 p0.seq] 130⟩], [⟨bp0o0, .cells [.int .i64 x5.2.2.bounds_rev, .int .i64 x5.2.2.bounds_hor, .map (some bp0o0m2), .slice q5_y0_3 x5.2.2.rows.length x5.2.2.rows.length] 100⟩], [⟨bp0o0m2, .map (encM kS id rw5_y0_2)⟩], t5_y0_3], _, hf, (e4.trans e5), w5, hs, (ndb (by intro e; cases e) (ndb (by intro e; cases e) (ndb (by intro e; cases e) (ndt f5_1 nd0)))), ⟨_, _, _, _, _, rfl, rfl, f5_0, f5_1, f5_2⟩⟩)
  ·
    refine g_cond (b := (p1.Rev == 0)) (ot rfl) (fun hc3 => ?_) (fun hc3 => ?_)
    ·
      replace hF := ifT hc3 hF
      refine go_region ?_
      refine gM rfl rfl ?_
      refine gr rfl (r_nilck (ot rfl)) ?_
      refine gr rfl (r_fa (ot rfl) (fa_130_0 _ _)) ?_
      refine gr rfl (r_load (ot rfl) (lm_s (mem_seg 2 rfl) ag_25 rfl)) ?_
      replace hF := obind hF
      obtain ⟨x6, hx6, hF⟩ := hF
      refine gs_call EE_fr hw (.cons (.s (.s (.s (.z)))) (.cons (.s (.s (.s (.z)))) (.cons (.s (.s (.s (.z)))) .nil))) (fun _ h => by cases h; rfl) of (os1 (ot rfl) os0) hb_17 (by exact s_hist_Hist_Rev hw p0o0 fm0o0_2 f0o0_3 hx6) ?_
      rintro v6 S6 h6 e6 w6 ⟨rw6_y0_2, q6_y0_3, t6_y0_3, rfl, rfl, f6_0, f6_1⟩
      simp only [List.cons_append, List.nil_append]
      refine gA rfl rfl ?_
      refine go_nil ?_
      obtain rfl := someI hF
      refine gs_perm (perm_of (d := []) _ [3, 4, 5, 0, 1, 2] rfl) ?_
      exact Goes.weak (J4 (q6_y0_3, t6_y0_3, rw6_y0_2) _ e6 w6 ⟨f6_1, f6_0⟩) (Sub.cons (Sub.cons (Sub.cons (Sub.cons (Sub.nil _) rfl) rfl) rfl) rfl)
    ·
      replace hF := ifF hc3 hF
      refine go_skip ?_
      obtain rfl := someI hF
      exact Goes.weak (J4 (q0o0_3, t0o0_3, rw0o0_2) _ (HExt.refl _) hw ⟨f0o0_3, fm0o0_2⟩) (Sub.cons (Sub.cons (Sub.cons (Sub.cons (Sub.nil _) rfl) rfl) rfl) rfl)
theorem s_model_Model_change (n : Nat) {h : Heap} (hw : Wf h) (p0 : Omodel_Model) (p0o0 : Ohist_Hist) (p1 : TReq) {bp0 : Nat} {bp0o0 : Nat} {bp0o0m2 : Nat} {rw0o0_2 : List (ByteArray × Value)} {q0o0_3 : Option Addr} {t0o0_3 : List Blk} {a1_4 : Option Addr} {c1_4 : Nat} {a1_5 : Option Addr} {c1_5 : Nat} {a1_6 : Option Addr} {c1_6 : Nat} (fm0o0_2 : MR R_TEvent h rw0o0_2 p0o0.keys) (f0o0_3 : AccR (Rep.sl R_TEvent 50) 50 h t0o0_3 (.slice q0o0_3 p0o0.rows.length p0o0.rows.length) p0o0.rows) (f1_4 : RL R_TCmp h a1_4 c1_4 p1.Cmps) (f1_5 : RL R_TOp h a1_5 c1_5 p1.Then) (f1_6 : RL R_TOp h a1_6 c1_6 p1.Else) {r : TResp × Omodel_Model × Ohist_Hist} (hF : F_model_Model_change n p0 p0o0 p1 = some r) :
    EvO EE 76 [.pointer (some ⟨bp0, 0, none⟩), .agg #[.int .i64 p1.Kind, .string p1.R.From, .string p1.R.To, .int .i64 p1.Rev, .slice a1_4 p1.Cmps.length c1_4, .slice a1_5 p1.Then.length c1_5, .slice a1_6 p1.Else.length c1_6]] [[⟨bp0, .cells [.pointer (some ⟨bp0o0, 0, none⟩), .int .i64 p0.seq] 130⟩], [⟨bp0o0, .cells [.int .i64 p0o0.bounds_rev, .int .i64 p0o0.bounds_hor, .map (some bp0o0m2), .slice q0o0_3 p0o0.rows.length p0o0.rows.length] 100⟩], [⟨bp0o0m2, .map (encM kS id rw0o0_2)⟩], t0o0_3] h (fun v S h1 => ∃ rwy0o0_2 qy0o0_3 ty0o0_3 a0 c0, v = .agg #[.int .i64 r.1.H.Seq, .int .i64 r.1.H.Rev, .int .i64 r.1.H.Hor, .int .i64 r.1.Err, .bool r.1.Ok, .slice a0 r.1.L.length c0] ∧ S = [[⟨bp0, .cells [.pointer (some ⟨bp0o0, 0, none⟩), .int .i64 r.2.1.seq] 130⟩], [⟨bp0o0, .cells [.int .i64 r.2.2.bounds_rev, .int .i64 r.2.2.bounds_hor, .map (some bp0o0m2), .slice qy0o0_3 r.2.2.rows.length r.2.2.rows.length] 100⟩], [⟨bp0o0m2, .map (encM kS id rwy0o0_2)⟩], ty0o0_3] ∧ MR R_TEvent h1 rwy0o0_2 r.2.2.keys ∧ AccR (Rep.sl R_TEvent 50) 50 h1 ty0o0_3 (.slice qy0o0_3 r.2.2.rows.length r.2.2.rows.length) r.2.2.rows ∧ RL R_TKV h1 a0 c0 r.1.L) := by
  unfold F_model_Model_change at hF
  refine evo_of rfl at_76 rfl rfl ?_
  refine go_seq ?_
  refine go_region ?_
  refine gs_box rfl (ot rfl) rfl ?_; intro b3_1
  refine gs_alloc rfl zo_73 rfl ?_; intro b4_2
  refine go_nil ?_
  refine go_seq ?_
  refine go_regions (L := [(0, []), (1, []), (2, []), (3, []), (4, []), (5, []), (6, []), (7, []), (9, []), (8, [3]), (10, []), (11, []), (12, []), (13, []), (14, []), (15, [])]) (by kernel_rfl) (by kernel_rfl) (fun _ => rfl) ?_
  refine go_sop rfl rfl ?_
  refine gM rfl rfl ?_
  refine go_nil ?_
  refine go_sop rfl rfl ?_
  refine gr rfl (r_nilck (ot rfl)) ?_
  refine go_nil ?_
  refine go_sop rfl rfl ?_
  refine gr rfl (r_fa (ot rfl) (fa_130_0 _ _)) ?_
  refine go_nil ?_
  refine go_sop rfl rfl ?_
  refine gr rfl (r_load (ot rfl) (lm_s (mem_seg 2 rfl) ag_25 rfl)) ?_
  refine go_nil ?_
  refine go_sop rfl rfl ?_
  refine gM rfl rfl ?_
  refine go_nil ?_
  refine go_sop rfl rfl ?_
  refine gr rfl (r_nilck (ot rfl)) ?_
  refine go_nil ?_
  refine go_sop rfl rfl ?_
  refine gr rfl (r_fa (ot rfl) (fa_130_0 _ _)) ?_
  refine go_nil ?_
  refine go_sop rfl rfl ?_
  refine gr rfl (r_load (ot rfl) (lm_s (mem_seg 2 rfl) ag_25 rfl)) ?_
  refine go_nil ?_
  refine go_sop rfl rfl ?_
  refine gr rfl (r_build op0 rfl) ?_
  refine go_nil ?_
  refine go_sopc [(3, .pointer (some ⟨bp0o0, 0, none⟩))] rfl rfl rfl (rc1 rfl (r_load (ot rfl) (lm_s (mem_seg 2 rfl) ag_25 rfl)) rc0) (vq1 (veq_ptr _ _) vq0) rfl ?_
  replace hF := obind hF
  obtain ⟨x3, hx3, hF⟩ := hF
  refine gs_call EE_fr hw (.cons (.s (.s (.s (.z)))) (.cons (.s (.s (.s (.z)))) (.cons (.s (.s (.s (.z)))) .nil))) (fun _ h => by cases h; rfl) of (os1 (ot rfl) os0) hb_17 (by exact s_hist_Hist_Rev hw p0o0 fm0o0_2 f0o0_3 hx3) ?_
  rintro v3 S3 h3 e3 w3 ⟨rw3_y0_2, q3_y0_3, t3_y0_3, rfl, rfl, f3_0, f3_1⟩
  simp only [List.cons_append, List.nil_append]
  refine go_nil ?_
  refine go_rck (rc1 rfl (r_load (ot rfl) (lm_s (mem_seg 5 rfl) ag_25 rfl)) rc0) ?_
  refine go_sop rfl rfl ?_
  replace hF := obind hF
  obtain ⟨x4, hx4, hF⟩ := hF
  refine gs_call EE_fr w3 (.cons .z (.cons .z (.cons .z .nil))) (fun _ h => by cases h; rfl) of (os1 (ot rfl) (os1 (ot rfl) (os1 (ot rfl) os0))) hb_18 (by exact s_hist_Hist_At n w3 (⟨x3.2.bounds_rev, x3.2.bounds_hor, x3.2.keys, x3.2.rows⟩ : Ohist_Hist) x3.1 (⟨ByteArray.empty, ByteArray.empty⟩ : TRange) f3_0 f3_1 hx4) ?_
  rintro v4 S4 h4 e4 w4 ⟨rw4_y0_2, q4_y0_3, t4_y0_3, a4_0, c4_0, rfl, rfl, f4_0, f4_1, f4_2⟩
  simp only [List.cons_append, List.nil_append]
  refine go_nil ?_
  refine go_sop rfl rfl ?_
  refine gM rfl rfl ?_
  refine go_nil ?_
  refine go_sop rfl rfl ?_
  refine gE rfl rfl rfl ?_
  refine go_nil ?_
  refine go_sop rfl rfl ?_
  refine gE rfl rfl rfl ?_
  refine go_nil ?_
  refine go_sop rfl rfl ?_
  refine gA rfl rfl ?_
  refine go_nil ?_
  refine go_sop rfl rfl ?_
  refine gA rfl rfl ?_
  refine go_nil ?_
  refine go_snil ?_
  refine go_seq ?_
  refine go_region ?_
  refine gM rfl rfl ?_
  refine gr rfl (r_load (ot rfl) (lm_w (mem_seg 4 rfl) ag_61 sz_61 rfl)) ?_
  replace hF := obind hF
  obtain ⟨x5, hx5, hF⟩ := hF
  refine g_call EE_fr (fun _ h => by cases h; rfl) of (os1 (ot rfl) (os1 (ot rfl) os0)) hb_30 (fun hf kn w => by exact s_txn_Plan n w x4.1 p1 (f4_2.ext kn) (((f1_4.ext e3.kn).ext e4.kn).ext kn) (((f1_5.ext e3.kn).ext e4.kn).ext kn) (((f1_6.ext e3.kn).ext e4.kn).ext kn) hx5) ?_
  rintro v5 h5 e5 w5 ⟨a5_0, c5_0, rfl, f5_0⟩
  refine gM rfl rfl ?_
  refine gE rfl rfl rfl ?_
  refine gE rfl rfl rfl ?_
  refine gA rfl rfl ?_
  refine gA rfl rfl ?_
  refine go_nil ?_
  refine go_seq ?_
  refine go_block ?_
  refine go_seq ?_
  refine go_region ?_
  refine gM rfl rfl ?_
  refine gr rfl (r_len rfl (os1 (ot rfl) os0) (fun _ _ => ln_39)) ?_
  refine gr rfl (r_bin (ot rfl) (oc rfl) rfl) ?_
  refine gA rfl rfl ?_
  refine go_nil ?_
  replace hF := obind hF
  obtain ⟨s7, hF, hK7⟩ := hF
  refine go_joinc (β := (Int × Int × (List (List TEvent)) × (List (ByteArray × (List TEvent)))) × Option Addr × List Blk × List (ByteArray × Value)) (fun s h' => s7 = .go s.1 ∧ AccR (Rep.sl R_TEvent 50) 50 h' s.2.2.1 (.slice s.2.1 s.1.2.2.1.length s.1.2.2.1.length) s.1.2.2.1 ∧ MR R_TEvent h' s.2.2.2 s.1.2.2.2) (fun s => [(0, true, .pointer (some ⟨bp0, 0, none⟩)), (4, true, .pointer (some ⟨b4_2, 0, none⟩)), (7, true, .bool x5.1), (8, true, .slice a5_0 x5.2.length c5_0)]) (fun s => (List.flatten [[⟨bp0o0, .cells [.int .i64 s.1.1, .int .i64 s.1.2.1, .map (some bp0o0m2), .slice s.2.1 s.1.2.2.1.length s.1.2.2.1.length] 100⟩], [⟨bp0o0m2, .map (encM kS id s.2.2.2)⟩], s.2.2.1, [⟨b4_2, .cells [.int .i64 0, .int .i64 0, .int .i64 0, .int .i64 0, .bool false, .slice none 0 0] 73⟩], [⟨b3_1, .cells [.int .i64 p1.Kind, .string p1.R.From, .string p1.R.To, .int .i64 p1.Rev, .slice a1_4 p1.Cmps.length c1_4, .slice a1_5 p1.Then.length c1_5, .slice a1_6 p1.Else.length c1_6] 61⟩], [⟨bp0, .cells [.pointer (some ⟨bp0o0, 0, none⟩), .int .i64 p0.seq] 130⟩]] : List Blk)) ?_ (fun J7 => ?_)
  ·
    rintro ⟨⟨x7_0, x7_1, x7_2, x7_3⟩, a7_0, a7_1, a7_2⟩ h7 e7 w7 ⟨hs7, f7_2, f7_3⟩
    subst hs7
    replace hF := lpgo hK7
    refine go_endb ?_
    refine go_seq ?_
    refine go_region ?_
    refine gM rfl rfl ?_
    refine gr rfl (r_nilck (ot rfl)) ?_
    refine gr rfl (r_fa (ot rfl) (fa_130_0 _ _)) ?_
    refine gr rfl (r_load (ot rfl) (lm_s (mem_seg 5 rfl) ag_25 rfl)) ?_
    refine gM rfl rfl ?_
    replace hF := obind hF
    obtain ⟨x8, hx8, hF⟩ := hF
    refine gs_call EE_fr w7 (.cons .z (.cons .z (.cons .z .nil))) (fun _ h => by cases h; rfl) of (os1 (ot rfl) (os1 (ot rfl) os0)) hb_23 (by exact s_hist_Hist_Apply w7 (⟨x7_0, x7_1, x7_3, x7_2⟩ : Ohist_Hist) x5.2 f7_3 f7_2 (f5_0.ext e7.kn) hx8) ?_
    rintro v8 S8 h8 e8 w8 ⟨rw8_y0_2, q8_y0_3, t8_y0_3, a8_0, c8_0, rfl, rfl, f8_0, f8_1, f8_2⟩
    simp only [List.cons_append, List.nil_append]
    refine go_nil ?_
    refine go_seq ?_
    refine go_region ?_
    refine gM rfl rfl ?_
    refine gr rfl (r_build (op1 (ot rfl) op0) rfl) ?_
    refine gs_store (ot rfl) (ot rfl) sz_73 rfl rfl rfl rfl rfl (.s (.s (.s (.z)))) ?_
    refine go_nil ?_
    obtain rfl := someI hF
    exact g_retS (.cons_cons _ (.cons_cons _ (.cons_cons _ (.cons _ (.cons _ (.cons_cons _ (.refl _))))))) (perm_of (d := []) _ [3, 0, 1, 2] rfl) (rsc rfl (lm_w (mem_seg 3 rfl) ag_73 sz_73 rfl) rs0) (fun h1 hf hs => ⟨[[⟨bp0, .cells [.pointer (some ⟨bp0o0, 0, none⟩), .int .i64 p0.seq] 130⟩], [⟨bp0o0, .cells [.int .i64 x8.2.bounds_rev, .int .i64 x8.2.bounds_hor, .map (some bp0o0m2), .slice q8_y0_3 x8.2.rows.length x8.2.rows.length] 100⟩], [⟨bp0o0m2, .map (encM kS id rw8_y0_2)⟩], t8_y0_3], _, hf, (e3.trans (e4.trans (e5.trans (e7.trans e8)))), w8, hs, (ndb (by intro e; cases e) (ndb (by intro e; cases e) (ndb (by intro e; cases e) (ndt f8_1 nd0)))), ⟨_, _, _, _, _, rfl, rfl, f8_0, f8_1, (RL.nil _ _ _)⟩⟩)
  ·
    refine g_cond (b := ((x5.2.length : Int) == 0)) (ot rfl) (fun hc6 => ?_) (fun hc6 => ?_)
    ·
      replace hF := ifT hc6 hF
      refine go_skip ?_
      obtain rfl := someI hF
      exact Goes.weak (J7 ((x4.2.2.bounds_rev, x4.2.2.bounds_hor, x4.2.2.rows, x4.2.2.keys), q4_y0_3, t4_y0_3, rw4_y0_2) _ (HExt.refl _) w5 ⟨rfl, (f4_1.ext e5.kn), (f4_0.ext e5.kn)⟩) (Sub.cons (Sub.cons (Sub.cons (Sub.cons (Sub.nil _) rfl) rfl) rfl) rfl)
    ·
      replace hF := ifF hc6 hF
      refine go_seq ?_
      refine go_region ?_
      refine gM rfl rfl ?_
      refine gr rfl (r_nilck (ot rfl)) ?_
      refine gr rfl (r_fa (ot rfl) (fa_130_0 _ _)) ?_
      refine gr rfl (r_load (ot rfl) (lm_s (mem_seg 5 rfl) ag_25 rfl)) ?_
      replace hF := obind hF
      obtain ⟨x9, hx9, hF⟩ := hF
      refine gs_call EE_fr w5 (.cons .z (.cons .z (.cons .z .nil))) (fun _ h => by cases h; rfl) of (os1 (ot rfl) os0) hb_17 (by exact s_hist_Hist_Rev w5 (⟨x4.2.2.bounds_rev, x4.2.2.bounds_hor, x4.2.2.keys, x4.2.2.rows⟩ : Ohist_Hist) (f4_0.ext e5.kn) (f4_1.ext e5.kn) hx9) ?_
      rintro v9 S9 h9 e9 w9 ⟨rw9_y0_2, q9_y0_3, t9_y0_3, rfl, rfl, f9_0, f9_1⟩
      simp only [List.cons_append, List.nil_append]
      refine gr rfl (r_bin (ot rfl) (oc rfl) rfl) ?_
      refine gA rfl rfl ?_
      refine go_nil ?_
      refine g_cond (b := (decide (x9.1 ≥ 1000))) (ot rfl) (fun hc10 => ?_) (fun hc10 => ?_)
      ·
        replace hF := ifT hc10 hF
        refine go_seq ?_
        refine go_region ?_
        refine gr rfl (r_build (op1 (oc rfl) op0) rfl) ?_
        refine gs_store (ot rfl) (ot rfl) sz_73 rfl rfl rfl rfl rfl (.s (.s (.s (.z)))) ?_
        refine go_nil ?_
        obtain rfl := someI hF
        obtain rfl := someI hK7
        exact g_retS (.cons_cons _ (.cons_cons _ (.cons_cons _ (.cons _ (.cons _ (.cons_cons _ (.refl _))))))) (perm_of (d := []) _ [3, 0, 1, 2] rfl) (rsc rfl (lm_w (mem_seg 3 rfl) ag_73 sz_73 rfl) rs0) (fun h1 hf hs => ⟨[[⟨bp0, .cells [.pointer (some ⟨bp0o0, 0, none⟩), .int .i64 p0.seq] 130⟩], [⟨bp0o0, .cells [.int .i64 x9.2.bounds_rev, .int .i64 x9.2.bounds_hor, .map (some bp0o0m2), .slice q9_y0_3 x9.2.rows.length x9.2.rows.length] 100⟩], [⟨bp0o0m2, .map (encM kS id rw9_y0_2)⟩], t9_y0_3], _, hf, (e3.trans (e4.trans (e5.trans e9))), w9, hs, (ndb (by intro e; cases e) (ndb (by intro e; cases e) (ndb (by intro e; cases e) (ndt f9_1 nd0)))), ⟨_, _, _, _, _, rfl, rfl, f9_0, f9_1, (RL.nil _ _ _)⟩⟩)
      ·
        replace hF := ifF hc10 hF
        refine go_seq ?_
        refine go_regions (L := [(0, []), (1, []), (2, []), (3, []), (6, []), (7, []), (8, []), (9, []), (4, [9]), (5, []), (10, []), (11, []), (12, []), (13, [])]) (by kernel_rfl) (by kernel_rfl) (fun _ => rfl) ?_
        refine go_sop rfl rfl ?_
        refine gM rfl rfl ?_
        refine go_nil ?_
        refine go_sop rfl rfl ?_
        refine gr rfl (r_nilck (ot rfl)) ?_
        refine go_nil ?_
        refine go_sop rfl rfl ?_
        refine gr rfl (r_fa (ot rfl) (fa_130_0 _ _)) ?_
        refine go_nil ?_
        refine go_sop rfl rfl ?_
        refine gr rfl (r_load (ot rfl) (lm_s (mem_seg 5 rfl) ag_25 rfl)) ?_
        refine go_nil ?_
        refine go_sop rfl rfl ?_
        refine gM rfl rfl ?_
        refine go_nil ?_
        refine go_sop rfl rfl ?_
        refine gr rfl (r_nilck (ot rfl)) ?_
        refine go_nil ?_
        refine go_sop rfl rfl ?_
        refine gr rfl (r_fa (ot rfl) (fa_130_0 _ _)) ?_
        refine go_nil ?_
        refine go_sop rfl rfl ?_
        refine gr rfl (r_load (ot rfl) (lm_s (mem_seg 5 rfl) ag_25 rfl)) ?_
        refine go_nil ?_
        refine go_sopc [(9, .pointer (some ⟨bp0o0, 0, none⟩))] rfl rfl rfl (rc1 rfl (r_load (ot rfl) (lm_s (mem_seg 5 rfl) ag_25 rfl)) rc0) (vq1 (veq_ptr _ _) vq0) rfl ?_
        replace hF := obind hF
        obtain ⟨x11, hx11, hF⟩ := hF
        refine gs_call EE_fr w9 (.cons .z (.cons .z (.cons .z .nil))) (fun _ h => by cases h; rfl) of (os1 (ot rfl) os0) hb_17 (by exact s_hist_Hist_Rev w9 (⟨x9.2.bounds_rev, x9.2.bounds_hor, x9.2.keys, x9.2.rows⟩ : Ohist_Hist) f9_0 f9_1 hx11) ?_
        rintro v11 S11 h11 e11 w11 ⟨rw11_y0_2, q11_y0_3, t11_y0_3, rfl, rfl, f11_0, f11_1⟩
        simp only [List.cons_append, List.nil_append]
        refine go_nil ?_
        refine go_rck (rc1 rfl (r_load (ot rfl) (lm_s (mem_seg 5 rfl) ag_25 rfl)) rc0) ?_
        refine go_sop rfl rfl ?_
        refine gr rfl (r_bin (ot rfl) (oc rfl) rfl) ?_
        refine go_nil ?_
        refine go_sop rfl rfl ?_
        replace hF := obind hF
        obtain ⟨x12, hx12, hF⟩ := hF
        refine gs_call EE_fr w11 (.cons .z (.cons .z (.cons .z .nil))) (fun _ h => by cases h; rfl) of (os1 (ot rfl) os0) hb_20 (by exact s_hist_Hist_Hor w11 (⟨x11.2.bounds_rev, x11.2.bounds_hor, x11.2.keys, x11.2.rows⟩ : Ohist_Hist) f11_0 f11_1 hx12) ?_
        rintro v12 S12 h12 e12 w12 ⟨rw12_y0_2, q12_y0_3, t12_y0_3, rfl, rfl, f12_0, f12_1⟩
        simp only [List.cons_append, List.nil_append]
        refine go_nil ?_
        refine go_sop rfl rfl ?_
        refine gr rfl (r_bin (ot rfl) (ot rfl) rfl) ?_
        refine go_nil ?_
        refine go_sop rfl rfl ?_
        refine gr rfl (r_bin (ot rfl) (oc rfl) rfl) ?_
        refine go_nil ?_
        refine go_sop rfl rfl ?_
        refine gA rfl rfl ?_
        refine go_nil ?_
        refine go_snil ?_
        refine g_cond (b := (decide ((IntKind.i64.wrap ((IntKind.i64.wrap (x11.1 + 1)) - x12.1)) > 16))) (ot rfl) (fun hc13 => ?_) (fun hc13 => ?_)
        ·
          replace hF := ifT hc13 hF
          refine go_seq ?_
          refine go_region ?_
          refine gr rfl (r_build (op1 (oc rfl) op0) rfl) ?_
          refine gs_store (ot rfl) (ot rfl) sz_73 rfl rfl rfl rfl rfl (.s (.s (.s (.z)))) ?_
          refine go_nil ?_
          obtain rfl := someI hF
          obtain rfl := someI hK7
          exact g_retS (.cons_cons _ (.cons_cons _ (.cons_cons _ (.cons _ (.cons _ (.cons_cons _ (.refl _))))))) (perm_of (d := []) _ [3, 0, 1, 2] rfl) (rsc rfl (lm_w (mem_seg 3 rfl) ag_73 sz_73 rfl) rs0) (fun h1 hf hs => ⟨[[⟨bp0, .cells [.pointer (some ⟨bp0o0, 0, none⟩), .int .i64 p0.seq] 130⟩], [⟨bp0o0, .cells [.int .i64 x12.2.bounds_rev, .int .i64 x12.2.bounds_hor, .map (some bp0o0m2), .slice q12_y0_3 x12.2.rows.length x12.2.rows.length] 100⟩], [⟨bp0o0m2, .map (encM kS id rw12_y0_2)⟩], t12_y0_3], _, hf, (e3.trans (e4.trans (e5.trans (e9.trans (e11.trans e12))))), w12, hs, (ndb (by intro e; cases e) (ndb (by intro e; cases e) (ndb (by intro e; cases e) (ndt f12_1 nd0)))), ⟨_, _, _, _, _, rfl, rfl, f12_0, f12_1, (RL.nil _ _ _)⟩⟩)
        ·
          replace hF := ifF hc13 hF
          refine go_skip ?_
          obtain rfl := someI hF
          exact Goes.weak (J7 ((x12.2.bounds_rev, x12.2.bounds_hor, x12.2.rows, x12.2.keys), q12_y0_3, t12_y0_3, rw12_y0_2) _ (e9.trans (e11.trans e12)) w12 ⟨rfl, f12_1, f12_0⟩) (Sub.cons (Sub.cons (Sub.cons (Sub.cons (Sub.nil _) rfl) rfl) rfl) rfl)
theorem s_model_Model_Serve (n : Nat) {h : Heap} (hw : Wf h) (p0 : Omodel_Model) (p0o0 : Ohist_Hist) (p1 : TReq) {bp0 : Nat} {bp0o0 : Nat} {bp0o0m2 : Nat} {rw0o0_2 : List (ByteArray × Value)} {q0o0_3 : Option Addr} {t0o0_3 : List Blk} {a1_4 : Option Addr} {c1_4 : Nat} {a1_5 : Option Addr} {c1_5 : Nat} {a1_6 : Option Addr} {c1_6 : Nat} (fm0o0_2 : MR R_TEvent h rw0o0_2 p0o0.keys) (f0o0_3 : AccR (Rep.sl R_TEvent 50) 50 h t0o0_3 (.slice q0o0_3 p0o0.rows.length p0o0.rows.length) p0o0.rows) (f1_4 : RL R_TCmp h a1_4 c1_4 p1.Cmps) (f1_5 : RL R_TOp h a1_5 c1_5 p1.Then) (f1_6 : RL R_TOp h a1_6 c1_6 p1.Else) {r : TResp × Omodel_Model × Ohist_Hist} (hF : F_model_Model_Serve n p0 p0o0 p1 = some r) :
    EvO EE 34 [.pointer (some ⟨bp0, 0, none⟩), .agg #[.int .i64 p1.Kind, .string p1.R.From, .string p1.R.To, .int .i64 p1.Rev, .slice a1_4 p1.Cmps.length c1_4, .slice a1_5 p1.Then.length c1_5, .slice a1_6 p1.Else.length c1_6]] [[⟨bp0, .cells [.pointer (some ⟨bp0o0, 0, none⟩), .int .i64 p0.seq] 130⟩], [⟨bp0o0, .cells [.int .i64 p0o0.bounds_rev, .int .i64 p0o0.bounds_hor, .map (some bp0o0m2), .slice q0o0_3 p0o0.rows.length p0o0.rows.length] 100⟩], [⟨bp0o0m2, .map (encM kS id rw0o0_2)⟩], t0o0_3] h (fun v S h1 => ∃ rwy0o0_2 qy0o0_3 ty0o0_3 a0 c0, v = .agg #[.int .i64 r.1.H.Seq, .int .i64 r.1.H.Rev, .int .i64 r.1.H.Hor, .int .i64 r.1.Err, .bool r.1.Ok, .slice a0 r.1.L.length c0] ∧ S = [[⟨bp0, .cells [.pointer (some ⟨bp0o0, 0, none⟩), .int .i64 r.2.1.seq] 130⟩], [⟨bp0o0, .cells [.int .i64 r.2.2.bounds_rev, .int .i64 r.2.2.bounds_hor, .map (some bp0o0m2), .slice qy0o0_3 r.2.2.rows.length r.2.2.rows.length] 100⟩], [⟨bp0o0m2, .map (encM kS id rwy0o0_2)⟩], ty0o0_3] ∧ MR R_TEvent h1 rwy0o0_2 r.2.2.keys ∧ AccR (Rep.sl R_TEvent 50) 50 h1 ty0o0_3 (.slice qy0o0_3 r.2.2.rows.length r.2.2.rows.length) r.2.2.rows ∧ RL R_TKV h1 a0 c0 r.1.L) := by
  unfold F_model_Model_Serve at hF
  refine evo_of rfl at_34 rfl rfl ?_
  refine go_seq ?_
  refine go_region ?_
  refine gs_box rfl (ot rfl) rfl ?_; intro b3_1
  refine gs_alloc rfl zo_73 rfl ?_; intro b4_2
  refine go_nil ?_
  refine go_seq ?_
  refine go_seq ?_
  refine go_region ?_
  refine gM rfl rfl ?_
  refine gr rfl (r_bin (v := .bool false) (ot rfl) (oc rfl) (by first | rfl | kernel_rfl)) ?_
  refine go_nil ?_
  refine g_cond (b := false) (ot rfl) (fun hc3 => ?_) (fun hc3 => ?_)
  · cases hc3
  refine go_skip ?_
  refine go_seq ?_
  refine go_seq ?_
  refine go_region ?_
  refine gr rfl (r_load (ot rfl) (lm_w (mem_seg 1 rfl) ag_61 sz_61 rfl)) ?_
  replace hF := obind hF
  obtain ⟨x4, hx4, hF⟩ := hF
  refine g_callp (v := .int .i64 x4) EE_fr rfl of (os1 (ot rfl) os0) hb_28 (fun _ => rfl) (fun hf kn w => by exact s_txn_May w p1 (f1_4.ext kn) (f1_5.ext kn) (f1_6.ext kn) hx4) ?_
  refine gA rfl rfl ?_
  refine go_nil ?_
  refine go_seq ?_
  refine go_region ?_
  refine gM rfl rfl ?_
  refine gr rfl (r_bin (ot rfl) (oc rfl) rfl) ?_
  refine go_nil ?_
  refine g_cond (b := (x4 != 0)) (ot rfl) (fun hc5 => ?_) (fun hc5 => ?_)
  ·
    replace hF := ifT hc5 hF
    refine go_seq ?_
    refine go_region ?_
    refine gM rfl rfl ?_
    refine gM rfl rfl ?_
    refine gr rfl (r_build (op1 (ot rfl) op0) rfl) ?_
    replace hF := obind hF
    obtain ⟨x6, hx6, hF⟩ := hF
    refine gs_call EE_fr hw (.cons (.s (.s (.z))) (.cons (.s (.s (.z))) (.cons (.s (.s (.z))) (.cons (.s (.s (.z))) .nil)))) (fun _ h => by cases h; rfl) of (os1 (ot rfl) (os1 (ot rfl) os0)) hb_74 (by exact s_model_Model_answer hw p0 p0o0 (⟨(⟨0, 0, 0⟩ : THead), x4, false, ([] : List TKV)⟩ : TResp) fm0o0_2 f0o0_3 (RL.nil _ _ _) hx6) ?_
    rintro v6 S6 h6 e6 w6 ⟨rw6_y0o0_2, q6_y0o0_3, t6_y0o0_3, a6_0, c6_0, rfl, rfl, f6_0, f6_1, f6_2⟩
    simp only [List.cons_append, List.nil_append]
    refine gs_store (ot rfl) (ot rfl) sz_73 rfl rfl rfl rfl rfl (.s (.s (.s (.s (.z))))) ?_
    refine go_nil ?_
    obtain rfl := someI hF
    exact g_retS (.cons_cons _ (.cons_cons _ (.cons_cons _ (.cons_cons _ (.cons _ (.cons _ (.refl _))))))) (.refl _) (rsc rfl (lm_w (mem_seg 4 rfl) ag_73 sz_73 rfl) rs0) (fun h1 hf hs => ⟨[[⟨bp0, .cells [.pointer (some ⟨bp0o0, 0, none⟩), .int .i64 x6.2.1.seq] 130⟩], [⟨bp0o0, .cells [.int .i64 x6.2.2.bounds_rev, .int .i64 x6.2.2.bounds_hor, .map (some bp0o0m2), .slice q6_y0o0_3 x6.2.2.rows.length x6.2.2.rows.length] 100⟩], [⟨bp0o0m2, .map (encM kS id rw6_y0o0_2)⟩], t6_y0o0_3], _, hf, e6, w6, hs, (ndb (by intro e; cases e) (ndb (by intro e; cases e) (ndb (by intro e; cases e) (ndt f6_1 nd0)))), ⟨_, _, _, _, _, rfl, rfl, f6_0, f6_1, f6_2⟩⟩)
  ·
    replace hF := ifF hc5 hF
    refine go_skip ?_
    refine go_seq ?_
    refine go_seq ?_
    refine go_region ?_
    refine gr rfl (r_fa (ot rfl) (fa_61_0 _ _)) ?_
    refine gr rfl (r_load (ot rfl) (lm_s (mem_seg 1 rfl) ag_3 rfl)) ?_
    refine go_nil ?_
    refine go_block ?_
    refine go_seq ?_
    refine go_region ?_
    refine gr rfl (r_bin (ot rfl) (oc rfl) rfl) ?_
    refine gA rfl rfl ?_
    refine go_nil ?_
    refine g_cond (b := (p1.Kind == 2)) (ot rfl) (fun hc7 => ?_) (fun hc7 => ?_)
    ·
      replace hF := ifT hc7 hF
      refine go_seq ?_
      refine go_region ?_
      refine gM rfl rfl ?_
      refine gM rfl rfl ?_
      refine gr rfl (r_load (ot rfl) (lm_w (mem_seg 1 rfl) ag_61 sz_61 rfl)) ?_
      replace hF := obind hF
      obtain ⟨x8, hx8, hF⟩ := hF
      refine gs_call EE_fr hw (.cons (.s (.s (.z))) (.cons (.s (.s (.z))) (.cons (.s (.s (.z))) (.cons (.s (.s (.z))) .nil)))) (fun _ h => by cases h; rfl) of (os1 (ot rfl) (os1 (ot rfl) os0)) hb_75 (by exact s_model_Model_read n hw p0 p0o0 p1 fm0o0_2 f0o0_3 f1_4 f1_5 f1_6 hx8) ?_
      rintro v8 S8 h8 e8 w8 ⟨rw8_y0o0_2, q8_y0o0_3, t8_y0o0_3, a8_0, c8_0, rfl, rfl, f8_0, f8_1, f8_2⟩
      simp only [List.cons_append, List.nil_append]
      replace hF := obind hF
      obtain ⟨x9, hx9, hF⟩ := hF
      refine gs_call EE_fr w8 (.cons .z (.cons .z (.cons .z (.cons .z .nil)))) (fun _ h => by cases h; rfl) of (os1 (ot rfl) (os1 (ot rfl) os0)) hb_74 (by exact s_model_Model_answer w8 (⟨x8.2.1.seq⟩ : Omodel_Model) (⟨x8.2.2.bounds_rev, x8.2.2.bounds_hor, x8.2.2.keys, x8.2.2.rows⟩ : Ohist_Hist) x8.1 f8_0 f8_1 f8_2 hx9) ?_
      rintro v9 S9 h9 e9 w9 ⟨rw9_y0o0_2, q9_y0o0_3, t9_y0o0_3, a9_0, c9_0, rfl, rfl, f9_0, f9_1, f9_2⟩
      simp only [List.cons_append, List.nil_append]
      refine gs_store (ot rfl) (ot rfl) sz_73 rfl rfl rfl rfl rfl (.s (.s (.s (.s (.z))))) ?_
      refine go_nil ?_
      obtain rfl := someI hF
      exact g_retS (.cons_cons _ (.cons_cons _ (.cons_cons _ (.cons_cons _ (.cons _ (.cons _ (.refl _))))))) (.refl _) (rsc rfl (lm_w (mem_seg 4 rfl) ag_73 sz_73 rfl) rs0) (fun h1 hf hs => ⟨[[⟨bp0, .cells [.pointer (some ⟨bp0o0, 0, none⟩), .int .i64 x9.2.1.seq] 130⟩], [⟨bp0o0, .cells [.int .i64 x9.2.2.bounds_rev, .int .i64 x9.2.2.bounds_hor, .map (some bp0o0m2), .slice q9_y0o0_3 x9.2.2.rows.length x9.2.2.rows.length] 100⟩], [⟨bp0o0m2, .map (encM kS id rw9_y0o0_2)⟩], t9_y0o0_3], _, hf, (e8.trans e9), w9, hs, (ndb (by intro e; cases e) (ndb (by intro e; cases e) (ndb (by intro e; cases e) (ndt f9_1 nd0)))), ⟨_, _, _, _, _, rfl, rfl, f9_0, f9_1, f9_2⟩⟩)
    ·
      replace hF := ifF hc7 hF
      refine go_seq ?_
      refine go_region ?_
      refine gr rfl (r_bin (ot rfl) (oc rfl) rfl) ?_
      refine gA rfl rfl ?_
      refine go_nil ?_
      refine g_cond (b := (p1.Kind == 3)) (ot rfl) (fun hc10 => ?_) (fun hc10 => ?_)
      ·
        replace hF := ifT hc10 hF
        refine go_seq ?_
        refine go_region ?_
        refine gM rfl rfl ?_
        refine gr rfl (r_nilck (ot rfl)) ?_
        refine gr rfl (r_fa (ot rfl) (fa_130_1 _ _)) ?_
        refine gr rfl (r_load (ot rfl) (lm_s (mem_seg 2 rfl) ag_3 rfl)) ?_
        refine gr rfl (r_bin (ot rfl) (oc rfl) rfl) ?_
        refine gr rfl (r_nilck (ot rfl)) ?_
        refine gr rfl (r_fa (ot rfl) (fa_130_1 _ _)) ?_
        refine gs_store (ot rfl) (ot rfl) sz_3 rfl rfl rfl rfl rfl (.s (.s (.z))) ?_
        refine go_nil ?_
        refine go_seq ?_
        refine go_regions (L := [(0, []), (1, []), (2, []), (3, []), (4, []), (5, []), (6, []), (7, []), (8, []), (9, []), (10, [])]) (by kernel_rfl) (by kernel_rfl) (fun _ => rfl) ?_
        refine go_sop rfl rfl ?_
        refine gM rfl rfl ?_
        refine go_nil ?_
        refine go_sop rfl rfl ?_
        refine gM rfl rfl ?_
        refine go_nil ?_
        refine go_sop rfl rfl ?_
        refine gr rfl (r_nilck (ot rfl)) ?_
        refine go_nil ?_
        refine go_sop rfl rfl ?_
        refine gr rfl (r_fa (ot rfl) (fa_130_0 _ _)) ?_
        refine go_nil ?_
        refine go_sop rfl rfl ?_
        refine gr rfl (r_load (ot rfl) (lm_s (mem_seg 2 rfl) ag_25 rfl)) ?_
        refine go_nil ?_
        refine go_sop rfl rfl ?_
        refine gr rfl (r_fa (ot rfl) (fa_61_2 _ _)) ?_
        refine go_nil ?_
        refine go_sop rfl rfl ?_
        refine gr rfl (r_load (ot rfl) (lm_s (mem_seg 1 rfl) ag_3 rfl)) ?_
        refine go_nil ?_
        refine go_sop rfl rfl ?_
        replace hF := obind hF
        obtain ⟨x11, hx11, hF⟩ := hF
        refine gs_call EE_fr hw (.cons (.s (.s (.s (.z)))) (.cons (.s (.s (.s (.z)))) (.cons (.s (.s (.s (.z)))) .nil))) (fun _ h => by cases h; rfl) of (os1 (ot rfl) (os1 (ot rfl) os0)) hb_24 (by exact s_hist_Hist_Compact hw p0o0 p1.Rev fm0o0_2 f0o0_3 hx11) ?_
        rintro v11 S11 h11 e11 w11 ⟨rw11_y0_2, q11_y0_3, t11_y0_3, rfl, rfl, f11_0, f11_1⟩
        simp only [List.cons_append, List.nil_append]
        refine go_nil ?_
        refine go_sop rfl rfl ?_
        refine gr rfl (r_build (op1 (ot rfl) op0) rfl) ?_
        refine go_nil ?_
        refine go_sop rfl rfl ?_
        replace hF := obind hF
        obtain ⟨x12, hx12, hF⟩ := hF
        refine gs_call EE_fr w11 (.cons (.s (.s (.s (.s (.s (.z)))))) (.cons .z (.cons .z (.cons .z .nil)))) (fun _ h => by cases h; rfl) of (os1 (ot rfl) (os1 (ot rfl) os0)) hb_74 (by exact s_model_Model_answer w11 (⟨(IntKind.i64.wrap (p0.seq + 1))⟩ : Omodel_Model) (⟨x11.2.bounds_rev, x11.2.bounds_hor, x11.2.keys, x11.2.rows⟩ : Ohist_Hist) (⟨(⟨0, 0, 0⟩ : THead), x11.1, false, ([] : List TKV)⟩ : TResp) f11_0 f11_1 (RL.nil _ _ _) hx12) ?_
        rintro v12 S12 h12 e12 w12 ⟨rw12_y0o0_2, q12_y0o0_3, t12_y0o0_3, a12_0, c12_0, rfl, rfl, f12_0, f12_1, f12_2⟩
        simp only [List.cons_append, List.nil_append]
        refine go_nil ?_
        refine go_sop rfl rfl ?_
        refine gs_store (ot rfl) (ot rfl) sz_73 rfl rfl rfl rfl rfl (.s (.s (.s (.s (.z))))) ?_
        refine go_nil ?_
        refine go_snil ?_
        obtain rfl := someI hF
        exact g_retS (.cons_cons _ (.cons_cons _ (.cons_cons _ (.cons_cons _ (.cons _ (.cons _ (.refl _))))))) (.refl _) (rsc rfl (lm_w (mem_seg 4 rfl) ag_73 sz_73 rfl) rs0) (fun h1 hf hs => ⟨[[⟨bp0, .cells [.pointer (some ⟨bp0o0, 0, none⟩), .int .i64 x12.2.1.seq] 130⟩], [⟨bp0o0, .cells [.int .i64 x12.2.2.bounds_rev, .int .i64 x12.2.2.bounds_hor, .map (some bp0o0m2), .slice q12_y0o0_3 x12.2.2.rows.length x12.2.2.rows.length] 100⟩], [⟨bp0o0m2, .map (encM kS id rw12_y0o0_2)⟩], t12_y0o0_3], _, hf, (e11.trans e12), w12, hs, (ndb (by intro e; cases e) (ndb (by intro e; cases e) (ndb (by intro e; cases e) (ndt f12_1 nd0)))), ⟨_, _, _, _, _, rfl, rfl, f12_0, f12_1, f12_2⟩⟩)
      ·
        replace hF := ifF hc10 hF
        refine go_skip ?_
        refine go_endb ?_
        refine go_seq ?_
        refine go_region ?_
        refine gM rfl rfl ?_
        refine gr rfl (r_nilck (ot rfl)) ?_
        refine gr rfl (r_fa (ot rfl) (fa_130_1 _ _)) ?_
        refine gr rfl (r_load (ot rfl) (lm_s (mem_seg 2 rfl) ag_3 rfl)) ?_
        refine gr rfl (r_bin (ot rfl) (oc rfl) rfl) ?_
        refine gr rfl (r_nilck (ot rfl)) ?_
        refine gr rfl (r_fa (ot rfl) (fa_130_1 _ _)) ?_
        refine gs_store (ot rfl) (ot rfl) sz_3 rfl rfl rfl rfl rfl (.s (.s (.z))) ?_
        refine go_nil ?_
        refine go_seq ?_
        refine go_region ?_
        refine gM rfl rfl ?_
        refine gM rfl rfl ?_
        refine gr rfl (r_load (ot rfl) (lm_w (mem_seg 1 rfl) ag_61 sz_61 rfl)) ?_
        replace hF := obind hF
        obtain ⟨x13, hx13, hF⟩ := hF
        refine gs_call EE_fr hw (.cons (.s (.s (.z))) (.cons (.s (.s (.z))) (.cons (.s (.s (.z))) (.cons (.s (.s (.z))) .nil)))) (fun _ h => by cases h; rfl) of (os1 (ot rfl) (os1 (ot rfl) os0)) hb_76 (by exact s_model_Model_change n hw (⟨(IntKind.i64.wrap (p0.seq + 1))⟩ : Omodel_Model) p0o0 p1 fm0o0_2 f0o0_3 f1_4 f1_5 f1_6 hx13) ?_
        rintro v13 S13 h13 e13 w13 ⟨rw13_y0o0_2, q13_y0o0_3, t13_y0o0_3, a13_0, c13_0, rfl, rfl, f13_0, f13_1, f13_2⟩
        simp only [List.cons_append, List.nil_append]
        replace hF := obind hF
        obtain ⟨x14, hx14, hF⟩ := hF
        refine gs_call EE_fr w13 (.cons .z (.cons .z (.cons .z (.cons .z .nil)))) (fun _ h => by cases h; rfl) of (os1 (ot rfl) (os1 (ot rfl) os0)) hb_74 (by exact s_model_Model_answer w13 (⟨x13.2.1.seq⟩ : Omodel_Model) (⟨x13.2.2.bounds_rev, x13.2.2.bounds_hor, x13.2.2.keys, x13.2.2.rows⟩ : Ohist_Hist) x13.1 f13_0 f13_1 f13_2 hx14) ?_
        rintro v14 S14 h14 e14 w14 ⟨rw14_y0o0_2, q14_y0o0_3, t14_y0o0_3, a14_0, c14_0, rfl, rfl, f14_0, f14_1, f14_2⟩
        simp only [List.cons_append, List.nil_append]
        refine gs_store (ot rfl) (ot rfl) sz_73 rfl rfl rfl rfl rfl (.s (.s (.s (.s (.z))))) ?_
        refine go_nil ?_
        obtain rfl := someI hF
        exact g_retS (.cons_cons _ (.cons_cons _ (.cons_cons _ (.cons_cons _ (.cons _ (.cons _ (.refl _))))))) (.refl _) (rsc rfl (lm_w (mem_seg 4 rfl) ag_73 sz_73 rfl) rs0) (fun h1 hf hs => ⟨[[⟨bp0, .cells [.pointer (some ⟨bp0o0, 0, none⟩), .int .i64 x14.2.1.seq] 130⟩], [⟨bp0o0, .cells [.int .i64 x14.2.2.bounds_rev, .int .i64 x14.2.2.bounds_hor, .map (some bp0o0m2), .slice q14_y0o0_3 x14.2.2.rows.length x14.2.2.rows.length] 100⟩], [⟨bp0o0m2, .map (encM kS id rw14_y0o0_2)⟩], t14_y0o0_3], _, hf, (e13.trans e14), w14, hs, (ndb (by intro e; cases e) (ndb (by intro e; cases e) (ndb (by intro e; cases e) (ndt f14_1 nd0)))), ⟨_, _, _, _, _, rfl, rfl, f14_0, f14_1, f14_2⟩⟩)
theorem s_model_Model_Hist {h : Heap} (hw : Wf h) (p0 : Omodel_Model) (p0o0 : Ohist_Hist) {bp0 : Nat} {bp0o0 : Nat} {bp0o0m2 : Nat} {rw0o0_2 : List (ByteArray × Value)} {q0o0_3 : Option Addr} {t0o0_3 : List Blk} (fm0o0_2 : MR R_TEvent h rw0o0_2 p0o0.keys) (f0o0_3 : AccR (Rep.sl R_TEvent 50) 50 h t0o0_3 (.slice q0o0_3 p0o0.rows.length p0o0.rows.length) p0o0.rows) {r : Ohist_Hist × Omodel_Model × Ohist_Hist} (hF : F_model_Model_Hist p0 p0o0 = some r) :
    EvO EE 37 [.pointer (some ⟨bp0, 0, none⟩)] [[⟨bp0, .cells [.pointer (some ⟨bp0o0, 0, none⟩), .int .i64 p0.seq] 130⟩], [⟨bp0o0, .cells [.int .i64 p0o0.bounds_rev, .int .i64 p0o0.bounds_hor, .map (some bp0o0m2), .slice q0o0_3 p0o0.rows.length p0o0.rows.length] 100⟩], [⟨bp0o0m2, .map (encM kS id rw0o0_2)⟩], t0o0_3] h (fun v S h1 => ∃ rwy0o0_2 qy0o0_3 ty0o0_3 bw0 bw0m2 rww0_2 qw0_3 tw0_3, v = .pointer (some ⟨bw0, 0, none⟩) ∧ S = [[⟨bp0, .cells [.pointer (some ⟨bp0o0, 0, none⟩), .int .i64 r.2.1.seq] 130⟩], [⟨bp0o0, .cells [.int .i64 r.2.2.bounds_rev, .int .i64 r.2.2.bounds_hor, .map (some bp0o0m2), .slice qy0o0_3 r.2.2.rows.length r.2.2.rows.length] 100⟩], [⟨bp0o0m2, .map (encM kS id rwy0o0_2)⟩], ty0o0_3, [⟨bw0, .cells [.int .i64 r.1.bounds_rev, .int .i64 r.1.bounds_hor, .map (some bw0m2), .slice qw0_3 r.1.rows.length r.1.rows.length] 100⟩], [⟨bw0m2, .map (encM kS id rww0_2)⟩], tw0_3] ∧ MR R_TEvent h1 rwy0o0_2 r.2.2.keys ∧ AccR (Rep.sl R_TEvent 50) 50 h1 ty0o0_3 (.slice qy0o0_3 r.2.2.rows.length r.2.2.rows.length) r.2.2.rows ∧ MR R_TEvent h1 rww0_2 r.1.keys ∧ AccR (Rep.sl R_TEvent 50) 50 h1 tw0_3 (.slice qw0_3 r.1.rows.length r.1.rows.length) r.1.rows) := by
  unfold F_model_Model_Hist at hF
  refine evo_of rfl at_37 rfl rfl ?_
  refine go_seq ?_
  refine go_region ?_
  refine gAc rfl rfl ?_
  refine go_nil ?_
  refine go_seq ?_
  refine go_seq ?_
  refine go_region ?_
  refine gM rfl rfl ?_
  refine gr rfl (r_bin (v := .bool false) (ot rfl) (oc rfl) (by first | rfl | kernel_rfl)) ?_
  refine go_nil ?_
  refine g_cond (b := false) (ot rfl) (fun hc1 => ?_) (fun hc1 => ?_)
  · cases hc1
  refine go_skip ?_
  refine go_seq ?_
  refine go_region ?_
  refine gM rfl rfl ?_
  refine gr rfl (r_nilck (ot rfl)) ?_
  refine gr rfl (r_fa (ot rfl) (fa_130_0 _ _)) ?_
  refine gr rfl (r_load (ot rfl) (lm_s (mem_seg 0 rfl) ag_25 rfl)) ?_
  replace hF := obind hF
  obtain ⟨x2, hx2, hF⟩ := hF
  refine gs_call EE_fr hw (.cons (.s (.z)) (.cons (.s (.z)) (.cons (.s (.z)) .nil))) (fun _ h => by cases h; rfl) of (os1 (ot rfl) os0) hb_25 (by exact s_hist_Hist_Copy hw p0o0 fm0o0_2 f0o0_3 hx2) ?_
  rintro v2 S2 h2 e2 w2 ⟨rw2_y0_2, q2_y0_3, t2_y0_3, b2_w0, b2_w0m2, rw2_w0_2, q2_w0_3, t2_w0_3, rfl, rfl, f2_0, f2_1, f2_2, f2_3⟩
  simp only [List.cons_append, List.nil_append]
  refine gA rfl rfl ?_
  refine go_nil ?_
  obtain rfl := someI hF
  refine gs_perm (perm_of (d := []) _ [6, 0, 1, 2, 3, 4, 5] rfl) ?_
  exact g_ret (rst rfl rs0) (fun h1 hf hs => ⟨[[⟨bp0, .cells [.pointer (some ⟨bp0o0, 0, none⟩), .int .i64 p0.seq] 130⟩], [⟨bp0o0, .cells [.int .i64 x2.2.bounds_rev, .int .i64 x2.2.bounds_hor, .map (some bp0o0m2), .slice q2_y0_3 x2.2.rows.length x2.2.rows.length] 100⟩], [⟨bp0o0m2, .map (encM kS id rw2_y0_2)⟩], t2_y0_3, [⟨b2_w0, .cells [.int .i64 x2.1.bounds_rev, .int .i64 x2.1.bounds_hor, .map (some b2_w0m2), .slice q2_w0_3 x2.1.rows.length x2.1.rows.length] 100⟩], [⟨b2_w0m2, .map (encM kS id rw2_w0_2)⟩], t2_w0_3], _, hf, e2, w2, hs, (ndb (by intro e; cases e) (ndb (by intro e; cases e) (ndb (by intro e; cases e) (ndt f2_1 (ndb (by intro e; cases e) (ndb (by intro e; cases e) (ndt f2_3 nd0))))))), ⟨_, _, _, _, _, _, _, _, rfl, rfl, f2_0, f2_1, f2_2, f2_3⟩⟩)
theorem s_model_Model_Serve_nil {h : Heap} (hw : Wf h) (p1 : TReq) {a1_4 : Option Addr} {c1_4 : Nat} {a1_5 : Option Addr} {c1_5 : Nat} {a1_6 : Option Addr} {c1_6 : Nat} (f1_4 : RL R_TCmp h a1_4 c1_4 p1.Cmps) (f1_5 : RL R_TOp h a1_5 c1_5 p1.Then) (f1_6 : RL R_TOp h a1_6 c1_6 p1.Else) {r : TResp} (hF : F_model_Model_Serve_nil p1 = some r) :
    Ev EE 34 [.pointer none, .agg #[.int .i64 p1.Kind, .string p1.R.From, .string p1.R.To, .int .i64 p1.Rev, .slice a1_4 p1.Cmps.length c1_4, .slice a1_5 p1.Then.length c1_5, .slice a1_6 p1.Else.length c1_6]] h (fun v h1 => ∃ a0 c0, v = .agg #[.int .i64 r.H.Seq, .int .i64 r.H.Rev, .int .i64 r.H.Hor, .int .i64 r.Err, .bool r.Ok, .slice a0 r.L.length c0] ∧ RL R_TKV h1 a0 c0 r.L) := by
  unfold F_model_Model_Serve_nil at hF
  refine ev_of hw rfl at_34 rfl rfl (go_seg0 ?_)
  refine go_seq ?_
  refine go_region ?_
  refine gs_box rfl (ot rfl) rfl ?_; intro b3_1
  refine gs_alloc rfl zo_73 rfl ?_; intro b4_2
  refine go_nil ?_
  refine go_seq ?_
  refine go_seq ?_
  refine go_region ?_
  refine gM rfl rfl ?_
  refine gr rfl (r_bin (v := .bool true) (ot rfl) (oc rfl) (by first | rfl | kernel_rfl)) ?_
  refine go_nil ?_
  refine g_cond (b := true) (ot rfl) (fun hc3 => ?_) (fun hc3 => ?_)
  rotate_left
  · cases hc3
  refine go_seq ?_
  refine go_region ?_
  refine gr rfl (r_build (op1 (oc rfl) op0) rfl) ?_
  refine gs_store (ot rfl) (ot rfl) sz_73 rfl rfl rfl rfl rfl .z ?_
  refine go_nil ?_
  obtain rfl := someI hF
  exact g_ret (rsc rfl (lm_w (mem_seg 0 rfl) ag_73 sz_73 rfl) rs0) (fun h1 hf hs => ⟨hs.hext, ⟨_, _, rfl, (RL.nil _ _ _)⟩⟩)
theorem s_model_Model_Head_nil {h : Heap} (hw : Wf h)    {r : THead} (hF : F_model_Model_Head_nil  = some r) :
    Ev EE 35 [.pointer none] h (fun v _ => v = .agg #[.int .i64 r.Seq, .int .i64 r.Rev, .int .i64 r.Hor]) := by
  unfold F_model_Model_Head_nil at hF
  refine ev_of hw rfl at_35 rfl rfl (go_seg0 ?_)
  refine go_seq ?_
  refine go_region ?_
  refine gs_alloc rfl zo_71 rfl ?_; intro b2_1
  refine go_nil ?_
  refine go_seq ?_
  refine go_seq ?_
  refine go_region ?_
  refine gM rfl rfl ?_
  refine gr rfl (r_bin (v := .bool true) (ot rfl) (oc rfl) (by first | rfl | kernel_rfl)) ?_
  refine go_nil ?_
  refine g_cond (b := true) (ot rfl) (fun hc2 => ?_) (fun hc2 => ?_)
  rotate_left
  · cases hc2
  refine go_seq ?_
  refine go_region ?_
  refine gr rfl (r_build op0 rfl) ?_
  refine gs_store (ot rfl) (ot rfl) sz_71 rfl rfl rfl rfl rfl .z ?_
  refine go_nil ?_
  obtain rfl := someI hF
  exact g_ret (rsc rfl (lm_w (mem_seg 0 rfl) ag_71 sz_71 rfl) rs0) (fun h1 hf hs => ⟨hs.hext, rfl⟩)
theorem s_model_Model_Hist_nil {h : Heap} (hw : Wf h)    {r : Unit} (hF : F_model_Model_Hist_nil  = some r) :
    Ev EE 37 [.pointer none] h (fun v _ => v = .pointer none) := by
  unfold F_model_Model_Hist_nil at hF
  refine ev_of hw rfl at_37 rfl rfl (go_seg0 ?_)
  refine go_seq ?_
  refine go_region ?_
  refine gAc rfl rfl ?_
  refine go_nil ?_
  refine go_seq ?_
  refine go_seq ?_
  refine go_region ?_
  refine gM rfl rfl ?_
  refine gr rfl (r_bin (v := .bool true) (ot rfl) (oc rfl) (by first | rfl | kernel_rfl)) ?_
  refine go_nil ?_
  refine g_cond (b := true) (ot rfl) (fun hc1 => ?_) (fun hc1 => ?_)
  rotate_left
  · cases hc1
  refine go_seq ?_
  refine go_region ?_
  refine gAc rfl rfl ?_
  refine go_nil ?_
  obtain rfl := someI hF
  exact g_ret (rst rfl rs0) (fun h1 hf hs => ⟨hs.hext, rfl⟩)
end Go.Proofs.Ytpfdandpmpmbiaa.V
