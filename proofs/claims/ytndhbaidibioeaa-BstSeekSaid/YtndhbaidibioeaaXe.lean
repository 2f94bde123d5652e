/- Walks.
   No condition: these are laws of the clean machine and of this program. -/
import Derived.Test.YtndhbaidibioeaaXd
namespace Go.Proofs.Ytndhbaidibioeaa.V
open Go
set_option linter.unusedVariables false
set_option linter.unusedSimpArgs false
set_option maxRecDepth 100000
set_option maxHeartbeats 4000000
theorem s_law15_ran (n : Nat) {h : Heap} (hw : Wf h) (p0 : (List Timpostlaw15_Deed)) {a0_0 : Option Addr} {c0_0 : Nat} (f0_0 : RL R_Timpostlaw15_Deed h a0_0 c0_0 p0) {r : Obst_Tree × Omem_Mem} (hF : F_law15_ran n p0 = some r) :
    EvO EE 19 [.slice a0_0 p0.length c0_0] [] h (fun v S h1 => ∃ bw0 qw0_1 tw0_1 qw0_2 tw0_2 bw0o0 qw0o0_0 tw0o0_0, v = .tuple #[.pointer (some ⟨bw0, 0, none⟩), .pointer (some ⟨bw0o0, 0, none⟩)] ∧ S = [[⟨bw0, .cells [.pointer (some ⟨bw0o0, 0, none⟩), .slice qw0_1 r.1.nodes.length r.1.nodes.length, .slice qw0_2 r.1.infos.length r.1.infos.length] 83⟩], tw0_1, tw0_2, [⟨bw0o0, .cells [.slice qw0o0_0 r.2.cells.length r.2.cells.length, .int .i64 r.2.count] 94⟩], tw0o0_0] ∧ AccR R_Tbst_node 89 h1 tw0_1 (.slice qw0_1 r.1.nodes.length r.1.nodes.length) r.1.nodes ∧ AccR R_Tbst_info 86 h1 tw0_2 (.slice qw0_2 r.1.infos.length r.1.infos.length) r.1.infos ∧ AccR (RI_ .u64 29) 29 h1 tw0o0_0 (.slice qw0o0_0 r.2.cells.length r.2.cells.length) r.2.cells) := by
  unfold F_law15_ran at hF
  refine evo_of rfl at_19 rfl rfl ?_
  refine go_seq ?_
  refine go_region ?_
  refine gAc rfl rfl ?_
  refine gAc rfl rfl ?_
  refine go_nil ?_
  refine go_seq ?_
  refine go_region ?_
  replace hF := obind hF
  obtain ⟨x2, hx2, hF⟩ := hF
  refine gs_call EE_fr hw .nil (fun _ h => by cases h; rfl) of (os1 (oc rfl) os0) hb_11 (by exact s_mem_New_nil hw   hx2) ?_
  rintro v2 S2 h2 e2 w2 ⟨b2_w0, q2_w0_0, t2_w0_0, rfl, rfl, f2_0⟩
  simp only [List.cons_append, List.nil_append]
  refine gA rfl rfl ?_
  refine go_nil ?_
  refine go_seq ?_
  refine go_region ?_
  refine gM rfl rfl ?_
  replace hF := obind hF
  obtain ⟨x3, hx3, hF⟩ := hF
  refine gs_call EE_fr w2 (.cons .z (.cons .z .nil)) (fun _ h => by cases h; rfl) of (os1 (ot rfl) os0) hb_10 (by exact s_bst_New w2 x2 f2_0 hx3) ?_
  rintro v3 S3 h3 e3 w3 ⟨b3_w0, q3_w0_1, t3_w0_1, q3_w0_2, t3_w0_2, q3_w0o0_0, t3_w0o0_0, rfl, rfl, f3_0, f3_1, f3_2⟩
  simp only [List.cons_append, List.nil_append]
  refine gA rfl rfl ?_
  refine go_nil ?_
  refine go_seq ?_
  refine go_seq ?_
  refine go_region ?_
  refine gAc rfl rfl ?_
  refine go_nil ?_
  replace hF := obind hF
  obtain ⟨s4, hF, hK4⟩ := hF
  refine go_joinc (β := Option Addr × List Blk × Option Addr × List Blk × Option Addr × List Blk) (fun s h' => AccR R_Tbst_node 89 h' s.2.1 (.slice s.1 s4.1.length s4.1.length) s4.1 ∧ AccR R_Tbst_info 86 h' s.2.2.2.1 (.slice s.2.2.1 s4.2.1.length s4.2.1.length) s4.2.1 ∧ AccR (RI_ .u64 29) 29 h' s.2.2.2.2.2 (.slice s.2.2.2.2.1 s4.2.2.1.length s4.2.2.1.length) s4.2.2.1) (fun s => [(2, true, .pointer none), (3, true, .pointer none), (4, true, .pointer (some ⟨b2_w0, 0, none⟩)), (5, true, .pointer (some ⟨b3_w0, 0, none⟩))]) (fun s => (List.flatten [[⟨b3_w0, .cells [.pointer (some ⟨b2_w0, 0, none⟩), .slice s.1 s4.1.length s4.1.length, .slice s.2.2.1 s4.2.1.length s4.2.1.length] 83⟩], s.2.1, s.2.2.2.1, [⟨b2_w0, .cells [.slice s.2.2.2.2.1 s4.2.2.1.length s4.2.2.1.length, .int .i64 s4.2.2.2] 94⟩], s.2.2.2.2.2] : List Blk)) ?_ (fun J4 => ?_)
  ·
    rintro ⟨a4_0, a4_1, a4_2, a4_3, a4_4, a4_5⟩ h4 e4 w4 ⟨f4_0, f4_1, f4_2⟩
    replace hF := hK4
    refine go_seq ?_
    refine go_region ?_
    refine gM rfl rfl ?_
    refine gM rfl rfl ?_
    refine gA rfl rfl ?_
    refine gA rfl rfl ?_
    refine go_nil ?_
    obtain rfl := someI hF
    exact g_ret (rst rfl (rst rfl rs0)) (fun h1 hf hs => ⟨[[⟨b3_w0, .cells [.pointer (some ⟨b2_w0, 0, none⟩), .slice a4_0 s4.1.length s4.1.length, .slice a4_2 s4.2.1.length s4.2.1.length] 83⟩], a4_1, a4_3, [⟨b2_w0, .cells [.slice a4_4 s4.2.2.1.length s4.2.2.1.length, .int .i64 s4.2.2.2] 94⟩], a4_5], _, hf, (e2.trans (e3.trans e4)), w4, hs, (ndb (by intro e; cases e) (ndt f4_0 (ndt f4_1 (ndb (by intro e; cases e) (ndt f4_2 nd0))))), ⟨_, _, _, _, _, _, _, _, rfl, rfl, f4_0, f4_1, f4_2⟩⟩)
  ·
    refine go_block ?_
    refine go_loop (α := (List Timpostlaw15_Deed) × Nat × (List Tbst_node) × (List Tbst_info) × (List Int) × Int × Option Addr × List Blk × Option Addr × List Blk × Option Addr × List Blk × Heap) (fun a => a.1 = List.drop a.2.1 p0 ∧ HExt h3 a.2.2.2.2.2.2.2.2.2.2.2.2 ∧ Wf a.2.2.2.2.2.2.2.2.2.2.2.2 ∧ F_law15_ran_L1 n a.1 a.2.1 a.2.2.1 a.2.2.2.1 a.2.2.2.2.1 a.2.2.2.2.2.1 = some s4 ∧ AccR R_Tbst_node 89 a.2.2.2.2.2.2.2.2.2.2.2.2 a.2.2.2.2.2.2.2.1 (.slice a.2.2.2.2.2.2.1 a.2.2.1.length a.2.2.1.length) a.2.2.1 ∧ AccR R_Tbst_info 86 a.2.2.2.2.2.2.2.2.2.2.2.2 a.2.2.2.2.2.2.2.2.2.1 (.slice a.2.2.2.2.2.2.2.2.1 a.2.2.2.1.length a.2.2.2.1.length) a.2.2.2.1 ∧ AccR (RI_ .u64 29) 29 a.2.2.2.2.2.2.2.2.2.2.2.2 a.2.2.2.2.2.2.2.2.2.2.2.1 (.slice a.2.2.2.2.2.2.2.2.2.2.1 a.2.2.2.2.1.length a.2.2.2.2.1.length) a.2.2.2.2.1) (fun a => a.1.length) (fun a => [(0, true, .slice a0_0 p0.length c0_0), (2, true, .pointer none), (3, true, .pointer none), (4, true, .pointer (some ⟨b2_w0, 0, none⟩)), (5, true, .pointer (some ⟨b3_w0, 0, none⟩)), (6, true, .int .i64 (a.2.1 : Int))]) (fun a => (List.flatten [[⟨b3_w0, .cells [.pointer (some ⟨b2_w0, 0, none⟩), .slice a.2.2.2.2.2.2.1 a.2.2.1.length a.2.2.1.length, .slice a.2.2.2.2.2.2.2.2.1 a.2.2.2.1.length a.2.2.2.1.length] 83⟩], a.2.2.2.2.2.2.2.1, a.2.2.2.2.2.2.2.2.2.1, [⟨b2_w0, .cells [.slice a.2.2.2.2.2.2.2.2.2.2.1 a.2.2.2.2.1.length a.2.2.2.2.1.length, .int .i64 a.2.2.2.2.2.1] 94⟩], a.2.2.2.2.2.2.2.2.2.2.2.1] : List Blk)) (fun a => a.2.2.2.2.2.2.2.2.2.2.2.2) ?_ (p0, 0, x3.1.nodes, x3.1.infos, x3.2.cells, x3.2.count, q3_w0_1, t3_w0_1, q3_w0_2, t3_w0_2, q3_w0o0_0, t3_w0o0_0, h3) ⟨rfl, HExt.refl _, w3, hF, f3_0, f3_1, f3_2⟩ (Sub.cons (Sub.cons (Sub.cons (Sub.cons (Sub.cons (Sub.cons (Sub.nil _) rfl) rfl) rfl) rfl) rfl) rfl) rfl rfl
    rintro ⟨r5, i5, y5_0, y5_1, y5_2, y5_3, a5_0, a5_1, a5_2, a5_3, a5_4, a5_5, h5⟩ ⟨hr5, e5, w5, hF, f5_0, f5_1, f5_2⟩ ih5
    rcases r5 with _ | ⟨z5, r5⟩
    ·
      have hi5 := drop_nil hr5
      rw [F_law15_ran_L1.eq_1] at hF
      refine go_seq ?_
      refine go_seq ?_
      refine go_region ?_
      refine gM rfl rfl ?_
      refine gM rfl rfl ?_
      refine gr rfl (r_len rfl (os1 (ot rfl) os0) (fun _ _ => ln_22)) ?_
      refine gr rfl (r_bin (ot rfl) (ot rfl) rfl) ?_
      refine go_cast (.bool false) (congrArg Value.bool (decide_eq_false hi5)) ?_
      refine gM rfl rfl ?_
      refine g_no rfl rfl rfl rfl rfl ?_
      refine g_no rfl rfl rfl rfl rfl ?_
      refine gr rfl (r_pkF (ot rfl) (oc rfl)) ?_
      refine go_nil ?_
      refine g_cond (b := false) (ot rfl) (fun hc6 => ?_) (fun hc6 => ?_)
      · cases hc6
      refine go_exit rfl ?_
      obtain rfl := someI hF
      exact Goes.weak (J4 (a5_0, a5_1, a5_2, a5_3, a5_4, a5_5) _ e5 w5 ⟨f5_0, f5_1, f5_2⟩) (Sub.cons (Sub.cons (Sub.cons (Sub.cons (Sub.nil _) rfl) rfl) rfl) rfl)
    ·
      obtain ⟨hi5, hx5, hr5⟩ := drop_cons hr5
      have hb5 := (((f0_0.ext e2.kn).ext e3.kn).ext e5.kn).1
      rw [F_law15_ran_L1.eq_2] at hF
      refine go_seq ?_
      refine go_seq ?_
      refine go_region ?_
      refine gM rfl rfl ?_
      refine gM rfl rfl ?_
      refine gr rfl (r_len rfl (os1 (ot rfl) os0) (fun _ _ => ln_22)) ?_
      refine gr rfl (r_bin (ot rfl) (ot rfl) rfl) ?_
      refine go_cast (.bool true) (congrArg Value.bool (decide_eq_true (Int.ofNat_lt.mpr hi5))) ?_
      refine gM rfl rfl ?_
      refine g_do rfl rfl rfl ?_
      refine gM rfl rfl ?_
      refine g_do rfl rfl rfl ?_
      refine gr rfl (r_bin (ot rfl) (oc rfl) rfl) ?_
      refine gr rfl (r_pkT (ot rfl) (ot rfl)) ?_
      refine go_nil ?_
      refine g_cond (b := (decide ((i5 : Int) < 60))) (ot rfl) (fun hc7 => ?_) (fun hc7 => ?_)
      ·
        replace hF := ifT hc7 hF
        refine go_skip ?_
        refine go_seq ?_
        refine go_block ?_
        refine go_region ?_
        refine gM rfl rfl ?_
        refine gM rfl rfl ?_
        refine gM rfl rfl ?_
        obtain ⟨q8, row8, i8, cl8, rc8, sp8⟩ := ix (ik := .i64) (cap := c0_0) (E := EE) (((f0_0.ext e2.kn).ext e3.kn).ext e5.kn) ((getI_nat _ _).trans hx5) ut_22 sz_37 rfl
        obtain rfl := rc8
        refine gr rfl (r_ia (ot rfl) (ot rfl) i8) ?_
        refine gr rfl (r_load (ot rfl) (v := .agg #[.int .i64 z5.Kind, .string z5.Key, .int .u64 z5.Val]) (lo_e (fun hf kn => ld_of (r := [.int .i64 z5.Kind, .string z5.Key, .int .u64 z5.Val]) ag_37 sz_37 (kn.cellsAt cl8)))) ?_
        replace hF := obind hF
        obtain ⟨x9, hx9, hF⟩ := hF
        refine gs_call EE_fr w5 (.cons .z (.cons .z (.cons .z (.cons .z (.cons .z .nil))))) (fun _ h => by cases h; rfl) of (os1 (ot rfl) (os1 (ot rfl) os0)) hb_13 (by exact s_law15_begun n w5 (⟨y5_0, y5_1⟩ : Obst_Tree) (⟨y5_2, y5_3⟩ : Omem_Mem) z5 f5_0 f5_1 f5_2 hx9) ?_
        rintro v9 S9 h9 e9 w9 ⟨q9_y0_1, t9_y0_1, q9_y0_2, t9_y0_2, q9_y0o0_0, t9_y0o0_0, b9_w0, v9_w0_4, t9_w0_4, rfl, rfl, f9_0, f9_1, f9_2, f9_3⟩
        simp only [List.cons_append, List.nil_append]
        replace hF := obind hF
        obtain ⟨x10, hx10, hF⟩ := hF
        refine gs_call EE_fr w9 (.cons .z (.cons .z (.cons .z (.cons .z (.cons .z (.cons .z (.cons .z .nil))))))) (fun _ h => by cases h; rfl) of (os1 (ot rfl) os0) hb_12 (by exact s_bst_Run n w9 (⟨x9.2.1.nodes, x9.2.1.infos⟩ : Obst_Tree) (⟨x9.2.2.cells, x9.2.2.count⟩ : Omem_Mem) (⟨x9.1.told_Ok, x9.1.told_Key, x9.1.told_Val, x9.1.told_Err, x9.1.next⟩ : Obst_Call_2) f9_0 f9_1 f9_2 f9_3 hx10) ?_
        rintro v10 S10 h10 e10 w10 ⟨q10_y0_1, t10_y0_1, q10_y0_2, t10_y0_2, q10_y0o0_0, t10_y0o0_0, v10_y1_4, t10_y1_4, rfl, rfl, f10_0, f10_1, f10_2, f10_3⟩
        simp only [List.cons_append, List.nil_append]
        refine go_nil ?_
        refine go_endb ?_
        refine go_region ?_
        refine gM rfl rfl ?_
        refine gr rfl (r_bin (ot rfl) (oc rfl) rfl) ?_
        refine gA rfl rfl ?_
        refine go_nil ?_
        refine gs_sub (.cons_cons _ (.cons_cons _ (.cons_cons _ (.cons_cons _ (.cons_cons _ (.cons _ (.cons _ (.refl _)))))))) ?_
        refine go_re 6 (v2 := .int .i64 ((i5 + 1 : Nat) : Int)) rfl (wrap_succ hi5 hb5) ?_
        exact Goes.weak (ih5 (r5, i5 + 1, x10.2.1.nodes, x10.2.1.infos, x10.2.2.1.cells, x10.2.2.1.count, q10_y0_1, t10_y0_1, q10_y0_2, t10_y0_2, q10_y0o0_0, t10_y0o0_0, h10) ⟨hr5, (e5.trans (e9.trans e10)), w10, hF, f10_0, f10_1, f10_2⟩ (Nat.lt_succ_self _)) (Sub.cons (Sub.cons (Sub.cons (Sub.cons (Sub.cons (Sub.cons (Sub.nil _) rfl) rfl) rfl) rfl) rfl) rfl)
      ·
        replace hF := ifF hc7 hF
        refine go_exit rfl ?_
        obtain rfl := someI hF
        exact Goes.weak (J4 (a5_0, a5_1, a5_2, a5_3, a5_4, a5_5) _ e5 w5 ⟨f5_0, f5_1, f5_2⟩) (Sub.cons (Sub.cons (Sub.cons (Sub.cons (Sub.nil _) rfl) rfl) rfl) rfl)
theorem s_ref14_In {h : Heap} (hw : Wf h) (p0 : (List ByteArray)) (p1 : ByteArray) {a0_0 : Option Addr} {c0_0 : Nat} (f0_0 : RL (RS_ 9) h a0_0 c0_0 p0) {r : Bool} (hF : F_ref14_In p0 p1 = some r) :
    Ev EE 23 [.slice a0_0 p0.length c0_0, .string p1] h (fun v _ => v = .bool r) := by
  unfold F_ref14_In at hF
  refine ev_of hw rfl at_23 rfl rfl (go_seg0 ?_)
  refine go_seq ?_
  refine go_region ?_
  refine gAc rfl rfl ?_
  refine go_nil ?_
  refine go_seq ?_
  refine go_seq ?_
  refine go_region ?_
  refine gAc rfl rfl ?_
  refine go_nil ?_
  replace hF := obind hF
  obtain ⟨s3, hF, hK3⟩ := hF
  refine go_joinc (β := (Unit)) (fun s h' => s3 = .go s) (fun s => [(4, true, .bool false)]) (fun s => (List.flatten [] : List Blk)) ?_ (fun J3 => ?_)
  ·
    rintro _ h3 e3 w3 hs3
    subst hs3
    replace hF := lpgo hK3
    refine go_seq ?_
    refine go_region ?_
    refine gAc rfl rfl ?_
    refine go_nil ?_
    obtain rfl := someI hF
    exact g_ret (rst rfl rs0) (fun h1 hf hs => ⟨(e3.trans hs.hext), rfl⟩)
  ·
    refine go_block ?_
    refine go_loop (α := (List ByteArray) × Nat × Heap) (fun a => a.1 = List.drop a.2.1 p0 ∧ HExt h a.2.2 ∧ Wf a.2.2 ∧ F_ref14_In_L1 p1 a.1 a.2.1 = some s3) (fun a => a.1.length) (fun a => [(0, true, .slice a0_0 p0.length c0_0), (1, true, .string p1), (4, true, .bool false), (5, true, .int .i64 (a.2.1 : Int))]) (fun a => (List.flatten [] : List Blk)) (fun a => a.2.2) ?_ (p0, 0, h) ⟨rfl, HExt.refl _, hw, hF⟩ (Sub.cons (Sub.cons (Sub.cons (Sub.cons (Sub.nil _) rfl) rfl) rfl) rfl) rfl rfl
    rintro ⟨r4, i4, h4⟩ ⟨hr4, e4, w4, hF⟩ ih4
    rcases r4 with _ | ⟨z4, r4⟩
    ·
      have hi4 := drop_nil hr4
      rw [F_ref14_In_L1.eq_1] at hF
      refine go_seq ?_
      refine go_seq ?_
      refine go_region ?_
      refine gM rfl rfl ?_
      refine gM rfl rfl ?_
      refine gr rfl (r_len rfl (os1 (ot rfl) os0) (fun _ _ => ln_44)) ?_
      refine gr rfl (r_bin (ot rfl) (ot rfl) rfl) ?_
      refine go_cast (.bool false) (congrArg Value.bool (decide_eq_false hi4)) ?_
      refine go_nil ?_
      refine g_cond (b := false) (ot rfl) (fun hc5 => ?_) (fun hc5 => ?_)
      · cases hc5
      refine go_exit rfl ?_
      obtain rfl := someI hF
      exact Goes.weak (J3 () _ e4 w4 rfl) (Sub.cons (Sub.nil _) rfl)
    ·
      obtain ⟨hi4, hx4, hr4⟩ := drop_cons hr4
      have hb4 := (f0_0.ext e4.kn).1
      rw [F_ref14_In_L1.eq_2] at hF
      refine go_seq ?_
      refine go_seq ?_
      refine go_region ?_
      refine gM rfl rfl ?_
      refine gM rfl rfl ?_
      refine gr rfl (r_len rfl (os1 (ot rfl) os0) (fun _ _ => ln_44)) ?_
      refine gr rfl (r_bin (ot rfl) (ot rfl) rfl) ?_
      refine go_cast (.bool true) (congrArg Value.bool (decide_eq_true (Int.ofNat_lt.mpr hi4))) ?_
      refine go_nil ?_
      refine g_cond (b := true) (ot rfl) (fun hc6 => ?_) (fun hc6 => ?_)
      rotate_left
      · cases hc6
      refine go_skip ?_
      refine go_seq ?_
      refine go_block ?_
      refine go_seq ?_
      refine go_region ?_
      refine gM rfl rfl ?_
      refine gM rfl rfl ?_
      obtain ⟨q7, row7, i7, cl7, rc7, sp7⟩ := ix (ik := .i64) (cap := c0_0) (E := EE) (f0_0.ext e4.kn) ((getI_nat _ _).trans hx4) ut_44 sz_9 rfl
      obtain rfl := rc7
      refine gr rfl (r_ia (ot rfl) (ot rfl) i7) ?_
      refine gr rfl (r_load (ot rfl) (v := .string z4) (lo_e (fun hf kn => ld_one ag_9 (kn.cellsAt cl7)))) ?_
      refine gM rfl rfl ?_
      refine gr rfl (r_bin (ot rfl) (ot rfl) rfl) ?_
      refine go_nil ?_
      refine g_cond (b := (eqB z4 p1)) (ot rfl) (fun hc8 => ?_) (fun hc8 => ?_)
      ·
        replace hF := ifT hc8 hF
        refine go_seq ?_
        refine go_region ?_
        refine gAc rfl rfl ?_
        refine go_nil ?_
        obtain rfl := someI hF
        obtain rfl := someI hK3
        exact g_ret (rst rfl rs0) (fun h1 hf hs => ⟨(e4.trans hs.hext), rfl⟩)
      ·
        replace hF := ifF hc8 hF
        refine go_skip ?_
        refine go_endb ?_
        refine go_region ?_
        refine gM rfl rfl ?_
        refine gr rfl (r_bin (ot rfl) (oc rfl) rfl) ?_
        refine gA rfl rfl ?_
        refine go_nil ?_
        refine go_re 5 (v2 := .int .i64 ((i4 + 1 : Nat) : Int)) rfl (wrap_succ hi4 hb4) ?_
        exact Goes.weak (ih4 (r4, i4 + 1, h4) ⟨hr4, e4, w4, hF⟩ (Nat.lt_succ_self _)) (Sub.cons (Sub.cons (Sub.cons (Sub.cons (Sub.nil _) rfl) rfl) rfl) rfl)
theorem s_law15_BstSeek (n : Nat) {h : Heap} (hw : Wf h) (p0 : (List Timpostlaw15_Deed)) (p1 : ByteArray) (p2 : (List Timpostlaw15_Deed)) {a0_0 : Option Addr} {c0_0 : Nat} {a2_0 : Option Addr} {c2_0 : Nat} (f0_0 : RL R_Timpostlaw15_Deed h a0_0 c0_0 p0) (f2_0 : RL R_Timpostlaw15_Deed h a2_0 c2_0 p2) {r : Bool} (hF : F_law15_BstSeek n p0 p1 p2 = some r) :
    Ev EE 4 [.slice a0_0 p0.length c0_0, .string p1, .slice a2_0 p2.length c2_0] h (fun v _ => v = .bool r) := by
  unfold F_law15_BstSeek at hF
  refine ev_of hw rfl at_4 rfl rfl (go_seg0 ?_)
  refine go_seq ?_
  refine go_region ?_
  refine gAc rfl rfl ?_
  refine go_nil ?_
  refine go_seq ?_
  refine go_region ?_
  refine g_callp EE_fr rfl of os0 hb_9 (fun _ => rfl) (fun hf kn w => by exact known_evp rfl hf w) ?_
  refine gA rfl rfl ?_
  refine go_nil ?_
  refine go_seq ?_
  refine go_region ?_
  refine gM rfl rfl ?_
  replace hF := obind hF
  obtain ⟨x5, hx5, hF⟩ := hF
  refine gs_call EE_fr hw .nil (fun _ h => by cases h; rfl) of (os1 (ot rfl) os0) hb_19 (by exact s_law15_ran n hw p0 f0_0 hx5) ?_
  rintro v5 S5 h5 e5 w5 ⟨b5_w0, q5_w0_1, t5_w0_1, q5_w0_2, t5_w0_2, b5_w0o0, q5_w0o0_0, t5_w0o0_0, rfl, rfl, f5_0, f5_1, f5_2⟩
  simp only [List.cons_append, List.nil_append]
  refine gM rfl rfl ?_
  refine gE rfl rfl rfl ?_
  refine gE rfl rfl rfl ?_
  refine gA rfl rfl ?_
  refine gA rfl rfl ?_
  refine go_nil ?_
  refine go_seq ?_
  refine go_region ?_
  refine gM rfl rfl ?_
  replace hF := obind hF
  obtain ⟨x6, hx6, hF⟩ := hF
  refine gs_call EE_fr w5 (.cons .z (.cons .z (.cons .z (.cons .z (.cons .z .nil))))) (fun _ h => by cases h; rfl) of (os1 (ot rfl) os0) hb_17 (by exact s_bst_Tree_Keys n w5 (⟨x5.1.nodes, x5.1.infos⟩ : Obst_Tree) (⟨x5.2.cells, x5.2.count⟩ : Omem_Mem) f5_0 f5_1 f5_2 hx6) ?_
  rintro v6 S6 h6 e6 w6 ⟨q6_y0_1, t6_y0_1, q6_y0_2, t6_y0_2, q6_y0o0_0, t6_y0o0_0, a6_0, c6_0, rfl, rfl, f6_0, f6_1, f6_2, f6_3⟩
  simp only [List.cons_append, List.nil_append]
  refine gA rfl rfl ?_
  refine go_nil ?_
  refine go_seq ?_
  refine go_region ?_
  refine gM rfl rfl ?_
  refine gM rfl rfl ?_
  replace hF := obind hF
  obtain ⟨x7, hx7, hF⟩ := hF
  refine gs_call EE_fr w6 (.cons .z (.cons .z (.cons .z (.cons .z (.cons .z .nil))))) (fun _ h => by cases h; rfl) of (os1 (ot rfl) (os1 (ot rfl) os0)) hb_20 (by exact s_bst_Tree_Seek n w6 (⟨x6.2.1.nodes, x6.2.1.infos⟩ : Obst_Tree) (⟨x6.2.2.cells, x6.2.2.count⟩ : Omem_Mem) p1 f6_0 f6_1 f6_2 hx7) ?_
  rintro v7 S7 h7 e7 w7 ⟨q7_y0_1, t7_y0_1, q7_y0_2, t7_y0_2, q7_y0o0_0, t7_y0o0_0, b7_w0, v7_w0_4, t7_w0_4, rfl, rfl, f7_0, f7_1, f7_2, f7_3⟩
  simp only [List.cons_append, List.nil_append]
  refine gA rfl rfl ?_
  refine go_nil ?_
  refine go_seq ?_
  refine go_seq ?_
  refine go_region ?_
  refine gAc rfl rfl ?_
  refine go_nil ?_
  replace hF := obind hF
  obtain ⟨s8, hF, hK8⟩ := hF
  refine go_joinc (β := Option Addr × List Blk × Option Addr × List Blk × Option Addr × List Blk × Value × List Blk) (fun s h' => AccR R_Tbst_node 89 h' s.2.1 (.slice s.1 s8.1.length s8.1.length) s8.1 ∧ AccR R_Tbst_info 86 h' s.2.2.2.1 (.slice s.2.2.1 s8.2.1.length s8.2.1.length) s8.2.1 ∧ AccR (RI_ .u64 29) 29 h' s.2.2.2.2.2.1 (.slice s.2.2.2.2.1 s8.2.2.1.length s8.2.2.1.length) s8.2.2.1 ∧ OC h' b5_w0 b7_w0 s.2.2.2.2.2.2.2 s8.2.2.2.2.2.2.2.2 s.2.2.2.2.2.2.1) (fun s => [(1, true, .string p1), (2, true, .slice a2_0 p2.length c2_0), (6, true, .bool false), (7, true, .bool true), (8, true, .pointer (some ⟨b5_w0, 0, none⟩)), (10, true, .slice a6_0 x6.1.length c6_0), (11, true, .pointer (some ⟨b7_w0, 0, none⟩))]) (fun s => (List.flatten [[⟨b5_w0, .cells [.pointer (some ⟨b5_w0o0, 0, none⟩), .slice s.1 s8.1.length s8.1.length, .slice s.2.2.1 s8.2.1.length s8.2.1.length] 83⟩], s.2.1, s.2.2.2.1, [⟨b5_w0o0, .cells [.slice s.2.2.2.2.1 s8.2.2.1.length s8.2.2.1.length, .int .i64 s8.2.2.2.1] 94⟩], s.2.2.2.2.2.1, [⟨b7_w0, .cells [.bool s8.2.2.2.2.1, .string s8.2.2.2.2.2.1, .int .u64 s8.2.2.2.2.2.2.1, .int .i64 s8.2.2.2.2.2.2.2.1, s.2.2.2.2.2.2.1] 114⟩], s.2.2.2.2.2.2.2] : List Blk)) ?_ (fun J8 => ?_)
  ·
    rintro ⟨a8_0, a8_1, a8_2, a8_3, a8_4, a8_5, a8_6, a8_7⟩ h8 e8 w8 ⟨f8_0, f8_1, f8_2, f8_8⟩
    replace hF := hK8
    refine go_seq ?_
    refine go_region ?_
    refine gM rfl rfl ?_
    replace hF := obind hF
    obtain ⟨x9, hx9, hF⟩ := hF
    refine gs_call EE_fr w8 (.cons .z (.cons .z (.cons .z (.cons .z (.cons .z (.cons .z (.cons .z .nil))))))) (fun _ h => by cases h; rfl) of (os1 (ot rfl) os0) hb_12 (by exact s_bst_Run n w8 (⟨s8.1, s8.2.1⟩ : Obst_Tree) (⟨s8.2.2.1, s8.2.2.2.1⟩ : Omem_Mem) (⟨s8.2.2.2.2.1, s8.2.2.2.2.2.1, s8.2.2.2.2.2.2.1, s8.2.2.2.2.2.2.2.1, s8.2.2.2.2.2.2.2.2⟩ : Obst_Call_2) f8_0 f8_1 f8_2 f8_8 hx9) ?_
    rintro v9 S9 h9 e9 w9 ⟨q9_y0_1, t9_y0_1, q9_y0_2, t9_y0_2, q9_y0o0_0, t9_y0o0_0, v9_y1_4, t9_y1_4, rfl, rfl, f9_0, f9_1, f9_2, f9_3⟩
    simp only [List.cons_append, List.nil_append]
    refine gs_alloc rfl zo_32 rfl ?_; intro b13_10
    refine gs_store (ot rfl) (ot rfl) sz_32 rfl rfl rfl rfl rfl .z ?_
    refine go_nil ?_
    refine go_seq ?_
    refine go_region ?_
    refine gAc rfl rfl ?_
    refine go_nil ?_
    refine go_seq ?_
    refine go_region ?_
    refine gAc rfl rfl ?_
    refine go_nil ?_
    refine go_seq ?_
    refine go_seq ?_
    refine go_region ?_
    refine gM rfl rfl ?_
    refine gr rfl (r_len rfl (os1 (ot rfl) os0) (fun _ _ => ln_44)) ?_
    refine gr rfl (r_bin (ot rfl) (oc rfl) rfl) ?_
    refine gA rfl rfl ?_
    refine go_nil ?_
    replace hF := obind hF
    obtain ⟨s11, hF, hK11⟩ := hF
    refine go_joinc (β := Unit) (fun s h' => True) (fun s => [(1, true, .string p1), (2, true, .slice a2_0 p2.length c2_0), (6, true, .bool false), (7, true, .bool true), (8, true, .pointer (some ⟨b5_w0, 0, none⟩)), (13, true, .pointer (some ⟨b13_10, 0, none⟩)), (14, true, .string s11.1), (15, true, .bool s11.2)]) (fun s => (List.flatten [[⟨b13_10, .cells [.bool x9.1.Ok, .string x9.1.Key, .int .u64 x9.1.Val, .int .i64 x9.1.Err] 32⟩], [⟨b5_w0, .cells [.pointer (some ⟨b5_w0o0, 0, none⟩), .slice q9_y0_1 x9.2.1.nodes.length x9.2.1.nodes.length, .slice q9_y0_2 x9.2.1.infos.length x9.2.1.infos.length] 83⟩], t9_y0_1, t9_y0_2, [⟨b5_w0o0, .cells [.slice q9_y0o0_0 x9.2.2.1.cells.length x9.2.2.1.cells.length, .int .i64 x9.2.2.1.count] 94⟩], t9_y0o0_0, [⟨b7_w0, .cells [.bool x9.2.2.2.told_Ok, .string x9.2.2.2.told_Key, .int .u64 x9.2.2.2.told_Val, .int .i64 x9.2.2.2.told_Err, v9_y1_4] 114⟩], t9_y1_4] : List Blk)) ?_ (fun J11 => ?_)
    ·
      rintro _ h11 e11 w11 _
      replace hF := hK11
      refine go_seq ?_
      refine go_seq ?_
      refine go_region ?_
      refine gr rfl (r_fa (ot rfl) (fa_32_0 _ _)) ?_
      refine gr rfl (r_load (ot rfl) (lm_s (mem_seg 0 rfl) ag_4 rfl)) ?_
      refine gr rfl (r_un (ot rfl) rfl) ?_
      refine go_nil ?_
      refine g_cond (b := (!x9.1.Ok)) (ot rfl) (fun hc12 => ?_) (fun hc12 => ?_)
      ·
        replace hF := ifT hc12 hF
        refine go_seq ?_
        refine go_region ?_
        refine gM rfl rfl ?_
        refine gM rfl rfl ?_
        refine g_do rfl rfl rfl ?_
        refine gM rfl rfl ?_
        refine g_do rfl rfl rfl ?_
        refine gr rfl (r_un (ot rfl) rfl) ?_
        refine gr rfl (r_pkT (ot rfl) (ot rfl)) ?_
        refine gA rfl rfl ?_
        refine go_nil ?_
        obtain rfl := someI hF
        exact g_ret (rst rfl rs0) (fun h1 hf hs => ⟨(e5.trans (e6.trans (e7.trans (e8.trans (e9.trans (e11.trans hs.hext)))))), rfl⟩)
      ·
        replace hF := ifF hc12 hF
        refine go_skip ?_
        refine go_seq ?_
        refine go_region ?_
        refine gM rfl rfl ?_
        replace hF := obind hF
        obtain ⟨x13, hx13, hF⟩ := hF
        refine gs_call EE_fr w11 (.cons (.s (.z)) (.cons (.s (.z)) (.cons (.s (.z)) (.cons (.s (.z)) (.cons (.s (.z)) .nil))))) (fun _ h => by cases h; rfl) of (os1 (ot rfl) os0) hb_17 (by exact s_bst_Tree_Keys n w11 (⟨x9.2.1.nodes, x9.2.1.infos⟩ : Obst_Tree) (⟨x9.2.2.1.cells, x9.2.2.1.count⟩ : Omem_Mem) (f9_0.ext e11.kn) (f9_1.ext e11.kn) (f9_2.ext e11.kn) hx13) ?_
        rintro v13 S13 h13 e13 w13 ⟨q13_y0_1, t13_y0_1, q13_y0_2, t13_y0_2, q13_y0o0_0, t13_y0o0_0, a13_0, c13_0, rfl, rfl, f13_0, f13_1, f13_2, f13_3⟩
        simp only [List.cons_append, List.nil_append]
        refine gA rfl rfl ?_
        refine go_nil ?_
        refine go_seq ?_
        refine go_region ?_
        refine gM rfl rfl ?_
        refine gM rfl rfl ?_
        refine g_do rfl rfl rfl ?_
        refine gr rfl (r_fa (ot rfl) (fa_32_1 _ _)) ?_
        refine g_do rfl rfl rfl ?_
        refine gr rfl (r_load (ot rfl) (lm_s (mem_seg 5 rfl) ag_9 rfl)) ?_
        refine g_do rfl rfl rfl ?_
        refine gM rfl rfl ?_
        refine g_do rfl rfl rfl ?_
        refine gr rfl (r_bin (ot rfl) (ot rfl) rfl) ?_
        refine gr rfl (r_pkT (ot rfl) (ot rfl)) ?_
        refine gM rfl rfl ?_
        refine grt rfl rfl rfl rfl (r_move (ot rfl)) ?_
        refine grt rfl rfl rfl rfl (r_un (og rfl id) rfl) ?_
        refine grt rfl rfl rfl rfl (r_move (og rfl id)) ?_
        refine grf' rfl rfl rfl rfl (r_fa (ot rfl) (fa_32_1 _ _)) ?_
        refine grf' rfl rfl rfl rfl (r_load (og rfl id) (lm_s (mem_seg 5 rfl) ag_9 rfl)) ?_
        refine grf' rfl rfl rfl rfl (r_move (ot rfl)) ?_
        refine grf' rfl rfl rfl rfl (r_bin (og rfl id) (og rfl id) rfl) ?_
        refine grt rfl rfl rfl rfl (r_pickb (og rfl id) (oc rfl) (og rfl id)) ?_
        refine gr rfl (r_pickb (ot rfl) (og rfl id) (oc rfl)) ?_
        refine gM rfl rfl ?_
        replace hF := obind hF
        obtain ⟨s15, hF, hK15⟩ := hF
        refine go_joinr 5 (β := Unit) (fun s h' => True) (fun s => [(2, true, .slice a2_0 p2.length c2_0), (6, true, .bool false), (13, true, .pointer (some ⟨b13_10, 0, none⟩)), (14, true, .string s11.1), (15, true, .bool s11.2), (100, true, .bool s15)]) (fun s => (List.flatten [[⟨b5_w0, .cells [.pointer (some ⟨b5_w0o0, 0, none⟩), .slice q13_y0_1 x13.2.1.nodes.length x13.2.1.nodes.length, .slice q13_y0_2 x13.2.1.infos.length x13.2.1.infos.length] 83⟩], t13_y0_1, t13_y0_2, [⟨b5_w0o0, .cells [.slice q13_y0o0_0 x13.2.2.cells.length x13.2.2.cells.length, .int .i64 x13.2.2.count] 94⟩], t13_y0o0_0, [⟨b13_10, .cells [.bool x9.1.Ok, .string x9.1.Key, .int .u64 x9.1.Val, .int .i64 x9.1.Err] 32⟩], [⟨b7_w0, .cells [.bool x9.2.2.2.told_Ok, .string x9.2.2.2.told_Key, .int .u64 x9.2.2.2.told_Val, .int .i64 x9.2.2.2.told_Err, v9_y1_4] 114⟩], t9_y1_4] : List Blk)) ?_ (fun J15 => ?_)
        ·
          rintro _ h15 e15 w15 _
          replace hF := hK15
          refine gM rfl rfl ?_
          refine grt rfl rfl rfl rfl (r_move (ot rfl)) ?_
          refine grt rfl rfl rfl rfl (r_len rfl (os1 (og rfl id) os0) (fun _ _ => ln_22)) ?_
          refine grt rfl rfl rfl rfl (r_bin (og rfl id) (oc rfl) rfl) ?_
          refine grt rfl rfl rfl rfl (r_move (og rfl id)) ?_
          refine grf' rfl rfl rfl rfl (r_move (ot rfl)) ?_
          refine grf' rfl rfl rfl rfl (r_move (og rfl id)) ?_
          refine grt' rfl rfl rfl rfl (r_fa (ot rfl) (fa_32_1 _ _)) ?_
          refine grt' rfl rfl rfl rfl (r_load (og rfl id) (lm_s (mem_seg 5 rfl) ag_9 rfl)) ?_
          refine grt' rfl rfl rfl rfl (r_move (ot rfl)) ?_
          refine grt' rfl rfl rfl rfl (r_bin (og rfl id) (og rfl id) rfl) ?_
          refine grf' rfl rfl rfl rfl (r_pickb (og rfl id) (og rfl id) (oc rfl)) ?_
          refine grt rfl rfl rfl rfl (r_pickb (og rfl id) (oc rfl) (og rfl id)) ?_
          refine gr rfl (r_pickb (ot rfl) (og rfl id) (oc rfl)) ?_
          refine gA rfl rfl ?_
          refine go_nil ?_
          obtain rfl := someI hF
          exact g_ret (rst rfl rs0) (fun h1 hf hs => ⟨(e5.trans (e6.trans (e7.trans (e8.trans (e9.trans (e11.trans (e13.trans (e15.trans hs.hext)))))))), rfl⟩)
        ·
          rcases Bool.eq_false_or_eq_true (bif (!lessB x9.1.Key p1) then (bif (!s11.2) then true else (leB x9.1.Key s11.1)) else false) with hb14 | hb14
          ·
            replace hF := ifT hb14 hF
            refine go_re 95 (v2 := .bool true) rfl (congrArg Value.bool hb14) ?_
            refine g_do rfl rfl rfl ?_
            refine gM rfl rfl ?_
            refine g_do rfl rfl rfl ?_
            refine gr rfl (r_fa (ot rfl) (fa_32_1 _ _)) ?_
            refine g_do rfl rfl rfl ?_
            refine gr rfl (r_load (ot rfl) (lm_s (mem_seg 5 rfl) ag_9 rfl)) ?_
            refine g_do rfl rfl rfl ?_
            replace hF := obind hF
            obtain ⟨x16, hx16, hF⟩ := hF
            refine g_callp (v := .bool x16) EE_fr rfl of (os1 (ot rfl) (os1 (ot rfl) os0)) hb_23 (fun _ => rfl) (fun hf kn w => by exact s_ref14_In w x13.1 x9.1.Key (f13_3.ext kn) hx16) ?_
            refine gr rfl (r_pkT (ot rfl) (ot rfl)) ?_
            obtain rfl := someI hF
            exact Goes.weak (J15 () _ (HExt.refl _) w13 trivial) (Sub.cons (Sub.cons (Sub.cons (Sub.cons (Sub.cons (Sub.cons (Sub.nil _) rfl) rfl) rfl) rfl) rfl) rfl)
          ·
            replace hF := ifF hb14 hF
            refine go_re 95 (v2 := .bool false) rfl (congrArg Value.bool hb14) ?_
            refine g_no rfl rfl rfl rfl rfl ?_
            refine g_no rfl rfl rfl rfl rfl ?_
            refine g_no rfl rfl rfl rfl rfl ?_
            refine g_no rfl rfl rfl rfl rfl ?_
            refine gr rfl (r_pkF (ot rfl) (oc rfl)) ?_
            obtain rfl := someI hF
            exact Goes.weak (J15 () _ (HExt.refl _) w13 trivial) (Sub.cons (Sub.cons (Sub.cons (Sub.cons (Sub.cons (Sub.cons (Sub.nil _) rfl) rfl) rfl) rfl) rfl) rfl)
    ·
      refine go_block ?_
      refine go_loop (α := Nat × ByteArray × Bool × Int × Heap) (fun a => HExt h9 a.2.2.2.2 ∧ Wf a.2.2.2.2 ∧ F_law15_BstSeek_L1 p1 x6 a.1 a.2.1 a.2.2.1 a.2.2.2.1 = some s11) (fun a => a.1) (fun a => [(1, true, .string p1), (2, true, .slice a2_0 p2.length c2_0), (6, true, .bool false), (7, true, .bool true), (8, true, .pointer (some ⟨b5_w0, 0, none⟩)), (10, true, .slice a6_0 x6.1.length c6_0), (13, true, .pointer (some ⟨b13_10, 0, none⟩)), (14, true, .string a.2.1), (15, true, .bool a.2.2.1), (16, true, .int .i64 a.2.2.2.1)]) (fun a => (List.flatten [[⟨b13_10, .cells [.bool x9.1.Ok, .string x9.1.Key, .int .u64 x9.1.Val, .int .i64 x9.1.Err] 32⟩], [⟨b5_w0, .cells [.pointer (some ⟨b5_w0o0, 0, none⟩), .slice q9_y0_1 x9.2.1.nodes.length x9.2.1.nodes.length, .slice q9_y0_2 x9.2.1.infos.length x9.2.1.infos.length] 83⟩], t9_y0_1, t9_y0_2, [⟨b5_w0o0, .cells [.slice q9_y0o0_0 x9.2.2.1.cells.length x9.2.2.1.cells.length, .int .i64 x9.2.2.1.count] 94⟩], t9_y0o0_0, [⟨b7_w0, .cells [.bool x9.2.2.2.told_Ok, .string x9.2.2.2.told_Key, .int .u64 x9.2.2.2.told_Val, .int .i64 x9.2.2.2.told_Err, v9_y1_4] 114⟩], t9_y1_4] : List Blk)) (fun a => a.2.2.2.2) ?_ (n, ByteArray.empty, false, (IntKind.i64.wrap ((x6.1.length : Int) - 1)), h9) ⟨HExt.refl _, w9, hF⟩ (Sub.cons (Sub.cons (Sub.cons (Sub.cons (Sub.cons (Sub.cons (Sub.cons (Sub.cons (Sub.cons (Sub.cons (Sub.nil _) rfl) rfl) rfl) rfl) rfl) rfl) rfl) rfl) rfl) rfl) rfl rfl
      rintro ⟨m17, y17_0, y17_1, y17_2, h17⟩ ⟨e17, w17, hF⟩ ih17
      rcases m17 with _ | m17
      ·
        rw [F_law15_BstSeek_L1.eq_1] at hF; cases hF
      ·
        rw [F_law15_BstSeek_L1.eq_2] at hF
        refine go_seq ?_
        refine go_seq ?_
        refine go_region ?_
        refine gM rfl rfl ?_
        refine gr rfl (r_bin (ot rfl) (oc rfl) rfl) ?_
        refine go_nil ?_
        refine g_cond (b := (decide (y17_2 ≥ 0))) (ot rfl) (fun hc18 => ?_) (fun hc18 => ?_)
        ·
          replace hF := ifT hc18 hF
          refine go_skip ?_
          refine go_seq ?_
          refine go_block ?_
          refine go_seq ?_
          refine go_region ?_
          refine gM rfl rfl ?_
          refine gM rfl rfl ?_
          replace hF := obind hF
          obtain ⟨x19, hx19, hF⟩ := hF
          obtain ⟨q19, row19, i19, cl19, rc19, sp19⟩ := ix (ik := .i64) (cap := c6_0) (E := EE) ((((f6_3.ext e7.kn).ext e8.kn).ext e9.kn).ext e17.kn) hx19 ut_44 sz_9 rfl
          obtain rfl := rc19
          refine gr rfl (r_ia (ot rfl) (ot rfl) i19) ?_
          refine gr rfl (r_load (ot rfl) (v := .string x19) (lo_e (fun hf kn => ld_one ag_9 (kn.cellsAt cl19)))) ?_
          refine gM rfl rfl ?_
          refine gr rfl (r_bin (ot rfl) (ot rfl) rfl) ?_
          refine go_nil ?_
          replace hF := obind hF
          obtain ⟨s21, hF, hK21⟩ := hF
          refine go_joinc (β := Unit) (fun s h' => True) (fun s => [(1, true, .string p1), (2, true, .slice a2_0 p2.length c2_0), (6, true, .bool false), (7, true, .bool true), (8, true, .pointer (some ⟨b5_w0, 0, none⟩)), (10, true, .slice a6_0 x6.1.length c6_0), (13, true, .pointer (some ⟨b13_10, 0, none⟩)), (14, true, .string s21.1), (15, true, .bool s21.2), (16, true, .int .i64 y17_2), (54, true, .int .i64 y17_2), (55, true, .bool (decide (y17_2 ≥ 0))), (58, true, .slice a6_0 x6.1.length c6_0), (59, true, .int .i64 y17_2), (60, true, .pointer (some q19)), (61, true, .string x19), (62, true, .string p1), (63, true, .bool (!lessB x19 p1))]) (fun s => (List.flatten [[⟨b13_10, .cells [.bool x9.1.Ok, .string x9.1.Key, .int .u64 x9.1.Val, .int .i64 x9.1.Err] 32⟩], [⟨b5_w0, .cells [.pointer (some ⟨b5_w0o0, 0, none⟩), .slice q9_y0_1 x9.2.1.nodes.length x9.2.1.nodes.length, .slice q9_y0_2 x9.2.1.infos.length x9.2.1.infos.length] 83⟩], t9_y0_1, t9_y0_2, [⟨b5_w0o0, .cells [.slice q9_y0o0_0 x9.2.2.1.cells.length x9.2.2.1.cells.length, .int .i64 x9.2.2.1.count] 94⟩], t9_y0o0_0, [⟨b7_w0, .cells [.bool x9.2.2.2.told_Ok, .string x9.2.2.2.told_Key, .int .u64 x9.2.2.2.told_Val, .int .i64 x9.2.2.2.told_Err, v9_y1_4] 114⟩], t9_y1_4] : List Blk)) ?_ (fun J21 => ?_)
          ·
            rintro _ h21 e21 w21 _
            replace hF := hK21
            refine go_endb ?_
            refine go_region ?_
            refine gM rfl rfl ?_
            refine gr rfl (r_bin (ot rfl) (oc rfl) rfl) ?_
            refine gA rfl rfl ?_
            refine go_nil ?_
            exact Goes.weak (ih17 (m17, s21.1, s21.2, (IntKind.i64.wrap (y17_2 - 1)), h21) ⟨(e17.trans e21), w21, hF⟩ (Nat.lt_succ_self _)) (Sub.cons (Sub.cons (Sub.cons (Sub.cons (Sub.cons (Sub.cons (Sub.cons (Sub.cons (Sub.cons (Sub.cons (Sub.nil _) rfl) rfl) rfl) rfl) rfl) rfl) rfl) rfl) rfl) rfl)
          ·
            refine g_cond (b := (!lessB x19 p1)) (ot rfl) (fun hc20 => ?_) (fun hc20 => ?_)
            ·
              replace hF := ifT hc20 hF
              refine go_seq ?_
              refine go_region ?_
              refine gM rfl rfl ?_
              refine gM rfl rfl ?_
              replace hF := obind hF
              obtain ⟨x22, hx22, hF⟩ := hF
              obtain ⟨q22, row22, i22, cl22, rc22, sp22⟩ := ix (ik := .i64) (cap := c6_0) (E := EE) ((((f6_3.ext e7.kn).ext e8.kn).ext e9.kn).ext e17.kn) hx22 ut_44 sz_9 rfl
              obtain rfl := rc22
              refine gr rfl (r_ia (ot rfl) (ot rfl) i22) ?_
              refine gr rfl (r_load (ot rfl) (v := .string x22) (lo_e (fun hf kn => ld_one ag_9 (kn.cellsAt cl22)))) ?_
              refine gA rfl rfl ?_
              refine go_nil ?_
              refine go_region ?_
              refine gAc rfl rfl ?_
              refine go_nil ?_
              obtain rfl := someI hF
              exact Goes.weak (J21 () _ (HExt.refl _) w17 trivial) (Sub.cons (Sub.cons (Sub.cons (Sub.cons (Sub.cons (Sub.cons (Sub.cons (Sub.cons (Sub.cons (Sub.cons (Sub.cons (Sub.cons (Sub.cons (Sub.cons (Sub.cons (Sub.cons (Sub.cons (Sub.cons (Sub.nil _) rfl) rfl) rfl) rfl) rfl) rfl) rfl) rfl) rfl) rfl) rfl) rfl) rfl) rfl) rfl) rfl) rfl) rfl)
            ·
              replace hF := ifF hc20 hF
              refine go_skip ?_
              obtain rfl := someI hF
              exact Goes.weak (J21 () _ (HExt.refl _) w17 trivial) (Sub.cons (Sub.cons (Sub.cons (Sub.cons (Sub.cons (Sub.cons (Sub.cons (Sub.cons (Sub.cons (Sub.cons (Sub.cons (Sub.cons (Sub.cons (Sub.cons (Sub.cons (Sub.cons (Sub.cons (Sub.cons (Sub.nil _) rfl) rfl) rfl) rfl) rfl) rfl) rfl) rfl) rfl) rfl) rfl) rfl) rfl) rfl) rfl) rfl) rfl) rfl)
        ·
          replace hF := ifF hc18 hF
          refine go_exit rfl ?_
          obtain rfl := someI hF
          exact Goes.weak (J11 () _ e17 w17 trivial) (Sub.cons (Sub.cons (Sub.cons (Sub.cons (Sub.cons (Sub.cons (Sub.cons (Sub.cons (Sub.nil _) rfl) rfl) rfl) rfl) rfl) rfl) rfl) rfl)
  ·
    refine go_block ?_
    refine go_loop (α := (List Timpostlaw15_Deed) × Nat × (List Tbst_node) × (List Tbst_info) × (List Int) × Int × Bool × ByteArray × Int × Int × (Option Clo) × Option Addr × List Blk × Option Addr × List Blk × Option Addr × List Blk × Value × List Blk × Heap) (fun a => a.1 = List.drop a.2.1 p2 ∧ HExt h7 a.2.2.2.2.2.2.2.2.2.2.2.2.2.2.2.2.2.2.2 ∧ Wf a.2.2.2.2.2.2.2.2.2.2.2.2.2.2.2.2.2.2.2 ∧ F_law15_BstSeek_L2 n a.1 a.2.1 a.2.2.1 a.2.2.2.1 a.2.2.2.2.1 a.2.2.2.2.2.1 a.2.2.2.2.2.2.1 a.2.2.2.2.2.2.2.1 a.2.2.2.2.2.2.2.2.1 a.2.2.2.2.2.2.2.2.2.1 a.2.2.2.2.2.2.2.2.2.2.1 = some s8 ∧ AccR R_Tbst_node 89 a.2.2.2.2.2.2.2.2.2.2.2.2.2.2.2.2.2.2.2 a.2.2.2.2.2.2.2.2.2.2.2.2.1 (.slice a.2.2.2.2.2.2.2.2.2.2.2.1 a.2.2.1.length a.2.2.1.length) a.2.2.1 ∧ AccR R_Tbst_info 86 a.2.2.2.2.2.2.2.2.2.2.2.2.2.2.2.2.2.2.2 a.2.2.2.2.2.2.2.2.2.2.2.2.2.2.1 (.slice a.2.2.2.2.2.2.2.2.2.2.2.2.2.1 a.2.2.2.1.length a.2.2.2.1.length) a.2.2.2.1 ∧ AccR (RI_ .u64 29) 29 a.2.2.2.2.2.2.2.2.2.2.2.2.2.2.2.2.2.2.2 a.2.2.2.2.2.2.2.2.2.2.2.2.2.2.2.2.1 (.slice a.2.2.2.2.2.2.2.2.2.2.2.2.2.2.2.1 a.2.2.2.2.1.length a.2.2.2.2.1.length) a.2.2.2.2.1 ∧ OC a.2.2.2.2.2.2.2.2.2.2.2.2.2.2.2.2.2.2.2 b5_w0 b7_w0 a.2.2.2.2.2.2.2.2.2.2.2.2.2.2.2.2.2.2.1 a.2.2.2.2.2.2.2.2.2.2.1 a.2.2.2.2.2.2.2.2.2.2.2.2.2.2.2.2.2.1) (fun a => a.1.length) (fun a => [(1, true, .string p1), (2, true, .slice a2_0 p2.length c2_0), (6, true, .bool false), (7, true, .bool true), (8, true, .pointer (some ⟨b5_w0, 0, none⟩)), (10, true, .slice a6_0 x6.1.length c6_0), (11, true, .pointer (some ⟨b7_w0, 0, none⟩)), (12, true, .int .i64 (a.2.1 : Int))]) (fun a => (List.flatten [[⟨b5_w0, .cells [.pointer (some ⟨b5_w0o0, 0, none⟩), .slice a.2.2.2.2.2.2.2.2.2.2.2.1 a.2.2.1.length a.2.2.1.length, .slice a.2.2.2.2.2.2.2.2.2.2.2.2.2.1 a.2.2.2.1.length a.2.2.2.1.length] 83⟩], a.2.2.2.2.2.2.2.2.2.2.2.2.1, a.2.2.2.2.2.2.2.2.2.2.2.2.2.2.1, [⟨b5_w0o0, .cells [.slice a.2.2.2.2.2.2.2.2.2.2.2.2.2.2.2.1 a.2.2.2.2.1.length a.2.2.2.2.1.length, .int .i64 a.2.2.2.2.2.1] 94⟩], a.2.2.2.2.2.2.2.2.2.2.2.2.2.2.2.2.1, [⟨b7_w0, .cells [.bool a.2.2.2.2.2.2.1, .string a.2.2.2.2.2.2.2.1, .int .u64 a.2.2.2.2.2.2.2.2.1, .int .i64 a.2.2.2.2.2.2.2.2.2.1, a.2.2.2.2.2.2.2.2.2.2.2.2.2.2.2.2.2.1] 114⟩], a.2.2.2.2.2.2.2.2.2.2.2.2.2.2.2.2.2.2.1] : List Blk)) (fun a => a.2.2.2.2.2.2.2.2.2.2.2.2.2.2.2.2.2.2.2) ?_ (p2, 0, x7.2.1.nodes, x7.2.1.infos, x7.2.2.cells, x7.2.2.count, x7.1.told_Ok, x7.1.told_Key, x7.1.told_Val, x7.1.told_Err, x7.1.next, q7_y0_1, t7_y0_1, q7_y0_2, t7_y0_2, q7_y0o0_0, t7_y0o0_0, v7_w0_4, t7_w0_4, h7) ⟨rfl, HExt.refl _, w7, hF, f7_0, f7_1, f7_2, f7_3⟩ (Sub.cons (Sub.cons (Sub.cons (Sub.cons (Sub.cons (Sub.cons (Sub.cons (Sub.cons (Sub.nil _) rfl) rfl) rfl) rfl) rfl) rfl) rfl) rfl) rfl rfl
    rintro ⟨r23, i23, y23_0, y23_1, y23_2, y23_3, y23_4, y23_5, y23_6, y23_7, y23_8, a23_0, a23_1, a23_2, a23_3, a23_4, a23_5, a23_6, a23_7, h23⟩ ⟨hr23, e23, w23, hF, f23_0, f23_1, f23_2, f23_8⟩ ih23
    rcases r23 with _ | ⟨z23, r23⟩
    ·
      have hi23 := drop_nil hr23
      rw [F_law15_BstSeek_L2.eq_1] at hF
      refine go_seq ?_
      refine go_seq ?_
      refine go_region ?_
      refine gM rfl rfl ?_
      refine gM rfl rfl ?_
      refine gr rfl (r_len rfl (os1 (ot rfl) os0) (fun _ _ => ln_22)) ?_
      refine gr rfl (r_bin (ot rfl) (ot rfl) rfl) ?_
      refine go_cast (.bool false) (congrArg Value.bool (decide_eq_false hi23)) ?_
      refine gM rfl rfl ?_
      refine g_no rfl rfl rfl rfl rfl ?_
      refine g_no rfl rfl rfl rfl rfl ?_
      refine gr rfl (r_pkF (ot rfl) (oc rfl)) ?_
      refine go_nil ?_
      refine g_cond (b := false) (ot rfl) (fun hc24 => ?_) (fun hc24 => ?_)
      · cases hc24
      refine go_exit rfl ?_
      obtain rfl := someI hF
      exact Goes.weak (J8 (a23_0, a23_1, a23_2, a23_3, a23_4, a23_5, a23_6, a23_7) _ e23 w23 ⟨f23_0, f23_1, f23_2, f23_8⟩) (Sub.cons (Sub.cons (Sub.cons (Sub.cons (Sub.cons (Sub.cons (Sub.cons (Sub.nil _) rfl) rfl) rfl) rfl) rfl) rfl) rfl)
    ·
      obtain ⟨hi23, hx23, hr23⟩ := drop_cons hr23
      have hb23 := ((((f2_0.ext e5.kn).ext e6.kn).ext e7.kn).ext e23.kn).1
      rw [F_law15_BstSeek_L2.eq_2] at hF
      refine go_seq ?_
      refine go_seq ?_
      refine go_region ?_
      refine gM rfl rfl ?_
      refine gM rfl rfl ?_
      refine gr rfl (r_len rfl (os1 (ot rfl) os0) (fun _ _ => ln_22)) ?_
      refine gr rfl (r_bin (ot rfl) (ot rfl) rfl) ?_
      refine go_cast (.bool true) (congrArg Value.bool (decide_eq_true (Int.ofNat_lt.mpr hi23))) ?_
      refine gM rfl rfl ?_
      refine g_do rfl rfl rfl ?_
      refine gM rfl rfl ?_
      refine g_do rfl rfl rfl ?_
      refine gr rfl (r_bin (ot rfl) (oc rfl) rfl) ?_
      refine gr rfl (r_pkT (ot rfl) (ot rfl)) ?_
      refine go_nil ?_
      refine g_cond (b := (decide ((i23 : Int) < 60))) (ot rfl) (fun hc25 => ?_) (fun hc25 => ?_)
      ·
        replace hF := ifT hc25 hF
        refine go_skip ?_
        refine go_seq ?_
        refine go_block ?_
        refine go_seq ?_
        refine go_region ?_
        refine gM rfl rfl ?_
        replace hF := obind hF
        obtain ⟨x26, hx26, hF⟩ := hF
        refine gs_call EE_fr w23 (.cons .z (.cons .z (.cons .z (.cons .z (.cons .z (.cons .z (.cons .z .nil))))))) (fun _ h => by cases h; rfl) of (os1 (ot rfl) os0) hb_21 (by exact s_bst_Call_Step n w23 (⟨y23_0, y23_1⟩ : Obst_Tree) (⟨y23_2, y23_3⟩ : Omem_Mem) (⟨y23_4, y23_5, y23_6, y23_7, y23_8⟩ : Obst_Call_2) f23_0 f23_1 f23_2 f23_8 hx26) ?_
        rintro v26 S26 h26 e26 w26 ⟨q26_y0_1, t26_y0_1, q26_y0_2, t26_y0_2, q26_y0o0_0, t26_y0o0_0, v26_y1_4, t26_y1_4, rfl, rfl, f26_0, f26_1, f26_2, f26_3⟩
        simp only [List.cons_append, List.nil_append]
        refine go_nil ?_
        refine go_region ?_
        refine gM rfl rfl ?_
        refine gM rfl rfl ?_
        refine gM rfl rfl ?_
        obtain ⟨q27, row27, i27, cl27, rc27, sp27⟩ := ix (ik := .i64) (cap := c2_0) (E := EE) (((((f2_0.ext e5.kn).ext e6.kn).ext e7.kn).ext e23.kn).ext e26.kn) ((getI_nat _ _).trans hx23) ut_22 sz_37 rfl
        obtain rfl := rc27
        refine gr rfl (r_ia (ot rfl) (ot rfl) i27) ?_
        refine gr rfl (r_fa (ot rfl) (fs_37_1 sp27)) ?_
        refine gr rfl (r_load (ot rfl) (v := .string z23.Key) (lo_e (fun hf kn => ld_field (r := [.int .i64 z23.Kind, .string z23.Key, .int .u64 z23.Val]) ag_9 (kn.cellsAt cl27) rfl))) ?_
        replace hF := obind hF
        obtain ⟨x28, hx28, hF⟩ := hF
        refine gs_call EE_fr w26 (.cons .z (.cons .z (.cons .z (.cons .z (.cons .z .nil))))) (fun _ h => by cases h; rfl) of (os1 (ot rfl) (os1 (ot rfl) (os1 (oc rfl) os0))) hb_22 (by exact s_bst_Tree_Insert n w26 (⟨x26.2.1.nodes, x26.2.1.infos⟩ : Obst_Tree) (⟨x26.2.2.1.cells, x26.2.2.1.count⟩ : Omem_Mem) z23.Key 5 f26_0 f26_1 f26_2 hx28) ?_
        rintro v28 S28 h28 e28 w28 ⟨q28_y0_1, t28_y0_1, q28_y0_2, t28_y0_2, q28_y0o0_0, t28_y0o0_0, b28_w0, v28_w0_4, t28_w0_4, rfl, rfl, f28_0, f28_1, f28_2, f28_3⟩
        simp only [List.cons_append, List.nil_append]
        replace hF := obind hF
        obtain ⟨x29, hx29, hF⟩ := hF
        refine gs_call EE_fr w28 (.cons .z (.cons .z (.cons .z (.cons .z (.cons .z (.cons .z (.cons .z .nil))))))) (fun _ h => by cases h; rfl) of (os1 (ot rfl) os0) hb_12 (by exact s_bst_Run n w28 (⟨x28.2.1.nodes, x28.2.1.infos⟩ : Obst_Tree) (⟨x28.2.2.cells, x28.2.2.count⟩ : Omem_Mem) (⟨x28.1.told_Ok, x28.1.told_Key, x28.1.told_Val, x28.1.told_Err, x28.1.next⟩ : Obst_Call_2) f28_0 f28_1 f28_2 f28_3 hx29) ?_
        rintro v29 S29 h29 e29 w29 ⟨q29_y0_1, t29_y0_1, q29_y0_2, t29_y0_2, q29_y0o0_0, t29_y0o0_0, v29_y1_4, t29_y1_4, rfl, rfl, f29_0, f29_1, f29_2, f29_3⟩
        simp only [List.cons_append, List.nil_append]
        refine go_nil ?_
        refine go_endb ?_
        refine go_region ?_
        refine gM rfl rfl ?_
        refine gr rfl (r_bin (ot rfl) (oc rfl) rfl) ?_
        refine gA rfl rfl ?_
        refine go_nil ?_
        refine gs_sub (.cons_cons _ (.cons_cons _ (.cons_cons _ (.cons_cons _ (.cons_cons _ (.cons _ (.cons _ (.cons_cons _ (.cons_cons _ (.refl _)))))))))) ?_
        refine go_re 12 (v2 := .int .i64 ((i23 + 1 : Nat) : Int)) rfl (wrap_succ hi23 hb23) ?_
        exact Goes.weak (ih23 (r23, i23 + 1, x29.2.1.nodes, x29.2.1.infos, x29.2.2.1.cells, x29.2.2.1.count, x26.2.2.2.told_Ok, x26.2.2.2.told_Key, x26.2.2.2.told_Val, x26.2.2.2.told_Err, x26.2.2.2.next, q29_y0_1, t29_y0_1, q29_y0_2, t29_y0_2, q29_y0o0_0, t29_y0o0_0, v26_y1_4, t26_y1_4, h29) ⟨hr23, (e23.trans (e26.trans (e28.trans e29))), w29, hF, f29_0, f29_1, f29_2, ((f26_3.ext e28.kn).ext e29.kn)⟩ (Nat.lt_succ_self _)) (Sub.cons (Sub.cons (Sub.cons (Sub.cons (Sub.cons (Sub.cons (Sub.cons (Sub.cons (Sub.nil _) rfl) rfl) rfl) rfl) rfl) rfl) rfl) rfl)
      ·
        replace hF := ifF hc25 hF
        refine go_exit rfl ?_
        obtain rfl := someI hF
        exact Goes.weak (J8 (a23_0, a23_1, a23_2, a23_3, a23_4, a23_5, a23_6, a23_7) _ e23 w23 ⟨f23_0, f23_1, f23_2, f23_8⟩) (Sub.cons (Sub.cons (Sub.cons (Sub.cons (Sub.cons (Sub.cons (Sub.cons (Sub.nil _) rfl) rfl) rfl) rfl) rfl) rfl) rfl)
end Go.Proofs.Ytndhbaidibioeaa.V
