/- Walks.
   No condition: these are laws of the clean machine and of this program. -/
import Derived.Test.YtndhbaidibioeaaXd
namespace Go.Proofs.Ytndhbaidibioeaa.V
open Go
set_option linter.unusedVariables false
set_option linter.unusedSimpArgs false
set_option maxRecDepth 100000
set_option maxHeartbeats 4000000
theorem s_law15_ran (n : Nat) {h : Heap} (hw : Wf h) (p0 : (List Timpostlaw15_Deed)) {a0_0 : Option Addr} {c0_0 : Nat} (f0_0 : RL R_Timpostlaw15_Deed h a0_0 c0_0 p0) {r : Obst_Tree × Omem_Mem} (hF : F_law15_ran n p0 = some r) :
    EvO EE 19 [.slice a0_0 p0.length c0_0] [] h (fun v S h1 => ∃ bw0 qw0_1 tw0_1 qw0_2 tw0_2 bw0o0 qw0o0_0 tw0o0_0, v = .tuple #[.pointer (some ⟨bw0, 0, none⟩), .pointer (some ⟨bw0o0, 0, none⟩)] ∧ S = [[⟨bw0, .cells [.pointer (some ⟨bw0o0, 0, none⟩), .slice qw0_1 r.1.nodes.length r.1.nodes.length, .slice qw0_2 r.1.infos.length r.1.infos.length] 83⟩], tw0_1, tw0_2, [⟨bw0o0, .cells [.slice qw0o0_0 r.2.cells.length r.2.cells.length, .int .i64 r.2.count] 94⟩], tw0o0_0] ∧ AccR R_Tbst_node 89 h1 tw0_1 (.slice qw0_1 r.1.nodes.length r.1.nodes.length) r.1.nodes ∧ AccR R_Tbst_info 86 h1 tw0_2 (.slice qw0_2 r.1.infos.length r.1.infos.length) r.1.infos ∧ AccR (RI_ .u64 29) 29 h1 tw0o0_0 (.slice qw0o0_0 r.2.cells.length r.2.cells.length) r.2.cells) := by
  unfold F_law15_ran at hF
  refine evo_of rfl at_19 rfl rfl ?_
  refine go_seq ?_
  refine go_region ?_
  refine gAc rfl rfl ?_
  refine gAc rfl rfl ?_
  refine go_nil ?_
  refine go_seq ?_
  refine go_region ?_
  replace hF := obind hF
  obtain ⟨x2, hx2, hF⟩ := hF
  refine gs_call EE_fr hw .nil (fun _ h => by cases h; rfl) of (os1 (oc rfl) os0) hb_11 (by exact s_mem_New_nil hw   hx2) ?_
  rintro v2 S2 h2 e2 w2 ⟨b2_w0, q2_w0_0, t2_w0_0, rfl, rfl, f2_0⟩
  simp only [List.cons_append, List.nil_append]
  refine gA rfl rfl ?_
  refine go_nil ?_
  refine go_seq ?_
  refine go_region ?_
  refine gM rfl rfl ?_
  replace hF := obind hF
  obtain ⟨x3, hx3, hF⟩ := hF
  refine gs_call EE_fr w2 (.cons .z (.cons .z .nil)) (fun _ h => by cases h; rfl) of (os1 (ot rfl) os0) hb_10 (by exact s_bst_New w2 x2 f2_0 hx3) ?_
  rintro v3 S3 h3 e3 w3 ⟨b3_w0, q3_w0_1, t3_w0_1, q3_w0_2, t3_w0_2, q3_w0o0_0, t3_w0o0_0, rfl, rfl, f3_0, f3_1, f3_2⟩
  simp only [List.cons_append, List.nil_append]
  refine gA rfl rfl ?_
  refine go_nil ?_
  refine go_seq ?_
  refine go_seq ?_
  refine go_region ?_
  refine gAc rfl rfl ?_
  refine go_nil ?_
  replace hF := obind hF
  obtain ⟨s4, hF, hK4⟩ := hF
  refine go_joinc (β := Option Addr × List Blk × Option Addr × List Blk × Option Addr × List Blk) (fun s h' => AccR R_Tbst_node 89 h' s.2.1 (.slice s.1 s4.1.length s4.1.length) s4.1 ∧ AccR R_Tbst_info 86 h' s.2.2.2.1 (.slice s.2.2.1 s4.2.1.length s4.2.1.length) s4.2.1 ∧ AccR (RI_ .u64 29) 29 h' s.2.2.2.2.2 (.slice s.2.2.2.2.1 s4.2.2.1.length s4.2.2.1.length) s4.2.2.1) (fun s => [(2, true, .pointer none), (3, true, .pointer none), (4, true, .pointer (some ⟨b2_w0, 0, none⟩)), (5, true, .pointer (some ⟨b3_w0, 0, none⟩))]) (fun s => (List.flatten [[⟨b3_w0, .cells [.pointer (some ⟨b2_w0, 0, none⟩), .slice s.1 s4.1.length s4.1.length, .slice s.2.2.1 s4.2.1.length s4.2.1.length] 83⟩], s.2.1, s.2.2.2.1, [⟨b2_w0, .cells [.slice s.2.2.2.2.1 s4.2.2.1.length s4.2.2.1.length, .int .i64 s4.2.2.2] 94⟩], s.2.2.2.2.2] : List Blk)) ?_ (fun J4 => ?_)
  ·
    rintro ⟨a4_0, a4_1, a4_2, a4_3, a4_4, a4_5⟩ h4 e4 w4 ⟨f4_0, f4_1, f4_2⟩
    replace hF := hK4
    refine go_seq ?_
    refine go_region ?_
    refine gM rfl rfl ?_
    refine gM rfl rfl ?_
    refine gA rfl rfl ?_
    refine gA rfl rfl ?_
    refine go_nil ?_
    obtain rfl := someI hF
    exact g_ret (rst rfl (rst rfl rs0)) (fun h1 hf hs => ⟨[[⟨b3_w0, .cells [.pointer (some ⟨b2_w0, 0, none⟩), .slice a4_0 s4.1.length s4.1.length, .slice a4_2 s4.2.1.length s4.2.1.length] 83⟩], a4_1, a4_3, [⟨b2_w0, .cells [.slice a4_4 s4.2.2.1.length s4.2.2.1.length, .int .i64 s4.2.2.2] 94⟩], a4_5], _, hf, (e2.trans (e3.trans e4)), w4, hs, (ndb (by intro e; cases e) (ndt f4_0 (ndt f4_1 (ndb (by intro e; cases e) (ndt f4_2 nd0))))), ⟨_, _, _, _, _, _, _, _, rfl, rfl, f4_0, f4_1, f4_2⟩⟩)
  ·
    refine go_block ?_
    refine go_loop (α := (List Timpostlaw15_Deed) × Nat × (List Tbst_node) × (List Tbst_info) × (List Int) × Int × Option Addr × List Blk × Option Addr × List Blk × Option Addr × List Blk × Heap) (fun a => a.1 = List.drop a.2.1 p0 ∧ HExt h3 a.2.2.2.2.2.2.2.2.2.2.2.2 ∧ Wf a.2.2.2.2.2.2.2.2.2.2.2.2 ∧ F_law15_ran_L1 n a.1 a.2.1 a.2.2.1 a.2.2.2.1 a.2.2.2.2.1 a.2.2.2.2.2.1 = some s4 ∧ AccR R_Tbst_node 89 a.2.2.2.2.2.2.2.2.2.2.2.2 a.2.2.2.2.2.2.2.1 (.slice a.2.2.2.2.2.2.1 a.2.2.1.length a.2.2.1.length) a.2.2.1 ∧ AccR R_Tbst_info 86 a.2.2.2.2.2.2.2.2.2.2.2.2 a.2.2.2.2.2.2.2.2.2.1 (.slice a.2.2.2.2.2.2.2.2.1 a.2.2.2.1.length a.2.2.2.1.length) a.2.2.2.1 ∧ AccR (RI_ .u64 29) 29 a.2.2.2.2.2.2.2.2.2.2.2.2 a.2.2.2.2.2.2.2.2.2.2.2.1 (.slice a.2.2.2.2.2.2.2.2.2.2.1 a.2.2.2.2.1.length a.2.2.2.2.1.length) a.2.2.2.2.1) (fun a => a.1.length) (fun a => [(0, true, .slice a0_0 p0.length c0_0), (2, true, .pointer none), (3, true, .pointer none), (4, true, .pointer (some ⟨b2_w0, 0, none⟩)), (5, true, .pointer (some ⟨b3_w0, 0, none⟩)), (6, true, .int .i64 (a.2.1 : Int))]) (fun a => (List.flatten [[⟨b3_w0, .cells [.pointer (some ⟨b2_w0, 0, none⟩), .slice a.2.2.2.2.2.2.1 a.2.2.1.length a.2.2.1.length, .slice a.2.2.2.2.2.2.2.2.1 a.2.2.2.1.length a.2.2.2.1.length] 83⟩], a.2.2.2.2.2.2.2.1, a.2.2.2.2.2.2.2.2.2.1, [⟨b2_w0, .cells [.slice a.2.2.2.2.2.2.2.2.2.2.1 a.2.2.2.2.1.length a.2.2.2.2.1.length, .int .i64 a.2.2.2.2.2.1] 94⟩], a.2.2.2.2.2.2.2.2.2.2.2.1] : List Blk)) (fun a => a.2.2.2.2.2.2.2.2.2.2.2.2) ?_ (p0, 0, x3.1.nodes, x3.1.infos, x3.2.cells, x3.2.count, q3_w0_1, t3_w0_1, q3_w0_2, t3_w0_2, q3_w0o0_0, t3_w0o0_0, h3) ⟨rfl, HExt.refl _, w3, hF, f3_0, f3_1, f3_2⟩ (Sub.cons (Sub.cons (Sub.cons (Sub.cons (Sub.cons (Sub.cons (Sub.nil _) rfl) rfl) rfl) rfl) rfl) rfl) rfl rfl
    rintro ⟨r5, i5, y5_0, y5_1, y5_2, y5_3, a5_0, a5_1, a5_2, a5_3, a5_4, a5_5, h5⟩ ⟨hr5, e5, w5, hF, f5_0, f5_1, f5_2⟩ ih5
    rcases r5 with _ | ⟨z5, r5⟩
    ·
      have hi5 := drop_nil hr5
      rw [F_law15_ran_L1.eq_1] at hF
      refine go_seq ?_
      refine go_seq ?_
      refine go_region ?_
      refine gM rfl rfl ?_
      refine gM rfl rfl ?_
      refine gr rfl (r_len rfl (os1 (ot rfl) os0) (fun _ _ => ln_22)) ?_
      refine gr rfl (r_bin (ot rfl) (ot rfl) rfl) ?_
      refine go_cast (.bool false) (congrArg Value.bool (decide_eq_false hi5)) ?_
      refine gM rfl rfl ?_
      refine g_no rfl rfl rfl rfl rfl ?_
      refine g_no rfl rfl rfl rfl rfl ?_
      refine gr rfl (r_pkF (ot rfl) (oc rfl)) ?_
      refine go_nil ?_
      refine g_cond (b := false) (ot rfl) (fun hc6 => ?_) (fun hc6 => ?_)
      · cases hc6
      refine go_exit rfl ?_
      obtain rfl := someI hF
      exact Goes.weak (J4 (a5_0, a5_1, a5_2, a5_3, a5_4, a5_5) _ e5 w5 ⟨f5_0, f5_1, f5_2⟩) (Sub.cons (Sub.cons (Sub.cons (Sub.cons (Sub.nil _) rfl) rfl) rfl) rfl)
    ·
      obtain ⟨hi5, hx5, hr5⟩ := drop_cons hr5
      have hb5 := (((f0_0.ext e2.kn).ext e3.kn).ext e5.kn).1
      rw [F_law15_ran_L1.eq_2] at hF
      refine go_seq ?_
      refine go_seq ?_
      refine go_region ?_
      refine gM rfl rfl ?_
      refine gM rfl rfl ?_
      refine gr rfl (r_len rfl (os1 (ot rfl) os0) (fun _ _ => ln_22)) ?_
      refine gr rfl (r_bin (ot rfl) (ot rfl) rfl) ?_
      refine go_cast (.bool true) (congrArg Value.bool (decide_eq_true (Int.ofNat_lt.mpr hi5))) ?_
      refine gM rfl rfl ?_
      refine g_do rfl rfl rfl ?_
      refine gM rfl rfl ?_
      refine g_do rfl rfl rfl ?_
      refine gr rfl (r_bin (ot rfl) (oc rfl) rfl) ?_
      refine gr rfl (r_pkT (ot rfl) (ot rfl)) ?_
      refine go_nil ?_
      refine g_cond (b := (decide ((i5 : Int) < 60))) (ot rfl) (fun hc7 => ?_) (fun hc7 => ?_)
      ·
        replace hF := ifT hc7 hF
        refine go_skip ?_
        refine go_seq ?_
        refine go_block ?_
        refine go_region ?_
        refine gM rfl rfl ?_
        refine gM rfl rfl ?_
        refine gM rfl rfl ?_
        obtain ⟨q8, row8, i8, cl8, rc8, sp8⟩ := ix (ik := .i64) (cap := c0_0) (E := EE) (((f0_0.ext e2.kn).ext e3.kn).ext e5.kn) ((getI_nat _ _).trans hx5) ut_22 sz_37 rfl
        obtain rfl := rc8
        refine gr rfl (r_ia (ot rfl) (ot rfl) i8) ?_
        refine gr rfl (r_load (ot rfl) (v := .agg #[.int .i64 z5.Kind, .string z5.Key, .int .u64 z5.Val]) (lo_e (fun hf kn => ld_of (r := [.int .i64 z5.Kind, .string z5.Key, .int .u64 z5.Val]) ag_37 sz_37 (kn.cellsAt cl8)))) ?_
        replace hF := obind hF
        obtain ⟨x9, hx9, hF⟩ := hF
        refine gs_call EE_fr w5 (.cons .z (.cons .z (.cons .z (.cons .z (.cons .z .nil))))) (fun _ h => by cases h; rfl) of (os1 (ot rfl) (os1 (ot rfl) os0)) hb_13 (by exact s_law15_begun n w5 (⟨y5_0, y5_1⟩ : Obst_Tree) (⟨y5_2, y5_3⟩ : Omem_Mem) z5 f5_0 f5_1 f5_2 hx9) ?_
        rintro v9 S9 h9 e9 w9 ⟨q9_y0_1, t9_y0_1, q9_y0_2, t9_y0_2, q9_y0o0_0, t9_y0o0_0, b9_w0, v9_w0_4, t9_w0_4, rfl, rfl, f9_0, f9_1, f9_2, f9_3⟩
        simp only [List.cons_append, List.nil_append]
        replace hF := obind hF
        obtain ⟨x10, hx10, hF⟩ := hF
        refine gs_call EE_fr w9 (.cons .z (.cons .z (.cons .z (.cons .z (.cons .z (.cons .z (.cons .z .nil))))))) (fun _ h => by cases h; rfl) of (os1 (ot rfl) os0) hb_12 (by exact s_bst_Run n w9 (⟨x9.2.1.nodes, x9.2.1.infos⟩ : Obst_Tree) (⟨x9.2.2.cells, x9.2.2.count⟩ : Omem_Mem) (⟨x9.1.told_Ok, x9.1.told_Key, x9.1.told_Val, x9.1.told_Err, x9.1.next⟩ : Obst_Call_2) f9_0 f9_1 f9_2 f9_3 hx10) ?_
        rintro v10 S10 h10 e10 w10 ⟨q10_y0_1, t10_y0_1, q10_y0_2, t10_y0_2, q10_y0o0_0, t10_y0o0_0, v10_y1_4, t10_y1_4, rfl, rfl, f10_0, f10_1, f10_2, f10_3⟩
        simp only [List.cons_append, List.nil_append]
        refine go_nil ?_
        refine go_endb ?_
        refine go_region ?_
        refine gM rfl rfl ?_
        refine gr rfl (r_bin (ot rfl) (oc rfl) rfl) ?_
        refine gA rfl rfl ?_
        refine go_nil ?_
        refine gs_sub (.cons_cons _ (.cons_cons _ (.cons_cons _ (.cons_cons _ (.cons_cons _ (.cons _ (.cons _ (.refl _)))))))) ?_
        refine go_re 6 (v2 := .int .i64 ((i5 + 1 : Nat) : Int)) rfl (wrap_succ hi5 hb5) ?_
        exact Goes.weak (ih5 (r5, i5 + 1, x10.2.1.nodes, x10.2.1.infos, x10.2.2.1.cells, x10.2.2.1.count, q10_y0_1, t10_y0_1, q10_y0_2, t10_y0_2, q10_y0o0_0, t10_y0o0_0, h10) ⟨hr5, (e5.trans (e9.trans e10)), w10, hF, f10_0, f10_1, f10_2⟩ (Nat.lt_succ_self _)) (Sub.cons (Sub.cons (Sub.cons (Sub.cons (Sub.cons (Sub.cons (Sub.nil _) rfl) rfl) rfl) rfl) rfl) rfl)
      ·
        replace hF := ifF hc7 hF
        refine go_exit rfl ?_
        obtain rfl := someI hF
        exact Goes.weak (J4 (a5_0, a5_1, a5_2, a5_3, a5_4, a5_5) _ e5 w5 ⟨f5_0, f5_1, f5_2⟩) (Sub.cons (Sub.cons (Sub.cons (Sub.cons (Sub.nil _) rfl) rfl) rfl) rfl)
end Go.Proofs.Ytndhbaidibioeaa.V
