/- Walks.
   No condition: these are laws of the clean machine and of this program. -/
import Derived.Test.YtndhbaidibioeaaXc
namespace Go.Proofs.Ytndhbaidibioeaa.V
open Go
set_option linter.unusedVariables false
set_option linter.unusedSimpArgs false
set_option maxRecDepth 100000
set_option maxHeartbeats 4000000
theorem s_law15_begun (n : Nat) {h : Heap} (hw : Wf h) (p0 : Obst_Tree) (p0o0 : Omem_Mem) (p1 : Timpostlaw15_Deed) {bp0 : Nat} {q0_1 : Option Addr} {t0_1 : List Blk} {q0_2 : Option Addr} {t0_2 : List Blk} {bp0o0 : Nat} {q0o0_0 : Option Addr} {t0o0_0 : List Blk} (f0_1 : AccR R_Tbst_node 89 h t0_1 (.slice q0_1 p0.nodes.length p0.nodes.length) p0.nodes) (f0_2 : AccR R_Tbst_info 86 h t0_2 (.slice q0_2 p0.infos.length p0.infos.length) p0.infos) (f0o0_0 : AccR (RI_ .u64 29) 29 h t0o0_0 (.slice q0o0_0 p0o0.cells.length p0o0.cells.length) p0o0.cells) {r : Obst_Call_2 × Obst_Tree × Omem_Mem} (hF : F_law15_begun n p0 p0o0 p1 = some r) :
    EvO EE 13 [.pointer (some ⟨bp0, 0, none⟩), .agg #[.int .i64 p1.Kind, .string p1.Key, .int .u64 p1.Val]] [[⟨bp0, .cells [.pointer (some ⟨bp0o0, 0, none⟩), .slice q0_1 p0.nodes.length p0.nodes.length, .slice q0_2 p0.infos.length p0.infos.length] 83⟩], t0_1, t0_2, [⟨bp0o0, .cells [.slice q0o0_0 p0o0.cells.length p0o0.cells.length, .int .i64 p0o0.count] 94⟩], t0o0_0] h (fun v S h1 => ∃ qy0_1 ty0_1 qy0_2 ty0_2 qy0o0_0 ty0o0_0 bw0 vw0_4 tw0_4, v = .pointer (some ⟨bw0, 0, none⟩) ∧ S = [[⟨bp0, .cells [.pointer (some ⟨bp0o0, 0, none⟩), .slice qy0_1 r.2.1.nodes.length r.2.1.nodes.length, .slice qy0_2 r.2.1.infos.length r.2.1.infos.length] 83⟩], ty0_1, ty0_2, [⟨bp0o0, .cells [.slice qy0o0_0 r.2.2.cells.length r.2.2.cells.length, .int .i64 r.2.2.count] 94⟩], ty0o0_0, [⟨bw0, .cells [.bool r.1.told_Ok, .string r.1.told_Key, .int .u64 r.1.told_Val, .int .i64 r.1.told_Err, vw0_4] 114⟩], tw0_4] ∧ AccR R_Tbst_node 89 h1 ty0_1 (.slice qy0_1 r.2.1.nodes.length r.2.1.nodes.length) r.2.1.nodes ∧ AccR R_Tbst_info 86 h1 ty0_2 (.slice qy0_2 r.2.1.infos.length r.2.1.infos.length) r.2.1.infos ∧ AccR (RI_ .u64 29) 29 h1 ty0o0_0 (.slice qy0o0_0 r.2.2.cells.length r.2.2.cells.length) r.2.2.cells ∧ OC h1 bp0 bw0 tw0_4 r.1.next vw0_4) := by
  unfold F_law15_begun at hF
  refine evo_of rfl at_13 rfl rfl ?_
  refine go_seq ?_
  refine go_region ?_
  refine gs_box rfl (ot rfl) rfl ?_; intro b3_3
  refine gAc rfl rfl ?_
  refine go_nil ?_
  refine go_seq ?_
  refine go_seq ?_
  refine go_region ?_
  refine gr rfl (r_fa (ot rfl) (fa_37_0 _ _)) ?_
  refine gr rfl (r_load (ot rfl) (lm_s (mem_seg 0 rfl) ag_3 rfl)) ?_
  refine go_nil ?_
  refine go_block ?_
  refine go_seq ?_
  refine go_region ?_
  refine gr rfl (r_bin (ot rfl) (oc rfl) rfl) ?_
  refine gA rfl rfl ?_
  refine go_nil ?_
  refine g_cond (b := (p1.Kind == 1)) (ot rfl) (fun hc4 => ?_) (fun hc4 => ?_)
  ·
    replace hF := ifT hc4 hF
    refine go_seq ?_
    refine go_region ?_
    refine gM rfl rfl ?_
    refine gr rfl (r_fa (ot rfl) (fa_37_1 _ _)) ?_
    refine gr rfl (r_load (ot rfl) (lm_s (mem_seg 0 rfl) ag_9 rfl)) ?_
    refine gr rfl (r_fa (ot rfl) (fa_37_2 _ _)) ?_
    refine gr rfl (r_load (ot rfl) (lm_s (mem_seg 0 rfl) ag_29 rfl)) ?_
    replace hF := obind hF
    obtain ⟨x5, hx5, hF⟩ := hF
    refine gs_call EE_fr hw (.cons (.s (.z)) (.cons (.s (.z)) (.cons (.s (.z)) (.cons (.s (.z)) (.cons (.s (.z)) .nil))))) (fun _ h => by cases h; rfl) of (os1 (ot rfl) (os1 (ot rfl) (os1 (ot rfl) os0))) hb_22 (by exact s_bst_Tree_Insert n hw p0 p0o0 p1.Key p1.Val f0_1 f0_2 f0o0_0 hx5) ?_
    rintro v5 S5 h5 e5 w5 ⟨q5_y0_1, t5_y0_1, q5_y0_2, t5_y0_2, q5_y0o0_0, t5_y0o0_0, b5_w0, v5_w0_4, t5_w0_4, rfl, rfl, f5_0, f5_1, f5_2, f5_3⟩
    simp only [List.cons_append, List.nil_append]
    refine gA rfl rfl ?_
    refine go_nil ?_
    obtain rfl := someI hF
    refine gs_sub (.cons_cons _ (.cons_cons _ (.cons_cons _ (.cons_cons _ (.cons_cons _ (.cons_cons _ (.cons_cons _ (.cons _ (.refl _))))))))) ?_
    exact g_ret (rst rfl rs0) (fun h1 hf hs => ⟨[[⟨bp0, .cells [.pointer (some ⟨bp0o0, 0, none⟩), .slice q5_y0_1 x5.2.1.nodes.length x5.2.1.nodes.length, .slice q5_y0_2 x5.2.1.infos.length x5.2.1.infos.length] 83⟩], t5_y0_1, t5_y0_2, [⟨bp0o0, .cells [.slice q5_y0o0_0 x5.2.2.cells.length x5.2.2.cells.length, .int .i64 x5.2.2.count] 94⟩], t5_y0o0_0, [⟨b5_w0, .cells [.bool x5.1.told_Ok, .string x5.1.told_Key, .int .u64 x5.1.told_Val, .int .i64 x5.1.told_Err, v5_w0_4] 114⟩], t5_w0_4], _, hf, e5, w5, hs, (ndb (by intro e; cases e) (ndt f5_0 (ndt f5_1 (ndb (by intro e; cases e) (ndt f5_2 (ndb (by intro e; cases e) (ndc f5_3 nd0))))))), ⟨_, _, _, _, _, _, _, _, _, rfl, rfl, f5_0, f5_1, f5_2, f5_3⟩⟩)
  ·
    replace hF := ifF hc4 hF
    refine go_seq ?_
    refine go_region ?_
    refine gr rfl (r_bin (ot rfl) (oc rfl) rfl) ?_
    refine gA rfl rfl ?_
    refine go_nil ?_
    refine g_cond (b := (p1.Kind == 2)) (ot rfl) (fun hc6 => ?_) (fun hc6 => ?_)
    ·
      replace hF := ifT hc6 hF
      refine go_seq ?_
      refine go_region ?_
      refine gM rfl rfl ?_
      refine gr rfl (r_fa (ot rfl) (fa_37_1 _ _)) ?_
      refine gr rfl (r_load (ot rfl) (lm_s (mem_seg 0 rfl) ag_9 rfl)) ?_
      replace hF := obind hF
      obtain ⟨x7, hx7, hF⟩ := hF
      refine gs_call EE_fr hw (.cons (.s (.z)) (.cons (.s (.z)) (.cons (.s (.z)) (.cons (.s (.z)) (.cons (.s (.z)) .nil))))) (fun _ h => by cases h; rfl) of (os1 (ot rfl) (os1 (ot rfl) os0)) hb_37 (by exact s_bst_Tree_Delete n hw p0 p0o0 p1.Key f0_1 f0_2 f0o0_0 hx7) ?_
      rintro v7 S7 h7 e7 w7 ⟨q7_y0_1, t7_y0_1, q7_y0_2, t7_y0_2, q7_y0o0_0, t7_y0o0_0, b7_w0, v7_w0_4, t7_w0_4, rfl, rfl, f7_0, f7_1, f7_2, f7_3⟩
      simp only [List.cons_append, List.nil_append]
      refine gA rfl rfl ?_
      refine go_nil ?_
      obtain rfl := someI hF
      refine gs_sub (.cons_cons _ (.cons_cons _ (.cons_cons _ (.cons_cons _ (.cons_cons _ (.cons_cons _ (.cons_cons _ (.cons _ (.refl _))))))))) ?_
      exact g_ret (rst rfl rs0) (fun h1 hf hs => ⟨[[⟨bp0, .cells [.pointer (some ⟨bp0o0, 0, none⟩), .slice q7_y0_1 x7.2.1.nodes.length x7.2.1.nodes.length, .slice q7_y0_2 x7.2.1.infos.length x7.2.1.infos.length] 83⟩], t7_y0_1, t7_y0_2, [⟨bp0o0, .cells [.slice q7_y0o0_0 x7.2.2.cells.length x7.2.2.cells.length, .int .i64 x7.2.2.count] 94⟩], t7_y0o0_0, [⟨b7_w0, .cells [.bool x7.1.told_Ok, .string x7.1.told_Key, .int .u64 x7.1.told_Val, .int .i64 x7.1.told_Err, v7_w0_4] 114⟩], t7_w0_4], _, hf, e7, w7, hs, (ndb (by intro e; cases e) (ndt f7_0 (ndt f7_1 (ndb (by intro e; cases e) (ndt f7_2 (ndb (by intro e; cases e) (ndc f7_3 nd0))))))), ⟨_, _, _, _, _, _, _, _, _, rfl, rfl, f7_0, f7_1, f7_2, f7_3⟩⟩)
    ·
      replace hF := ifF hc6 hF
      refine go_skip ?_
      refine go_endb ?_
      refine go_seq ?_
      refine go_region ?_
      refine gM rfl rfl ?_
      refine gr rfl (r_fa (ot rfl) (fa_37_1 _ _)) ?_
      refine gr rfl (r_load (ot rfl) (lm_s (mem_seg 0 rfl) ag_9 rfl)) ?_
      replace hF := obind hF
      obtain ⟨x8, hx8, hF⟩ := hF
      refine gs_call EE_fr hw (.cons (.s (.z)) (.cons (.s (.z)) (.cons (.s (.z)) (.cons (.s (.z)) (.cons (.s (.z)) .nil))))) (fun _ h => by cases h; rfl) of (os1 (ot rfl) (os1 (ot rfl) os0)) hb_27 (by exact s_bst_Tree_Find n hw p0 p0o0 p1.Key f0_1 f0_2 f0o0_0 hx8) ?_
      rintro v8 S8 h8 e8 w8 ⟨q8_y0_1, t8_y0_1, q8_y0_2, t8_y0_2, q8_y0o0_0, t8_y0o0_0, b8_w0, v8_w0_4, t8_w0_4, rfl, rfl, f8_0, f8_1, f8_2, f8_3⟩
      simp only [List.cons_append, List.nil_append]
      refine gA rfl rfl ?_
      refine go_nil ?_
      obtain rfl := someI hF
      refine gs_sub (.cons_cons _ (.cons_cons _ (.cons_cons _ (.cons_cons _ (.cons_cons _ (.cons_cons _ (.cons_cons _ (.cons _ (.refl _))))))))) ?_
      exact g_ret (rst rfl rs0) (fun h1 hf hs => ⟨[[⟨bp0, .cells [.pointer (some ⟨bp0o0, 0, none⟩), .slice q8_y0_1 x8.2.1.nodes.length x8.2.1.nodes.length, .slice q8_y0_2 x8.2.1.infos.length x8.2.1.infos.length] 83⟩], t8_y0_1, t8_y0_2, [⟨bp0o0, .cells [.slice q8_y0o0_0 x8.2.2.cells.length x8.2.2.cells.length, .int .i64 x8.2.2.count] 94⟩], t8_y0o0_0, [⟨b8_w0, .cells [.bool x8.1.told_Ok, .string x8.1.told_Key, .int .u64 x8.1.told_Val, .int .i64 x8.1.told_Err, v8_w0_4] 114⟩], t8_w0_4], _, hf, e8, w8, hs, (ndb (by intro e; cases e) (ndt f8_0 (ndt f8_1 (ndb (by intro e; cases e) (ndt f8_2 (ndb (by intro e; cases e) (ndc f8_3 nd0))))))), ⟨_, _, _, _, _, _, _, _, _, rfl, rfl, f8_0, f8_1, f8_2, f8_3⟩⟩)
theorem s_law15_call {h : Heap} (hw : Wf h) (p0 : Timpostlaw15_Deed)   {r : Timpostref14_Call} (hF : F_law15_call p0 = some r) :
    Ev EE 15 [.agg #[.int .i64 p0.Kind, .string p0.Key, .int .u64 p0.Val]] h (fun v _ => v = .agg #[.int .i64 r.Kind, .string r.Key, .bool r.Ok, .int .i64 r.Inv, .int .i64 r.Ret]) := by
  unfold F_law15_call at hF
  refine ev_of hw rfl at_15 rfl rfl (go_seg0 ?_)
  refine go_seq ?_
  refine go_region ?_
  refine gs_box rfl (ot rfl) rfl ?_; intro b1_2
  refine gs_alloc rfl zo_41 rfl ?_; intro b2_3
  refine go_nil ?_
  refine go_seq ?_
  refine go_region ?_
  refine gr rfl (r_fa (ot rfl) (fa_37_0 _ _)) ?_
  refine gr rfl (r_load (ot rfl) (lm_s (mem_seg 1 rfl) ag_3 rfl)) ?_
  refine gr rfl (r_fa (ot rfl) (fa_37_1 _ _)) ?_
  refine gr rfl (r_load (ot rfl) (lm_s (mem_seg 1 rfl) ag_9 rfl)) ?_
  refine gr rfl (r_build (op1 (ot rfl) (op1 (ot rfl) op0)) rfl) ?_
  refine gs_store (ot rfl) (ot rfl) sz_41 rfl rfl rfl rfl rfl .z ?_
  refine go_nil ?_
  obtain rfl := someI hF
  exact g_ret (rsc rfl (lm_w (mem_seg 0 rfl) ag_41 sz_41 rfl) rs0) (fun h1 hf hs => ⟨hs.hext, rfl⟩)
theorem s_ref15_Do {h : Heap} (hw : Wf h) (p0 : (List Timpostref15_Entry)) (p1 : Timpostref14_Call) (p2 : Int) {a0_0 : Option Addr} {c0_0 : Nat} (f0_0 : RL R_Timpostref15_Entry h a0_0 c0_0 p0) {r : (List Timpostref15_Entry) × Bool × Int} (hF : F_ref15_Do p0 p1 p2 = some r) :
    Ev EE 14 [.slice a0_0 p0.length c0_0, .agg #[.int .i64 p1.Kind, .string p1.Key, .bool p1.Ok, .int .i64 p1.Inv, .int .i64 p1.Ret], .int .u64 p2] h (fun v h1 => ∃ a0 c0, v = .tuple #[.slice a0 r.1.length c0, .bool r.2.1, .int .u64 r.2.2] ∧ RL R_Timpostref15_Entry h1 a0 c0 r.1) := by
  unfold F_ref15_Do at hF
  refine ev_of hw rfl at_14 rfl rfl (go_seg0 ?_)
  refine go_seq ?_
  refine go_region ?_
  refine gs_box rfl (ot rfl) rfl ?_; intro b4_4
  refine gAc rfl rfl ?_
  refine gAc rfl rfl ?_
  refine gAc rfl rfl ?_
  refine go_nil ?_
  refine go_seq ?_
  refine go_region ?_
  refine gAc rfl rfl ?_
  refine go_nil ?_
  refine go_seq ?_
  refine go_region ?_
  refine gAc rfl rfl ?_
  refine go_nil ?_
  refine go_seq ?_
  refine go_region ?_
  refine gAc rfl rfl ?_
  refine go_nil ?_
  refine go_seq ?_
  refine go_seq ?_
  refine go_region ?_
  refine gAc rfl rfl ?_
  refine go_nil ?_
  replace hF := obind hF
  obtain ⟨s5, hF, hK5⟩ := hF
  refine go_joinc (β := Option Addr × List Blk) (fun s h' => AccR R_Timpostref15_Entry 96 h' s.2 (.slice s.1 s5.1.length s5.1.length) s5.1) (fun s => [(0, true, .slice a0_0 p0.length c0_0), (2, true, .int .u64 p2), (4, true, .pointer (some ⟨b4_4, 0, none⟩)), (6, true, .slice none 0 0), (7, true, .bool false), (8, true, .int .u64 0), (9, true, .slice s.1 s5.1.length s5.1.length), (10, true, .int .u64 s5.2.1), (11, true, .bool s5.2.2)]) (fun s => (List.flatten [s.2, [⟨b4_4, .cells [.int .i64 p1.Kind, .string p1.Key, .bool p1.Ok, .int .i64 p1.Inv, .int .i64 p1.Ret] 41⟩]] : List Blk)) ?_ (fun J5 => ?_)
  ·
    rintro ⟨a5_0, a5_1⟩ h5 e5 w5 f5_0
    replace hF := hK5
    refine go_seq ?_
    refine go_seq ?_
    refine go_region ?_
    refine gr rfl (r_fa (ot rfl) (fa_41_0 _ _)) ?_
    refine gr rfl (r_load (ot rfl) (lm_s (mem_seg 1 rfl) ag_3 rfl)) ?_
    refine gr rfl (r_bin (ot rfl) (oc rfl) rfl) ?_
    refine gM rfl rfl ?_
    refine grt rfl rfl rfl rfl (r_move (ot rfl)) ?_
    refine grt rfl rfl rfl rfl (r_un (og rfl id) rfl) ?_
    refine gr rfl (r_pickb (ot rfl) (og rfl id) (oc rfl)) ?_
    refine go_nil ?_
    refine g_cond (b := (bif (p1.Kind == 1) then (!s5.2.2) else false)) (ot rfl) (fun hc6 => ?_) (fun hc6 => ?_)
    ·
      replace hF := ifT hc6 hF
      refine go_seq ?_
      refine go_region ?_
      refine gM rfl rfl ?_
      refine gr rfl (r_fa (ot rfl) (fa_41_1 _ _)) ?_
      refine gr rfl (r_load (ot rfl) (lm_s (mem_seg 1 rfl) ag_9 rfl)) ?_
      refine gM rfl rfl ?_
      refine gr rfl (r_build (op1 (ot rfl) (op1 (ot rfl) op0)) rfl) ?_
      refine gs_bslice (cs := [.string p1.Key, .int .u64 p2]) rfl (op1 (ot rfl) op0) ut_28 sz_96 zo_96 rfl rfl ?_; intro b51_7
      replace hF := obind hF
      obtain ⟨x8, hx8, hF⟩ := hF
      obtain ⟨hr8, hz8_⟩ := appL_some hx8; subst x8
      refine gs_front (.s (.z)) ?_
      refine gs_app (rows2 := [[.string p1.Key, .int .u64 p2]]) (R := R_Timpostref15_Entry) rfl (os1 (ot rfl) (os1 (ot rfl) os0)) rfl ut_28 sz_96 rfl (by decide) by_96 zo_96 rfl zs_28_28 rfl rfl (first_m (mem_seg 1 rfl) rfl (by decide)) (Rws.one (x := (⟨p1.Key, p2⟩ : Timpostref15_Entry)) rfl) f5_0 hr8 (fun p8_ tl8 f8_ => ?_)
      refine gA rfl rfl ?_
      refine go_nil ?_
      refine go_seq ?_
      refine go_region ?_
      refine gM rfl rfl ?_
      refine gM rfl rfl ?_
      refine gA rfl rfl ?_
      refine gAc rfl rfl ?_
      refine gA rfl rfl ?_
      refine go_nil ?_
      refine gs_accpub .z f8_ (fun h9 e9 w9 f9_ => ?_) rfl
      obtain rfl := someI hF
      exact g_ret (rst rfl (rst rfl (rst rfl rs0))) (fun h1 hf hs => ⟨(e5.trans (e9.trans hs.hext)), ⟨_, _, rfl, (f9_.ext hs.hext.kn)⟩⟩)
    ·
      replace hF := ifF hc6 hF
      refine go_skip ?_
      refine go_seq ?_
      refine go_seq ?_
      refine go_region ?_
      refine gr rfl (r_fa (ot rfl) (fa_41_0 _ _)) ?_
      refine gr rfl (r_load (ot rfl) (lm_s (mem_seg 1 rfl) ag_3 rfl)) ?_
      refine gr rfl (r_bin (ot rfl) (oc rfl) rfl) ?_
      refine go_nil ?_
      refine g_cond (b := (p1.Kind == 1)) (ot rfl) (fun hc10 => ?_) (fun hc10 => ?_)
      ·
        replace hF := ifT hc10 hF
        refine go_seq ?_
        refine go_region ?_
        refine gM rfl rfl ?_
        refine gM rfl rfl ?_
        refine gA rfl rfl ?_
        refine gAc rfl rfl ?_
        refine gA rfl rfl ?_
        refine go_nil ?_
        obtain rfl := someI hF
        exact g_ret (rst rfl (rst rfl (rst rfl rs0))) (fun h1 hf hs => ⟨(e5.trans hs.hext), ⟨_, _, rfl, ((f0_0.ext e5.kn).ext hs.hext.kn)⟩⟩)
      ·
        replace hF := ifF hc10 hF
        refine go_skip ?_
        refine go_seq ?_
        refine go_seq ?_
        refine go_region ?_
        refine gr rfl (r_fa (ot rfl) (fa_41_0 _ _)) ?_
        refine gr rfl (r_load (ot rfl) (lm_s (mem_seg 1 rfl) ag_3 rfl)) ?_
        refine gr rfl (r_bin (ot rfl) (oc rfl) rfl) ?_
        refine go_nil ?_
        refine g_cond (b := (p1.Kind == 2)) (ot rfl) (fun hc11 => ?_) (fun hc11 => ?_)
        ·
          replace hF := ifT hc11 hF
          refine go_seq ?_
          refine go_region ?_
          refine gM rfl rfl ?_
          refine gM rfl rfl ?_
          refine gM rfl rfl ?_
          refine gA rfl rfl ?_
          refine gA rfl rfl ?_
          refine gA rfl rfl ?_
          refine go_nil ?_
          refine gs_accpub .z f5_0 (fun h12 e12 w12 f12_ => ?_) rfl
          obtain rfl := someI hF
          exact g_ret (rst rfl (rst rfl (rst rfl rs0))) (fun h1 hf hs => ⟨(e5.trans (e12.trans hs.hext)), ⟨_, _, rfl, (f12_.ext hs.hext.kn)⟩⟩)
        ·
          replace hF := ifF hc11 hF
          refine go_skip ?_
          refine go_seq ?_
          refine go_region ?_
          refine gM rfl rfl ?_
          refine gM rfl rfl ?_
          refine gM rfl rfl ?_
          refine gA rfl rfl ?_
          refine gA rfl rfl ?_
          refine gA rfl rfl ?_
          refine go_nil ?_
          obtain rfl := someI hF
          exact g_ret (rst rfl (rst rfl (rst rfl rs0))) (fun h1 hf hs => ⟨(e5.trans hs.hext), ⟨_, _, rfl, ((f0_0.ext e5.kn).ext hs.hext.kn)⟩⟩)
  ·
    refine go_block ?_
    refine go_loop (α := (List Timpostref15_Entry) × Nat × (List Timpostref15_Entry) × Int × Bool × Option Addr × List Blk × Heap) (fun a => a.1 = List.drop a.2.1 p0 ∧ HExt h a.2.2.2.2.2.2.2 ∧ Wf a.2.2.2.2.2.2.2 ∧ F_ref15_Do_L1 p1 a.1 a.2.1 a.2.2.1 a.2.2.2.1 a.2.2.2.2.1 = some s5 ∧ AccR R_Timpostref15_Entry 96 a.2.2.2.2.2.2.2 a.2.2.2.2.2.2.1 (.slice a.2.2.2.2.2.1 a.2.2.1.length a.2.2.1.length) a.2.2.1) (fun a => a.1.length) (fun a => [(0, true, .slice a0_0 p0.length c0_0), (2, true, .int .u64 p2), (4, true, .pointer (some ⟨b4_4, 0, none⟩)), (6, true, .slice none 0 0), (7, true, .bool false), (8, true, .int .u64 0), (9, true, .slice a.2.2.2.2.2.1 a.2.2.1.length a.2.2.1.length), (10, true, .int .u64 a.2.2.2.1), (11, true, .bool a.2.2.2.2.1), (12, true, .int .i64 (a.2.1 : Int))]) (fun a => (List.flatten [a.2.2.2.2.2.2.1, [⟨b4_4, .cells [.int .i64 p1.Kind, .string p1.Key, .bool p1.Ok, .int .i64 p1.Inv, .int .i64 p1.Ret] 41⟩]] : List Blk)) (fun a => a.2.2.2.2.2.2.2) ?_ (p0, 0, ([] : List Timpostref15_Entry), 0, false, none, [], h) ⟨rfl, HExt.refl _, hw, hF, (AccR.nil _ _ _)⟩ (Sub.cons (Sub.cons (Sub.cons (Sub.cons (Sub.cons (Sub.cons (Sub.cons (Sub.cons (Sub.cons (Sub.cons (Sub.nil _) rfl) rfl) rfl) rfl) rfl) rfl) rfl) rfl) rfl) rfl) rfl rfl
    rintro ⟨r13, i13, y13_0, y13_1, y13_2, a13_0, a13_1, h13⟩ ⟨hr13, e13, w13, hF, f13_0⟩ ih13
    rcases r13 with _ | ⟨z13, r13⟩
    ·
      have hi13 := drop_nil hr13
      rw [F_ref15_Do_L1.eq_1] at hF
      refine go_seq ?_
      refine go_seq ?_
      refine go_region ?_
      refine gM rfl rfl ?_
      refine gM rfl rfl ?_
      refine gr rfl (r_len rfl (os1 (ot rfl) os0) (fun _ _ => ln_28)) ?_
      refine gr rfl (r_bin (ot rfl) (ot rfl) rfl) ?_
      refine go_cast (.bool false) (congrArg Value.bool (decide_eq_false hi13)) ?_
      refine go_nil ?_
      refine g_cond (b := false) (ot rfl) (fun hc14 => ?_) (fun hc14 => ?_)
      · cases hc14
      refine go_exit rfl ?_
      obtain rfl := someI hF
      exact Goes.weak (J5 (a13_0, a13_1) _ e13 w13 f13_0) (Sub.cons (Sub.cons (Sub.cons (Sub.cons (Sub.cons (Sub.cons (Sub.cons (Sub.cons (Sub.cons (Sub.nil _) rfl) rfl) rfl) rfl) rfl) rfl) rfl) rfl) rfl)
    ·
      obtain ⟨hi13, hx13, hr13⟩ := drop_cons hr13
      have hb13 := (f0_0.ext e13.kn).1
      rw [F_ref15_Do_L1.eq_2] at hF
      refine go_seq ?_
      refine go_seq ?_
      refine go_region ?_
      refine gM rfl rfl ?_
      refine gM rfl rfl ?_
      refine gr rfl (r_len rfl (os1 (ot rfl) os0) (fun _ _ => ln_28)) ?_
      refine gr rfl (r_bin (ot rfl) (ot rfl) rfl) ?_
      refine go_cast (.bool true) (congrArg Value.bool (decide_eq_true (Int.ofNat_lt.mpr hi13))) ?_
      refine go_nil ?_
      refine g_cond (b := true) (ot rfl) (fun hc15 => ?_) (fun hc15 => ?_)
      rotate_left
      · cases hc15
      refine go_skip ?_
      refine go_seq ?_
      refine go_block ?_
      refine go_seq ?_
      refine go_regionq (by kernel_rfl) ?_
      refine gM rfl rfl ?_
      refine gM rfl rfl ?_
      obtain ⟨q16, row16, i16, cl16, rc16, sp16⟩ := ix (ik := .i64) (cap := c0_0) (E := EE) (f0_0.ext e13.kn) ((getI_nat _ _).trans hx13) ut_28 sz_96 rfl
      obtain rfl := rc16
      refine gr rfl (r_ia (ot rfl) (ot rfl) i16) ?_
      refine gr rfl (r_fa (ot rfl) (fs_96_0 sp16)) ?_
      refine gr rfl (r_load (ot rfl) (v := .string z13.Key) (lo_e (fun hf kn => ld_field (r := [.string z13.Key, .int .u64 z13.Val]) ag_9 (kn.cellsAt cl16) rfl))) ?_
      refine gr rfl (r_fa (ot rfl) (fa_41_1 _ _)) ?_
      refine gr rfl (r_load (ot rfl) (lm_s (mem_seg 1 rfl) ag_9 rfl)) ?_
      refine gr rfl (r_bin (ot rfl) (ot rfl) rfl) ?_
      refine go_nil ?_
      replace hF := obind hF
      obtain ⟨s18, hF, hK18⟩ := hF
      refine go_joinc (β := Option Addr × List Blk) (fun s h' => AccR R_Timpostref15_Entry 96 h' s.2 (.slice s.1 s18.1.length s18.1.length) s18.1) (fun s => [(0, true, .slice a0_0 p0.length c0_0), (2, true, .int .u64 p2), (4, true, .pointer (some ⟨b4_4, 0, none⟩)), (6, true, .slice none 0 0), (7, true, .bool false), (8, true, .int .u64 0), (9, true, .slice s.1 s18.1.length s18.1.length), (10, true, .int .u64 s18.2.1), (11, true, .bool s18.2.2), (12, true, .int .i64 (i13 : Int)), (13, true, .int .i64 (i13 : Int)), (14, true, .slice a0_0 p0.length c0_0), (15, true, .int .i64 (p0.length : Int)), (16, true, .bool true), (19, true, .slice a0_0 p0.length c0_0), (20, true, .int .i64 (i13 : Int)), (21, true, .pointer (some q16)), (22, true, .pointer (some ⟨q16.block, q16.off + 0, q16.spot⟩)), (23, true, .string z13.Key), (24, true, .pointer (some ⟨b4_4, 1, none⟩)), (25, true, .string p1.Key), (26, true, .bool (eqB z13.Key p1.Key))]) (fun s => (List.flatten [s.2, [⟨b4_4, .cells [.int .i64 p1.Kind, .string p1.Key, .bool p1.Ok, .int .i64 p1.Inv, .int .i64 p1.Ret] 41⟩]] : List Blk)) ?_ (fun J18 => ?_)
      ·
        rintro ⟨a18_0, a18_1⟩ h18 e18 w18 f18_0
        replace hF := hK18
        refine go_endb ?_
        refine go_region ?_
        refine gM rfl rfl ?_
        refine gr rfl (r_bin (ot rfl) (oc rfl) rfl) ?_
        refine gA rfl rfl ?_
        refine go_nil ?_
        refine go_re 12 (v2 := .int .i64 ((i13 + 1 : Nat) : Int)) rfl (wrap_succ hi13 hb13) ?_
        exact Goes.weak (ih13 (r13, i13 + 1, s18.1, s18.2.1, s18.2.2, a18_0, a18_1, h18) ⟨hr13, (e13.trans e18), w18, hF, f18_0⟩ (Nat.lt_succ_self _)) (Sub.cons (Sub.cons (Sub.cons (Sub.cons (Sub.cons (Sub.cons (Sub.cons (Sub.cons (Sub.cons (Sub.cons (Sub.nil _) rfl) rfl) rfl) rfl) rfl) rfl) rfl) rfl) rfl) rfl)
      ·
        refine g_cond (b := (eqB z13.Key p1.Key)) (ot rfl) (fun hc17 => ?_) (fun hc17 => ?_)
        ·
          replace hF := ifT hc17 hF
          refine go_seq ?_
          refine go_region ?_
          refine gAc rfl rfl ?_
          refine go_nil ?_
          refine go_region ?_
          refine gM rfl rfl ?_
          refine gM rfl rfl ?_
          obtain ⟨q19, row19, i19, cl19, rc19, sp19⟩ := ix (ik := .i64) (cap := c0_0) (E := EE) (f0_0.ext e13.kn) ((getI_nat _ _).trans hx13) ut_28 sz_96 rfl
          obtain rfl := rc19
          refine gr rfl (r_ia (ot rfl) (ot rfl) i19) ?_
          refine gr rfl (r_fa (ot rfl) (fs_96_1 sp19)) ?_
          refine gr rfl (r_load (ot rfl) (v := .int .u64 z13.Val) (lo_e (fun hf kn => ld_field (r := [.string z13.Key, .int .u64 z13.Val]) ag_29 (kn.cellsAt cl19) rfl))) ?_
          refine gA rfl rfl ?_
          refine go_nil ?_
          obtain rfl := someI hF
          exact Goes.weak (J18 (a13_0, a13_1) _ (HExt.refl _) w13 f13_0) (Sub.cons (Sub.cons (Sub.cons (Sub.cons (Sub.cons (Sub.cons (Sub.cons (Sub.cons (Sub.cons (Sub.cons (Sub.cons (Sub.cons (Sub.cons (Sub.cons (Sub.cons (Sub.cons (Sub.cons (Sub.cons (Sub.cons (Sub.cons (Sub.cons (Sub.cons (Sub.nil _) rfl) rfl) rfl) rfl) rfl) rfl) rfl) rfl) rfl) rfl) rfl) rfl) rfl) rfl) rfl) rfl) rfl) rfl) rfl) rfl) rfl) rfl)
        ·
          replace hF := ifF hc17 hF
          refine go_region ?_
          refine gM rfl rfl ?_
          refine gM rfl rfl ?_
          refine gM rfl rfl ?_
          obtain ⟨q20, row20, i20, cl20, rc20, sp20⟩ := ix (ik := .i64) (cap := c0_0) (E := EE) (f0_0.ext e13.kn) ((getI_nat _ _).trans hx13) ut_28 sz_96 rfl
          obtain rfl := rc20
          refine gr rfl (r_ia (ot rfl) (ot rfl) i20) ?_
          refine gr rfl (r_load (ot rfl) (v := .agg #[.string z13.Key, .int .u64 z13.Val]) (lo_e (fun hf kn => ld_of (r := [.string z13.Key, .int .u64 z13.Val]) ag_96 sz_96 (kn.cellsAt cl20)))) ?_
          refine gs_bslice (cs := [.string z13.Key, .int .u64 z13.Val]) rfl (op1 (ot rfl) op0) ut_28 sz_96 zo_96 rfl rfl ?_; intro b37_21
          replace hF := obind hF
          obtain ⟨x22, hx22, hF⟩ := hF
          obtain ⟨hr22, hz22_⟩ := appL_some hx22; subst x22
          refine gs_front (.s (.z)) ?_
          refine gs_app (rows2 := [[.string z13.Key, .int .u64 z13.Val]]) (R := R_Timpostref15_Entry) rfl (os1 (ot rfl) (os1 (ot rfl) os0)) rfl ut_28 sz_96 rfl (by decide) by_96 zo_96 rfl zs_28_28 rfl rfl (first_m (mem_seg 1 rfl) rfl (by decide)) (Rws.one (x := z13) rfl) f13_0 hr22 (fun p22_ tl22 f22_ => ?_)
          refine gA rfl rfl ?_
          refine go_nil ?_
          obtain rfl := someI hF
          refine gs_sub (.cons_cons _ (.cons _ (.cons_cons _ (.refl _)))) ?_
          exact Goes.weak (J18 (p22_, tl22) _ (HExt.refl _) w13 f22_) (Sub.cons (Sub.cons (Sub.cons (Sub.cons (Sub.cons (Sub.cons (Sub.cons (Sub.cons (Sub.cons (Sub.cons (Sub.cons (Sub.cons (Sub.cons (Sub.cons (Sub.cons (Sub.cons (Sub.cons (Sub.cons (Sub.cons (Sub.cons (Sub.cons (Sub.cons (Sub.nil _) rfl) rfl) rfl) rfl) rfl) rfl) rfl) rfl) rfl) rfl) rfl) rfl) rfl) rfl) rfl) rfl) rfl) rfl) rfl) rfl) rfl) rfl)
theorem s_ref15_Kept {h : Heap} (hw : Wf h) (p0 : (List ByteArray)) {a0_0 : Option Addr} {c0_0 : Nat} (f0_0 : RL (RS_ 9) h a0_0 c0_0 p0) {r : (List ByteArray)} (hF : F_ref15_Kept p0 = some r) :
    Ev EE 46 [.slice a0_0 p0.length c0_0] h (fun v h1 => ∃ a0 c0, v = .slice a0 r.length c0 ∧ RL (RS_ 9) h1 a0 c0 r) := by
  unfold F_ref15_Kept at hF
  refine ev_of hw rfl at_46 rfl rfl (go_seg0 ?_)
  refine go_seq ?_
  refine go_region ?_
  refine gAc rfl rfl ?_
  refine go_nil ?_
  refine go_seq ?_
  refine go_region ?_
  refine gAc rfl rfl ?_
  refine go_nil ?_
  refine go_seq ?_
  refine go_seq ?_
  refine go_region ?_
  refine gAc rfl rfl ?_
  refine go_nil ?_
  replace hF := obind hF
  obtain ⟨s2, hF, hK2⟩ := hF
  refine go_joinc (β := Option Addr × List Blk) (fun s h' => AccR (RS_ 9) 9 h' s.2 (.slice s.1 s2.length s2.length) s2) (fun s => [(2, true, .slice none 0 0), (3, true, .slice s.1 s2.length s2.length)]) (fun s => (List.flatten [s.2] : List Blk)) ?_ (fun J2 => ?_)
  ·
    rintro ⟨a2_0, a2_1⟩ h2 e2 w2 f2_0
    replace hF := hK2
    refine go_seq ?_
    refine go_region ?_
    refine gM rfl rfl ?_
    refine gA rfl rfl ?_
    refine go_nil ?_
    refine gs_accpub .z f2_0 (fun h3 e3 w3 f3_ => ?_) rfl
    obtain rfl := someI hF
    exact g_ret (rst rfl rs0) (fun h1 hf hs => ⟨(e2.trans (e3.trans hs.hext)), ⟨_, _, rfl, (f3_.ext hs.hext.kn)⟩⟩)
  ·
    refine go_block ?_
    refine go_loop (α := (List ByteArray) × Nat × (List ByteArray) × Option Addr × List Blk × Heap) (fun a => a.1 = List.drop a.2.1 p0 ∧ HExt h a.2.2.2.2.2 ∧ Wf a.2.2.2.2.2 ∧ F_ref15_Kept_L1 a.1 a.2.1 a.2.2.1 = some s2 ∧ AccR (RS_ 9) 9 a.2.2.2.2.2 a.2.2.2.2.1 (.slice a.2.2.2.1 a.2.2.1.length a.2.2.1.length) a.2.2.1) (fun a => a.1.length) (fun a => [(0, true, .slice a0_0 p0.length c0_0), (2, true, .slice none 0 0), (3, true, .slice a.2.2.2.1 a.2.2.1.length a.2.2.1.length), (4, true, .int .i64 (a.2.1 : Int))]) (fun a => (List.flatten [a.2.2.2.2.1] : List Blk)) (fun a => a.2.2.2.2.2) ?_ (p0, 0, ([] : List ByteArray), none, [], h) ⟨rfl, HExt.refl _, hw, hF, (AccR.nil _ _ _)⟩ (Sub.cons (Sub.cons (Sub.cons (Sub.cons (Sub.nil _) rfl) rfl) rfl) rfl) rfl rfl
    rintro ⟨r4, i4, y4_0, a4_0, a4_1, h4⟩ ⟨hr4, e4, w4, hF, f4_0⟩ ih4
    rcases r4 with _ | ⟨z4, r4⟩
    ·
      have hi4 := drop_nil hr4
      rw [F_ref15_Kept_L1.eq_1] at hF
      refine go_seq ?_
      refine go_seq ?_
      refine go_region ?_
      refine gM rfl rfl ?_
      refine gM rfl rfl ?_
      refine gr rfl (r_len rfl (os1 (ot rfl) os0) (fun _ _ => ln_44)) ?_
      refine gr rfl (r_bin (ot rfl) (ot rfl) rfl) ?_
      refine go_cast (.bool false) (congrArg Value.bool (decide_eq_false hi4)) ?_
      refine go_nil ?_
      refine g_cond (b := false) (ot rfl) (fun hc5 => ?_) (fun hc5 => ?_)
      · cases hc5
      refine go_exit rfl ?_
      obtain rfl := someI hF
      exact Goes.weak (J2 (a4_0, a4_1) _ e4 w4 f4_0) (Sub.cons (Sub.cons (Sub.nil _) rfl) rfl)
    ·
      obtain ⟨hi4, hx4, hr4⟩ := drop_cons hr4
      have hb4 := (f0_0.ext e4.kn).1
      rw [F_ref15_Kept_L1.eq_2] at hF
      refine go_seq ?_
      refine go_seq ?_
      refine go_region ?_
      refine gM rfl rfl ?_
      refine gM rfl rfl ?_
      refine gr rfl (r_len rfl (os1 (ot rfl) os0) (fun _ _ => ln_44)) ?_
      refine gr rfl (r_bin (ot rfl) (ot rfl) rfl) ?_
      refine go_cast (.bool true) (congrArg Value.bool (decide_eq_true (Int.ofNat_lt.mpr hi4))) ?_
      refine go_nil ?_
      refine g_cond (b := true) (ot rfl) (fun hc6 => ?_) (fun hc6 => ?_)
      rotate_left
      · cases hc6
      refine go_skip ?_
      refine go_seq ?_
      replace hF := obind hF
      obtain ⟨s7, hF, hK7⟩ := hF
      refine go_joinc (β := Option Addr × List Blk) (fun s h' => AccR (RS_ 9) 9 h' s.2 (.slice s.1 s7.1.length s7.1.length) s7.1) (fun s => [(0, true, .slice a0_0 p0.length c0_0), (2, true, .slice none 0 0), (3, true, .slice s.1 s7.1.length s7.1.length), (4, true, .int .i64 (i4 : Int)), (5, true, .int .i64 s7.2.1), (7, true, .int .i64 (i4 : Int)), (8, true, .slice a0_0 p0.length c0_0), (9, true, .int .i64 (p0.length : Int)), (10, true, .bool true), (13, true, .int .i64 s7.2.2.1), (15, true, .int .i64 (y4_0.length : Int)), (16, true, .bool s7.2.2.2.1), (17, true, .bool s7.2.2.2.2.1), (27, true, .bool s7.2.2.2.2.2.1), (30, true, .int .i64 s7.2.2.2.2.2.2.1), (32, true, .int .i64 (y4_0.length : Int)), (33, true, .bool s7.2.2.2.2.2.2.2.1), (34, true, .bool s7.2.2.2.2.2.2.2.2.1), (44, true, .bool s7.2.2.2.2.2.2.2.2.2)]) (fun s => (List.flatten [s.2] : List Blk)) ?_ (fun J7 => ?_)
      ·
        rintro ⟨a7_0, a7_1⟩ h7 e7 w7 f7_0
        replace hF := hK7
        refine go_region ?_
        refine gM rfl rfl ?_
        refine gr rfl (r_bin (ot rfl) (oc rfl) rfl) ?_
        refine gA rfl rfl ?_
        refine go_nil ?_
        refine go_re 4 (v2 := .int .i64 ((i4 + 1 : Nat) : Int)) rfl (wrap_succ hi4 hb4) ?_
        exact Goes.weak (ih4 (r4, i4 + 1, s7.1, a7_0, a7_1, h7) ⟨hr4, (e4.trans e7), w7, hF, f7_0⟩ (Nat.lt_succ_self _)) (Sub.cons (Sub.cons (Sub.cons (Sub.cons (Sub.nil _) rfl) rfl) rfl) rfl)
      ·
        refine go_block ?_
        refine go_seq ?_
        refine go_region ?_
        refine gAc rfl rfl ?_
        refine go_nil ?_
        refine go_seq ?_
        replace hF := obind hF
        obtain ⟨s8, hF, hK8⟩ := hF
        refine go_joinc (β := Unit) (fun s h' => True) (fun s => [(0, true, .slice a0_0 p0.length c0_0), (2, true, .slice none 0 0), (3, true, .slice a4_0 y4_0.length y4_0.length), (4, true, .int .i64 (i4 : Int)), (5, true, .int .i64 s8.1), (7, true, .int .i64 (i4 : Int)), (8, true, .slice a0_0 p0.length c0_0), (9, true, .int .i64 (p0.length : Int)), (10, true, .bool true), (13, true, .int .i64 s8.2.1), (14, true, .slice a4_0 y4_0.length y4_0.length), (15, true, .int .i64 (y4_0.length : Int)), (16, true, .bool s8.2.2.1), (17, true, .bool s8.2.2.2.1), (27, true, .bool s8.2.2.2.2)]) (fun s => (List.flatten [a4_1] : List Blk)) ?_ (fun J8 => ?_)
        ·
          rintro _ h8 e8 w8 _
          replace hF := hK8
          refine go_seq ?_
          refine go_seq ?_
          refine go_regionq (by kernel_rfl) ?_
          refine gM rfl rfl ?_
          refine gM rfl rfl ?_
          refine gr rfl (r_len rfl (os1 (ot rfl) os0) (fun _ _ => ln_44)) ?_
          refine gr rfl (r_bin (ot rfl) (ot rfl) rfl) ?_
          refine gM rfl rfl ?_
          replace hF := obind hF
          obtain ⟨s10, hF, hK10⟩ := hF
          refine go_joinr 10 (β := Unit) (fun s h' => True) (fun s => [(0, true, .slice a0_0 p0.length c0_0), (2, true, .slice none 0 0), (3, true, .slice a4_0 y4_0.length y4_0.length), (4, true, .int .i64 (i4 : Int)), (5, true, .int .i64 s8.1), (7, true, .int .i64 (i4 : Int)), (8, true, .slice a0_0 p0.length c0_0), (9, true, .int .i64 (p0.length : Int)), (10, true, .bool true), (13, true, .int .i64 s8.2.1), (14, true, .slice a4_0 y4_0.length y4_0.length), (15, true, .int .i64 (y4_0.length : Int)), (16, true, .bool s8.2.2.1), (17, true, .bool s8.2.2.2.1), (27, true, .bool s8.2.2.2.2), (30, true, .int .i64 s8.1), (31, true, .slice a4_0 y4_0.length y4_0.length), (32, true, .int .i64 (y4_0.length : Int)), (33, true, .bool (decide (s8.1 < (y4_0.length : Int)))), (34, true, .bool s10.1), (44, true, .bool s10.2)]) (fun s => (List.flatten [a4_1] : List Blk)) ?_ (fun J10 => ?_)
          ·
            rintro _ h10 e10 w10 _
            replace hF := hK10
            refine go_nil ?_
            refine g_cond (b := s10.2) (ot rfl) (fun hc11 => ?_) (fun hc11 => ?_)
            ·
              replace hF := ifT hc11 hF
              refine go_exit rfl ?_
              obtain rfl := someI hF
              exact Goes.weak (J7 (a4_0, a4_1) _ (e8.trans e10) w10 ((f4_0.ext e8.kn).ext e10.kn)) (Sub.cons (Sub.cons (Sub.cons (Sub.cons (Sub.cons (Sub.cons (Sub.cons (Sub.cons (Sub.cons (Sub.cons (Sub.cons (Sub.cons (Sub.cons (Sub.cons (Sub.cons (Sub.cons (Sub.cons (Sub.cons (Sub.cons (Sub.nil _) rfl) rfl) rfl) rfl) rfl) rfl) rfl) rfl) rfl) rfl) rfl) rfl) rfl) rfl) rfl) rfl) rfl) rfl) rfl)
            ·
              replace hF := ifF hc11 hF
              refine go_skip ?_
              refine go_seq ?_
              refine go_region ?_
              refine gs_bslice (cs := []) rfl op0 ut_44 sz_9 zo_9 rfl rfl ?_; intro b45_12
              refine gM rfl rfl ?_
              refine gM rfl rfl ?_
              refine gs_accpub (.s (.z)) ((f4_0.ext e8.kn).ext e10.kn) (fun h14 e14 w14 f14_ => ?_) rfl
              replace hF := obind hF
              obtain ⟨x13, hx13, hF⟩ := hF
              obtain ⟨a13_, c13_, i13⟩ := subL0_ok (E := EE) f14_ hx13 (fun e => by rw [e]; rfl) ut_44 sz_9 rfl rfl
              have f13_ := i13.rl
              refine gr rfl (r_slice (ot rfl) on (oo (ot rfl)) on (fun hf kn => i13.hi kn rfl)) ?_
              replace hF := obind hF
              obtain ⟨x15, hx15, hF⟩ := hF
              obtain ⟨hr15, hz15_⟩ := appL_some hx15; subst x15
              obtain ⟨rw15, hw15, hq15⟩ := RL.first f13_ (by decide)
              refine gs_app0 (rows2 := rw15) (R := (RS_ 9)) rfl (os1 (ot rfl) (os1 (ot rfl) os0)) rfl ut_44 sz_9 rfl (by decide) by_9 zo_9 rfl zs_44_44 rfl rfl (first_e hq15 (fun h' kn => kn.firstV hq15)) hw15 (AccR.lit _ _ _ _) hr15 (fun p15_ tl15 f15_ => ?_)
              refine gA rfl rfl ?_
              refine go_nil ?_
              refine go_seq ?_
              refine go_region ?_
              refine gM rfl rfl ?_
              refine gM rfl rfl ?_
              refine gM rfl rfl ?_
              obtain ⟨q16, row16, i16, cl16, rc16, sp16⟩ := ix (ik := .i64) (cap := c0_0) (E := EE) ((((f0_0.ext e4.kn).ext e8.kn).ext e10.kn).ext e14.kn) ((getI_nat _ _).trans hx4) ut_44 sz_9 rfl
              obtain rfl := rc16
              refine gr rfl (r_ia (ot rfl) (ot rfl) i16) ?_
              refine gr rfl (r_load (ot rfl) (v := .string z4) (lo_e (fun hf kn => ld_one ag_9 (kn.cellsAt cl16)))) ?_
              refine gs_bslice (cs := [.string z4]) rfl (op1 (ot rfl) op0) ut_44 sz_9 zo_9 rfl rfl ?_; intro b55_17
              replace hF := obind hF
              obtain ⟨x18, hx18, hF⟩ := hF
              obtain ⟨hr18, hz18_⟩ := appL_some hx18; subst x18
              refine gs_front (.s (.z)) ?_
              refine gs_app (rows2 := [[.string z4]]) (R := (RS_ 9)) rfl (os1 (ot rfl) (os1 (ot rfl) os0)) rfl ut_44 sz_9 rfl (by decide) by_9 zo_9 rfl zs_44_44 rfl rfl (first_m (mem_seg 1 rfl) rfl (by decide)) (Rws.one (x := z4) rfl) f15_ hr18 (fun p18_ tl18 f18_ => ?_)
              refine gA rfl rfl ?_
              refine go_nil ?_
              refine go_seq ?_
              refine go_region ?_
              refine gM rfl rfl ?_
              refine gM rfl rfl ?_
              refine gM rfl rfl ?_
              replace hF := obind hF
              obtain ⟨x19, hx19, hF⟩ := hF
              obtain ⟨a19_, c19_, i19⟩ := subL0_ok (E := EE) f14_ hx19 (fun e => by rw [e]; rfl) ut_44 sz_9 rfl rfl
              have f19_ := i19.rl
              refine gr rfl (r_slice (ot rfl) (oo (ot rfl)) on on (fun hf kn => i19.lo kn rfl)) ?_
              replace hF := obind hF
              obtain ⟨x20, hx20, hF⟩ := hF
              obtain ⟨hr20, hz20_⟩ := appL_some hx20; subst x20
              obtain ⟨rw20, hw20, hq20⟩ := RL.first f19_ (by decide)
              refine gs_app (rows2 := rw20) (R := (RS_ 9)) rfl (os1 (ot rfl) (os1 (ot rfl) os0)) rfl ut_44 sz_9 rfl (by decide) by_9 zo_9 rfl zs_44_44 rfl rfl (first_e hq20 (fun h' kn => kn.firstV hq20)) hw20 f18_ hr20 (fun p20_ tl20 f20_ => ?_)
              refine gA rfl rfl ?_
              refine go_nil ?_
              refine go_region ?_
              refine gM rfl rfl ?_
              refine gA rfl rfl ?_
              refine go_nil ?_
              refine go_endb ?_
              obtain rfl := someI hF
              refine gs_sub (.cons_cons _ (.cons _ (.cons _ (.refl _)))) ?_
              exact Goes.weak (J7 (p20_, tl20) _ (e8.trans (e10.trans e14)) w14 f20_) (Sub.cons (Sub.cons (Sub.cons (Sub.cons (Sub.cons (Sub.cons (Sub.cons (Sub.cons (Sub.cons (Sub.cons (Sub.cons (Sub.cons (Sub.cons (Sub.cons (Sub.cons (Sub.cons (Sub.cons (Sub.cons (Sub.cons (Sub.nil _) rfl) rfl) rfl) rfl) rfl) rfl) rfl) rfl) rfl) rfl) rfl) rfl) rfl) rfl) rfl) rfl) rfl) rfl) rfl)
          ·
            rcases Bool.eq_false_or_eq_true (decide (s8.1 < (y4_0.length : Int))) with hb9 | hb9
            ·
              replace hF := ifT hb9 hF
              refine go_re 34 (v2 := .bool true) rfl (congrArg Value.bool hb9) ?_
              refine g_do rfl rfl rfl ?_
              refine gM rfl rfl ?_
              refine g_do rfl rfl rfl ?_
              refine gM rfl rfl ?_
              refine g_do rfl rfl rfl ?_
              replace hF := obind hF
              obtain ⟨x21, hx21, hF⟩ := hF
              obtain ⟨bb21, rw21, row21, hp21, ht21, hR21, hw21, rc21, hz21, hi21, hd21, hb21, hl21⟩ := AccR.at_ (f4_0.ext e8.kn) hx21
              have hF21_ := hF
              subst hp21; subst ht21
              replace hF := hF21_
              obtain rfl := rc21
              refine gr rfl (r_ia (ot rfl) (ot rfl) (ia_acc (k := 1) ut_44 sz_9 hz21 hi21)) ?_
              refine g_do rfl rfl rfl ?_
              refine gr rfl (r_load (ot rfl) (lm_s (mem_seg 0 rfl) ag_9 (acc_cell (j := 0) hd21 rfl))) ?_
              refine g_do rfl rfl rfl ?_
              refine gM rfl rfl ?_
              refine g_do rfl rfl rfl ?_
              refine gM rfl rfl ?_
              refine g_do rfl rfl rfl ?_
              obtain ⟨q22, row22, i22, cl22, rc22, sp22⟩ := ix (ik := .i64) (cap := c0_0) (E := EE) ((f0_0.ext e4.kn).ext e8.kn) ((getI_nat _ _).trans hx4) ut_44 sz_9 rfl
              obtain rfl := rc22
              refine gr rfl (r_ia (ot rfl) (ot rfl) i22) ?_
              refine g_do rfl rfl rfl ?_
              refine gr rfl (r_load (ot rfl) (v := .string z4) (lo_e (fun hf kn => ld_one ag_9 (kn.cellsAt cl22)))) ?_
              refine g_do rfl rfl rfl ?_
              refine gr rfl (r_bin (ot rfl) (ot rfl) rfl) ?_
              refine gr rfl (r_pkT (ot rfl) (ot rfl)) ?_
              obtain rfl := someI hF
              exact Goes.weak (J10 () _ (HExt.refl _) w8 trivial) (Sub.cons (Sub.cons (Sub.cons (Sub.cons (Sub.cons (Sub.cons (Sub.cons (Sub.cons (Sub.cons (Sub.cons (Sub.cons (Sub.cons (Sub.cons (Sub.cons (Sub.cons (Sub.cons (Sub.cons (Sub.cons (Sub.cons (Sub.cons (Sub.cons (Sub.nil _) rfl) rfl) rfl) rfl) rfl) rfl) rfl) rfl) rfl) rfl) rfl) rfl) rfl) rfl) rfl) rfl) rfl) rfl) rfl) rfl) rfl)
            ·
              replace hF := ifF hb9 hF
              refine go_re 34 (v2 := .bool false) rfl (congrArg Value.bool hb9) ?_
              refine g_no rfl rfl rfl rfl rfl ?_
              refine g_no rfl rfl rfl rfl rfl ?_
              refine g_no rfl rfl rfl rfl rfl ?_
              refine g_no rfl rfl rfl rfl rfl ?_
              refine g_no rfl rfl rfl rfl rfl ?_
              refine g_no rfl rfl rfl rfl rfl ?_
              refine g_no rfl rfl rfl rfl rfl ?_
              refine g_no rfl rfl rfl rfl rfl ?_
              refine g_no rfl rfl rfl rfl rfl ?_
              refine gr rfl (r_pkF (ot rfl) (oc rfl)) ?_
              obtain rfl := someI hF
              exact Goes.weak (J10 () _ (HExt.refl _) w8 trivial) (Sub.cons (Sub.cons (Sub.cons (Sub.cons (Sub.cons (Sub.cons (Sub.cons (Sub.cons (Sub.cons (Sub.cons (Sub.cons (Sub.cons (Sub.cons (Sub.cons (Sub.cons (Sub.cons (Sub.cons (Sub.cons (Sub.cons (Sub.cons (Sub.cons (Sub.nil _) rfl) rfl) rfl) rfl) rfl) rfl) rfl) rfl) rfl) rfl) rfl) rfl) rfl) rfl) rfl) rfl) rfl) rfl) rfl) rfl) rfl)
        ·
          refine go_block ?_
          refine go_loop (α := (List ByteArray) × Nat × Heap) (fun a => a.1 = List.drop a.2.1 y4_0 ∧ HExt h4 a.2.2 ∧ Wf a.2.2 ∧ F_ref15_Kept_L2 z4 a.1 a.2.1 = some s8) (fun a => a.1.length) (fun a => [(0, true, .slice a0_0 p0.length c0_0), (2, true, .slice none 0 0), (3, true, .slice a4_0 y4_0.length y4_0.length), (4, true, .int .i64 (i4 : Int)), (5, true, .int .i64 (a.2.1 : Int)), (7, true, .int .i64 (i4 : Int)), (8, true, .slice a0_0 p0.length c0_0), (9, true, .int .i64 (p0.length : Int)), (10, true, .bool true)]) (fun a => (List.flatten [a4_1] : List Blk)) (fun a => a.2.2) ?_ (y4_0, 0, h4) ⟨rfl, HExt.refl _, w4, hF⟩ (Sub.cons (Sub.cons (Sub.cons (Sub.cons (Sub.cons (Sub.cons (Sub.cons (Sub.cons (Sub.cons (Sub.nil _) rfl) rfl) rfl) rfl) rfl) rfl) rfl) rfl) rfl) rfl rfl
          rintro ⟨r23, i23, h23⟩ ⟨hr23, e23, w23, hF⟩ ih23
          rcases r23 with _ | ⟨z23, r23⟩
          ·
            have hi23 := drop_nil hr23
            rw [F_ref15_Kept_L2.eq_1] at hF
            refine go_seq ?_
            refine go_seq ?_
            refine go_regionq (by kernel_rfl) ?_
            refine gM rfl rfl ?_
            refine gM rfl rfl ?_
            refine gr rfl (r_len rfl (os1 (ot rfl) os0) (fun _ _ => ln_44)) ?_
            refine gr rfl (r_bin (ot rfl) (ot rfl) rfl) ?_
            refine go_cast (.bool false) (congrArg Value.bool (decide_eq_false hi23)) ?_
            refine gM rfl rfl ?_
            refine g_no rfl rfl rfl rfl rfl ?_
            refine g_no rfl rfl rfl rfl rfl ?_
            refine g_no rfl rfl rfl rfl rfl ?_
            refine g_no rfl rfl rfl rfl rfl ?_
            refine g_no rfl rfl rfl rfl rfl ?_
            refine g_no rfl rfl rfl rfl rfl ?_
            refine g_no rfl rfl rfl rfl rfl ?_
            refine g_no rfl rfl rfl rfl rfl ?_
            refine g_no rfl rfl rfl rfl rfl ?_
            refine gr rfl (r_pkF (ot rfl) (oc rfl)) ?_
            refine go_nil ?_
            refine g_cond (b := false) (ot rfl) (fun hc24 => ?_) (fun hc24 => ?_)
            · cases hc24
            refine go_exit rfl ?_
            obtain rfl := someI hF
            exact Goes.weak (J8 () _ e23 w23 trivial) (Sub.cons (Sub.cons (Sub.cons (Sub.cons (Sub.cons (Sub.cons (Sub.cons (Sub.cons (Sub.cons (Sub.cons (Sub.cons (Sub.cons (Sub.cons (Sub.cons (Sub.cons (Sub.nil _) rfl) rfl) rfl) rfl) rfl) rfl) rfl) rfl) rfl) rfl) rfl) rfl) rfl) rfl) rfl)
          ·
            obtain ⟨hi23, hx23, hr23⟩ := drop_cons hr23
            have hb23 := (f4_0.ext e23.kn).1
            rw [F_ref15_Kept_L2.eq_2] at hF
            refine go_seq ?_
            refine go_seq ?_
            refine go_regionq (by kernel_rfl) ?_
            refine gM rfl rfl ?_
            refine gM rfl rfl ?_
            refine gr rfl (r_len rfl (os1 (ot rfl) os0) (fun _ _ => ln_44)) ?_
            refine gr rfl (r_bin (ot rfl) (ot rfl) rfl) ?_
            refine go_cast (.bool true) (congrArg Value.bool (decide_eq_true (Int.ofNat_lt.mpr hi23))) ?_
            refine gM rfl rfl ?_
            refine g_do rfl rfl rfl ?_
            refine gM rfl rfl ?_
            refine g_do rfl rfl rfl ?_
            refine gM rfl rfl ?_
            refine g_do rfl rfl rfl ?_
            obtain ⟨bb25, rw25, row25, hp25, ht25, hR25, hw25, rc25, hz25, hi25, hd25, hb25, hl25⟩ := AccR.at_ (f4_0.ext e23.kn) ((getI_nat _ _).trans hx23)
            have hF25_ := hF
            subst hp25; subst ht25
            replace hF := hF25_
            obtain rfl := rc25
            refine gr rfl (r_ia (ot rfl) (ot rfl) (ia_acc (k := 1) ut_44 sz_9 hz25 hi25)) ?_
            refine g_do rfl rfl rfl ?_
            refine gr rfl (r_load (ot rfl) (lm_s (mem_seg 0 rfl) ag_9 (acc_cell (j := 0) hd25 rfl))) ?_
            refine g_do rfl rfl rfl ?_
            refine gM rfl rfl ?_
            refine g_do rfl rfl rfl ?_
            refine gM rfl rfl ?_
            refine g_do rfl rfl rfl ?_
            obtain ⟨q26, row26, i26, cl26, rc26, sp26⟩ := ix (ik := .i64) (cap := c0_0) (E := EE) ((f0_0.ext e4.kn).ext e23.kn) ((getI_nat _ _).trans hx4) ut_44 sz_9 rfl
            obtain rfl := rc26
            refine gr rfl (r_ia (ot rfl) (ot rfl) i26) ?_
            refine g_do rfl rfl rfl ?_
            refine gr rfl (r_load (ot rfl) (v := .string z4) (lo_e (fun hf kn => ld_one ag_9 (kn.cellsAt cl26)))) ?_
            refine g_do rfl rfl rfl ?_
            refine gr rfl (r_bin (ot rfl) (ot rfl) rfl) ?_
            refine gr rfl (r_pkT (ot rfl) (ot rfl)) ?_
            refine go_nil ?_
            refine g_cond (b := (lessB z23 z4)) (ot rfl) (fun hc27 => ?_) (fun hc27 => ?_)
            ·
              replace hF := ifT hc27 hF
              refine go_skip ?_
              refine go_block ?_
              refine go_region ?_
              refine gM rfl rfl ?_
              refine gr rfl (r_bin (ot rfl) (oc rfl) rfl) ?_
              refine gA rfl rfl ?_
              refine go_nil ?_
              refine go_endb ?_
              refine go_re 5 (v2 := .int .i64 ((i23 + 1 : Nat) : Int)) rfl (wrap_succ hi23 hb23) ?_
              exact Goes.weak (ih23 (r23, i23 + 1, h23) ⟨hr23, e23, w23, hF⟩ (Nat.lt_succ_self _)) (Sub.cons (Sub.cons (Sub.cons (Sub.cons (Sub.cons (Sub.cons (Sub.cons (Sub.cons (Sub.cons (Sub.nil _) rfl) rfl) rfl) rfl) rfl) rfl) rfl) rfl) rfl)
            ·
              replace hF := ifF hc27 hF
              refine go_exit rfl ?_
              obtain rfl := someI hF
              exact Goes.weak (J8 () _ e23 w23 trivial) (Sub.cons (Sub.cons (Sub.cons (Sub.cons (Sub.cons (Sub.cons (Sub.cons (Sub.cons (Sub.cons (Sub.cons (Sub.cons (Sub.cons (Sub.cons (Sub.cons (Sub.cons (Sub.nil _) rfl) rfl) rfl) rfl) rfl) rfl) rfl) rfl) rfl) rfl) rfl) rfl) rfl) rfl) rfl)
theorem s_ref15_Keys {h : Heap} (hw : Wf h) (p0 : (List Timpostref15_Entry)) {a0_0 : Option Addr} {c0_0 : Nat} (f0_0 : RL R_Timpostref15_Entry h a0_0 c0_0 p0) {r : (List ByteArray)} (hF : F_ref15_Keys p0 = some r) :
    Ev EE 18 [.slice a0_0 p0.length c0_0] h (fun v h1 => ∃ a0 c0, v = .slice a0 r.length c0 ∧ RL (RS_ 9) h1 a0 c0 r) := by
  unfold F_ref15_Keys at hF
  refine ev_of hw rfl at_18 rfl rfl (go_seg0 ?_)
  refine go_seq ?_
  refine go_region ?_
  refine gAc rfl rfl ?_
  refine go_nil ?_
  refine go_seq ?_
  refine go_region ?_
  refine gAc rfl rfl ?_
  refine go_nil ?_
  refine go_seq ?_
  refine go_seq ?_
  refine go_region ?_
  refine gAc rfl rfl ?_
  refine go_nil ?_
  replace hF := obind hF
  obtain ⟨s2, hF, hK2⟩ := hF
  refine go_joinc (β := Option Addr × List Blk) (fun s h' => AccR (RS_ 9) 9 h' s.2 (.slice s.1 s2.length s2.length) s2) (fun s => [(2, true, .slice none 0 0), (3, true, .slice s.1 s2.length s2.length)]) (fun s => (List.flatten [s.2] : List Blk)) ?_ (fun J2 => ?_)
  ·
    rintro ⟨a2_0, a2_1⟩ h2 e2 w2 f2_0
    replace hF := hK2
    refine go_seq ?_
    refine go_region ?_
    refine gM rfl rfl ?_
    refine gs_accpub .z f2_0 (fun h4 e4 w4 f4_ => ?_) rfl
    replace hF := obind hF
    obtain ⟨x3, hx3, hF⟩ := hF
    refine g_call EE_fr (fun _ h => by cases h; rfl) of (os1 (ot rfl) os0) hb_46 (fun hf kn w => by exact s_ref15_Kept w s2 (f4_.ext kn) hx3) ?_
    rintro v3 h3 e3 w3 ⟨a3_0, c3_0, rfl, f3_0⟩
    refine gA rfl rfl ?_
    refine go_nil ?_
    obtain rfl := someI hF
    exact g_ret (rst rfl rs0) (fun h1 hf hs => ⟨(e2.trans (e4.trans (e3.trans hs.hext))), ⟨_, _, rfl, (f3_0.ext hs.hext.kn)⟩⟩)
  ·
    refine go_block ?_
    refine go_loop (α := (List Timpostref15_Entry) × Nat × (List ByteArray) × Option Addr × List Blk × Heap) (fun a => a.1 = List.drop a.2.1 p0 ∧ HExt h a.2.2.2.2.2 ∧ Wf a.2.2.2.2.2 ∧ F_ref15_Keys_L1 a.1 a.2.1 a.2.2.1 = some s2 ∧ AccR (RS_ 9) 9 a.2.2.2.2.2 a.2.2.2.2.1 (.slice a.2.2.2.1 a.2.2.1.length a.2.2.1.length) a.2.2.1) (fun a => a.1.length) (fun a => [(0, true, .slice a0_0 p0.length c0_0), (2, true, .slice none 0 0), (3, true, .slice a.2.2.2.1 a.2.2.1.length a.2.2.1.length), (4, true, .int .i64 (a.2.1 : Int))]) (fun a => (List.flatten [a.2.2.2.2.1] : List Blk)) (fun a => a.2.2.2.2.2) ?_ (p0, 0, ([] : List ByteArray), none, [], h) ⟨rfl, HExt.refl _, hw, hF, (AccR.nil _ _ _)⟩ (Sub.cons (Sub.cons (Sub.cons (Sub.cons (Sub.nil _) rfl) rfl) rfl) rfl) rfl rfl
    rintro ⟨r5, i5, y5_0, a5_0, a5_1, h5⟩ ⟨hr5, e5, w5, hF, f5_0⟩ ih5
    rcases r5 with _ | ⟨z5, r5⟩
    ·
      have hi5 := drop_nil hr5
      rw [F_ref15_Keys_L1.eq_1] at hF
      refine go_seq ?_
      refine go_seq ?_
      refine go_region ?_
      refine gM rfl rfl ?_
      refine gM rfl rfl ?_
      refine gr rfl (r_len rfl (os1 (ot rfl) os0) (fun _ _ => ln_28)) ?_
      refine gr rfl (r_bin (ot rfl) (ot rfl) rfl) ?_
      refine go_cast (.bool false) (congrArg Value.bool (decide_eq_false hi5)) ?_
      refine go_nil ?_
      refine g_cond (b := false) (ot rfl) (fun hc6 => ?_) (fun hc6 => ?_)
      · cases hc6
      refine go_exit rfl ?_
      obtain rfl := someI hF
      exact Goes.weak (J2 (a5_0, a5_1) _ e5 w5 f5_0) (Sub.cons (Sub.cons (Sub.nil _) rfl) rfl)
    ·
      obtain ⟨hi5, hx5, hr5⟩ := drop_cons hr5
      have hb5 := (f0_0.ext e5.kn).1
      rw [F_ref15_Keys_L1.eq_2] at hF
      refine go_seq ?_
      refine go_seq ?_
      refine go_region ?_
      refine gM rfl rfl ?_
      refine gM rfl rfl ?_
      refine gr rfl (r_len rfl (os1 (ot rfl) os0) (fun _ _ => ln_28)) ?_
      refine gr rfl (r_bin (ot rfl) (ot rfl) rfl) ?_
      refine go_cast (.bool true) (congrArg Value.bool (decide_eq_true (Int.ofNat_lt.mpr hi5))) ?_
      refine go_nil ?_
      refine g_cond (b := true) (ot rfl) (fun hc7 => ?_) (fun hc7 => ?_)
      rotate_left
      · cases hc7
      refine go_skip ?_
      refine go_seq ?_
      refine go_block ?_
      refine go_region ?_
      refine gM rfl rfl ?_
      refine gM rfl rfl ?_
      refine gM rfl rfl ?_
      obtain ⟨q8, row8, i8, cl8, rc8, sp8⟩ := ix (ik := .i64) (cap := c0_0) (E := EE) (f0_0.ext e5.kn) ((getI_nat _ _).trans hx5) ut_28 sz_96 rfl
      obtain rfl := rc8
      refine gr rfl (r_ia (ot rfl) (ot rfl) i8) ?_
      refine gr rfl (r_fa (ot rfl) (fs_96_0 sp8)) ?_
      refine gr rfl (r_load (ot rfl) (v := .string z5.Key) (lo_e (fun hf kn => ld_field (r := [.string z5.Key, .int .u64 z5.Val]) ag_9 (kn.cellsAt cl8) rfl))) ?_
      refine gs_bslice (cs := [.string z5.Key]) rfl (op1 (ot rfl) op0) ut_44 sz_9 zo_9 rfl rfl ?_; intro b17_9
      replace hF := obind hF
      obtain ⟨x10, hx10, hF⟩ := hF
      obtain ⟨hr10, hz10_⟩ := appL_some hx10; subst x10
      refine gs_front (.s (.z)) ?_
      refine gs_app (rows2 := [[.string z5.Key]]) (R := (RS_ 9)) rfl (os1 (ot rfl) (os1 (ot rfl) os0)) rfl ut_44 sz_9 rfl (by decide) by_9 zo_9 rfl zs_44_44 rfl rfl (first_m (mem_seg 1 rfl) rfl (by decide)) (Rws.one (x := z5.Key) rfl) f5_0 hr10 (fun p10_ tl10 f10_ => ?_)
      refine gA rfl rfl ?_
      refine go_nil ?_
      refine go_endb ?_
      refine go_region ?_
      refine gM rfl rfl ?_
      refine gr rfl (r_bin (ot rfl) (oc rfl) rfl) ?_
      refine gA rfl rfl ?_
      refine go_nil ?_
      refine gs_sub (.cons_cons _ (.cons _ (.refl _))) ?_
      refine go_re 4 (v2 := .int .i64 ((i5 + 1 : Nat) : Int)) rfl (wrap_succ hi5 hb5) ?_
      exact Goes.weak (ih5 (r5, i5 + 1, (y5_0 ++ ([z5.Key] : List ByteArray)), p10_, tl10, h5) ⟨hr5, e5, w5, hF, f10_⟩ (Nat.lt_succ_self _)) (Sub.cons (Sub.cons (Sub.cons (Sub.cons (Sub.nil _) rfl) rfl) rfl) rfl)
theorem s_ref15_Same {h : Heap} (hw : Wf h) (p0 : (List ByteArray)) (p1 : (List ByteArray)) {a0_0 : Option Addr} {c0_0 : Nat} {a1_0 : Option Addr} {c1_0 : Nat} (f0_0 : RL (RS_ 9) h a0_0 c0_0 p0) (f1_0 : RL (RS_ 9) h a1_0 c1_0 p1) {r : Bool} (hF : F_ref15_Same p0 p1 = some r) :
    Ev EE 16 [.slice a0_0 p0.length c0_0, .slice a1_0 p1.length c1_0] h (fun v _ => v = .bool r) := by
  unfold F_ref15_Same at hF
  refine ev_of hw rfl at_16 rfl rfl (go_seg0 ?_)
  refine go_seq ?_
  refine go_region ?_
  refine gAc rfl rfl ?_
  refine go_nil ?_
  refine go_seq ?_
  refine go_seq ?_
  refine go_region ?_
  refine gM rfl rfl ?_
  refine gr rfl (r_len rfl (os1 (ot rfl) os0) (fun _ _ => ln_44)) ?_
  refine gM rfl rfl ?_
  refine gr rfl (r_len rfl (os1 (ot rfl) os0) (fun _ _ => ln_44)) ?_
  refine gr rfl (r_bin (ot rfl) (ot rfl) rfl) ?_
  refine go_nil ?_
  refine g_cond (b := ((p0.length : Int) != (p1.length : Int))) (ot rfl) (fun hc3 => ?_) (fun hc3 => ?_)
  ·
    replace hF := ifT hc3 hF
    refine go_seq ?_
    refine go_region ?_
    refine gAc rfl rfl ?_
    refine go_nil ?_
    obtain rfl := someI hF
    exact g_ret (rst rfl rs0) (fun h1 hf hs => ⟨hs.hext, rfl⟩)
  ·
    replace hF := ifF hc3 hF
    refine go_skip ?_
    refine go_seq ?_
    refine go_seq ?_
    refine go_region ?_
    refine gAc rfl rfl ?_
    refine go_nil ?_
    replace hF := obind hF
    obtain ⟨s4, hF, hK4⟩ := hF
    refine go_joinc (β := (Unit)) (fun s h' => s4 = .go s) (fun s => [(4, true, .bool false)]) (fun s => (List.flatten [] : List Blk)) ?_ (fun J4 => ?_)
    ·
      rintro _ h4 e4 w4 hs4
      subst hs4
      replace hF := lpgo hK4
      refine go_seq ?_
      refine go_region ?_
      refine gAc rfl rfl ?_
      refine go_nil ?_
      obtain rfl := someI hF
      exact g_ret (rst rfl rs0) (fun h1 hf hs => ⟨(e4.trans hs.hext), rfl⟩)
    ·
      refine go_block ?_
      refine go_loop (α := (List ByteArray) × Nat × Heap) (fun a => a.1 = List.drop a.2.1 p0 ∧ HExt h a.2.2 ∧ Wf a.2.2 ∧ F_ref15_Same_L1 p1 a.1 a.2.1 = some s4) (fun a => a.1.length) (fun a => [(0, true, .slice a0_0 p0.length c0_0), (1, true, .slice a1_0 p1.length c1_0), (4, true, .bool false), (5, true, .int .i64 (a.2.1 : Int))]) (fun a => (List.flatten [] : List Blk)) (fun a => a.2.2) ?_ (p0, 0, h) ⟨rfl, HExt.refl _, hw, hF⟩ (Sub.cons (Sub.cons (Sub.cons (Sub.cons (Sub.nil _) rfl) rfl) rfl) rfl) rfl rfl
      rintro ⟨r5, i5, h5⟩ ⟨hr5, e5, w5, hF⟩ ih5
      rcases r5 with _ | ⟨z5, r5⟩
      ·
        have hi5 := drop_nil hr5
        rw [F_ref15_Same_L1.eq_1] at hF
        refine go_seq ?_
        refine go_seq ?_
        refine go_region ?_
        refine gM rfl rfl ?_
        refine gM rfl rfl ?_
        refine gr rfl (r_len rfl (os1 (ot rfl) os0) (fun _ _ => ln_44)) ?_
        refine gr rfl (r_bin (ot rfl) (ot rfl) rfl) ?_
        refine go_cast (.bool false) (congrArg Value.bool (decide_eq_false hi5)) ?_
        refine go_nil ?_
        refine g_cond (b := false) (ot rfl) (fun hc6 => ?_) (fun hc6 => ?_)
        · cases hc6
        refine go_exit rfl ?_
        obtain rfl := someI hF
        exact Goes.weak (J4 () _ e5 w5 rfl) (Sub.cons (Sub.nil _) rfl)
      ·
        obtain ⟨hi5, hx5, hr5⟩ := drop_cons hr5
        have hb5 := (f0_0.ext e5.kn).1
        rw [F_ref15_Same_L1.eq_2] at hF
        refine go_seq ?_
        refine go_seq ?_
        refine go_region ?_
        refine gM rfl rfl ?_
        refine gM rfl rfl ?_
        refine gr rfl (r_len rfl (os1 (ot rfl) os0) (fun _ _ => ln_44)) ?_
        refine gr rfl (r_bin (ot rfl) (ot rfl) rfl) ?_
        refine go_cast (.bool true) (congrArg Value.bool (decide_eq_true (Int.ofNat_lt.mpr hi5))) ?_
        refine go_nil ?_
        refine g_cond (b := true) (ot rfl) (fun hc7 => ?_) (fun hc7 => ?_)
        rotate_left
        · cases hc7
        refine go_skip ?_
        refine go_seq ?_
        refine go_block ?_
        refine go_seq ?_
        refine go_regionq (by kernel_rfl) ?_
        refine gM rfl rfl ?_
        refine gM rfl rfl ?_
        obtain ⟨q8, row8, i8, cl8, rc8, sp8⟩ := ix (ik := .i64) (cap := c0_0) (E := EE) (f0_0.ext e5.kn) ((getI_nat _ _).trans hx5) ut_44 sz_9 rfl
        obtain rfl := rc8
        refine gr rfl (r_ia (ot rfl) (ot rfl) i8) ?_
        refine gr rfl (r_load (ot rfl) (v := .string z5) (lo_e (fun hf kn => ld_one ag_9 (kn.cellsAt cl8)))) ?_
        refine gM rfl rfl ?_
        refine gM rfl rfl ?_
        replace hF := obind hF
        obtain ⟨x9, hx9, hF⟩ := hF
        obtain ⟨q9, row9, i9, cl9, rc9, sp9⟩ := ix (ik := .i64) (cap := c1_0) (E := EE) (f1_0.ext e5.kn) hx9 ut_44 sz_9 rfl
        obtain rfl := rc9
        refine gr rfl (r_ia (ot rfl) (ot rfl) i9) ?_
        refine gr rfl (r_load (ot rfl) (v := .string x9) (lo_e (fun hf kn => ld_one ag_9 (kn.cellsAt cl9)))) ?_
        refine gr rfl (r_bin (ot rfl) (ot rfl) rfl) ?_
        refine go_nil ?_
        refine g_cond (b := (!eqB z5 x9)) (ot rfl) (fun hc10 => ?_) (fun hc10 => ?_)
        ·
          replace hF := ifT hc10 hF
          refine go_seq ?_
          refine go_region ?_
          refine gAc rfl rfl ?_
          refine go_nil ?_
          obtain rfl := someI hF
          obtain rfl := someI hK4
          exact g_ret (rst rfl rs0) (fun h1 hf hs => ⟨(e5.trans hs.hext), rfl⟩)
        ·
          replace hF := ifF hc10 hF
          refine go_skip ?_
          refine go_endb ?_
          refine go_region ?_
          refine gM rfl rfl ?_
          refine gr rfl (r_bin (ot rfl) (oc rfl) rfl) ?_
          refine gA rfl rfl ?_
          refine go_nil ?_
          refine go_re 5 (v2 := .int .i64 ((i5 + 1 : Nat) : Int)) rfl (wrap_succ hi5 hb5) ?_
          exact Goes.weak (ih5 (r5, i5 + 1, h5) ⟨hr5, e5, w5, hF⟩ (Nat.lt_succ_self _)) (Sub.cons (Sub.cons (Sub.cons (Sub.cons (Sub.nil _) rfl) rfl) rfl) rfl)
theorem s_law15_BstRuns (n : Nat) {h : Heap} (hw : Wf h) (p0 : (List Timpostlaw15_Deed)) {a0_0 : Option Addr} {c0_0 : Nat} (f0_0 : RL R_Timpostlaw15_Deed h a0_0 c0_0 p0) {r : Bool} (hF : F_law15_BstRuns n p0 = some r) :
    Ev EE 3 [.slice a0_0 p0.length c0_0] h (fun v _ => v = .bool r) := by
  unfold F_law15_BstRuns at hF
  refine ev_of hw rfl at_3 rfl rfl (go_seg0 ?_)
  refine go_seq ?_
  refine go_region ?_
  refine gAc rfl rfl ?_
  refine go_nil ?_
  refine go_seq ?_
  refine go_region ?_
  refine g_callp EE_fr rfl of os0 hb_9 (fun _ => rfl) (fun hf kn w => by exact known_evp rfl hf w) ?_
  refine gA rfl rfl ?_
  refine go_nil ?_
  refine go_seq ?_
  refine go_region ?_
  replace hF := obind hF
  obtain ⟨x3, hx3, hF⟩ := hF
  refine gs_call EE_fr hw .nil (fun _ h => by cases h; rfl) of (os1 (oc rfl) os0) hb_11 (by exact s_mem_New_nil hw   hx3) ?_
  rintro v3 S3 h3 e3 w3 ⟨b3_w0, q3_w0_0, t3_w0_0, rfl, rfl, f3_0⟩
  simp only [List.cons_append, List.nil_append]
  replace hF := obind hF
  obtain ⟨x4, hx4, hF⟩ := hF
  refine gs_call EE_fr w3 (.cons .z (.cons .z .nil)) (fun _ h => by cases h; rfl) of (os1 (ot rfl) os0) hb_10 (by exact s_bst_New w3 x3 f3_0 hx4) ?_
  rintro v4 S4 h4 e4 w4 ⟨b4_w0, q4_w0_1, t4_w0_1, q4_w0_2, t4_w0_2, q4_w0o0_0, t4_w0o0_0, rfl, rfl, f4_0, f4_1, f4_2⟩
  simp only [List.cons_append, List.nil_append]
  refine gA rfl rfl ?_
  refine go_nil ?_
  refine go_seq ?_
  refine go_region ?_
  refine gAc rfl rfl ?_
  refine go_nil ?_
  refine go_seq ?_
  refine go_seq ?_
  refine go_region ?_
  refine gAc rfl rfl ?_
  refine go_nil ?_
  replace hF := obind hF
  obtain ⟨s5, hF, hK5⟩ := hF
  refine go_joinc (β := ((List Tbst_node) × (List Tbst_info) × (List Int) × Int) × Option Addr × List Blk × Option Addr × List Blk × Option Addr × List Blk) (fun s h' => s5 = .go s.1 ∧ AccR R_Tbst_node 89 h' s.2.2.1 (.slice s.2.1 s.1.1.length s.1.1.length) s.1.1 ∧ AccR R_Tbst_info 86 h' s.2.2.2.2.1 (.slice s.2.2.2.1 s.1.2.1.length s.1.2.1.length) s.1.2.1 ∧ AccR (RI_ .u64 29) 29 h' s.2.2.2.2.2.2 (.slice s.2.2.2.2.2.1 s.1.2.2.1.length s.1.2.2.1.length) s.1.2.2.1) (fun s => [(2, true, .bool false), (3, true, .bool true)]) (fun s => (List.flatten [[⟨b4_w0, .cells [.pointer (some ⟨b3_w0, 0, none⟩), .slice s.2.1 s.1.1.length s.1.1.length, .slice s.2.2.2.1 s.1.2.1.length s.1.2.1.length] 83⟩], s.2.2.1, s.2.2.2.2.1, [⟨b3_w0, .cells [.slice s.2.2.2.2.2.1 s.1.2.2.1.length s.1.2.2.1.length, .int .i64 s.1.2.2.2] 94⟩], s.2.2.2.2.2.2] : List Blk)) ?_ (fun J5 => ?_)
  ·
    rintro ⟨⟨x5_0, x5_1, x5_2, x5_3⟩, a5_0, a5_1, a5_2, a5_3, a5_4, a5_5⟩ h5 e5 w5 ⟨hs5, f5_0, f5_1, f5_2⟩
    subst hs5
    replace hF := lpgo hK5
    refine go_seq ?_
    refine go_region ?_
    refine gM rfl rfl ?_
    refine gA rfl rfl ?_
    refine go_nil ?_
    obtain rfl := someI hF
    exact g_ret (rst rfl rs0) (fun h1 hf hs => ⟨(e3.trans (e4.trans (e5.trans hs.hext))), rfl⟩)
  ·
    refine go_block ?_
    refine go_loop (α := (List Timpostlaw15_Deed) × Nat × (List Timpostref15_Entry) × (List Tbst_node) × (List Tbst_info) × (List Int) × Int × Option Addr × Nat × Option Addr × List Blk × Option Addr × List Blk × Option Addr × List Blk × Heap) (fun a => a.1 = List.drop a.2.1 p0 ∧ HExt h4 a.2.2.2.2.2.2.2.2.2.2.2.2.2.2.2 ∧ Wf a.2.2.2.2.2.2.2.2.2.2.2.2.2.2.2 ∧ F_law15_BstRuns_L1 n a.1 a.2.1 a.2.2.1 a.2.2.2.1 a.2.2.2.2.1 a.2.2.2.2.2.1 a.2.2.2.2.2.2.1 = some s5 ∧ RL R_Timpostref15_Entry a.2.2.2.2.2.2.2.2.2.2.2.2.2.2.2 a.2.2.2.2.2.2.2.1 a.2.2.2.2.2.2.2.2.1 a.2.2.1 ∧ AccR R_Tbst_node 89 a.2.2.2.2.2.2.2.2.2.2.2.2.2.2.2 a.2.2.2.2.2.2.2.2.2.2.1 (.slice a.2.2.2.2.2.2.2.2.2.1 a.2.2.2.1.length a.2.2.2.1.length) a.2.2.2.1 ∧ AccR R_Tbst_info 86 a.2.2.2.2.2.2.2.2.2.2.2.2.2.2.2 a.2.2.2.2.2.2.2.2.2.2.2.2.1 (.slice a.2.2.2.2.2.2.2.2.2.2.2.1 a.2.2.2.2.1.length a.2.2.2.2.1.length) a.2.2.2.2.1 ∧ AccR (RI_ .u64 29) 29 a.2.2.2.2.2.2.2.2.2.2.2.2.2.2.2 a.2.2.2.2.2.2.2.2.2.2.2.2.2.2.1 (.slice a.2.2.2.2.2.2.2.2.2.2.2.2.2.1 a.2.2.2.2.2.1.length a.2.2.2.2.2.1.length) a.2.2.2.2.2.1) (fun a => a.1.length) (fun a => [(0, true, .slice a0_0 p0.length c0_0), (2, true, .bool false), (3, true, .bool true), (4, true, .pointer (some ⟨b4_w0, 0, none⟩)), (5, true, .slice a.2.2.2.2.2.2.2.1 a.2.2.1.length a.2.2.2.2.2.2.2.2.1), (6, true, .int .i64 (a.2.1 : Int))]) (fun a => (List.flatten [[⟨b4_w0, .cells [.pointer (some ⟨b3_w0, 0, none⟩), .slice a.2.2.2.2.2.2.2.2.2.1 a.2.2.2.1.length a.2.2.2.1.length, .slice a.2.2.2.2.2.2.2.2.2.2.2.1 a.2.2.2.2.1.length a.2.2.2.2.1.length] 83⟩], a.2.2.2.2.2.2.2.2.2.2.1, a.2.2.2.2.2.2.2.2.2.2.2.2.1, [⟨b3_w0, .cells [.slice a.2.2.2.2.2.2.2.2.2.2.2.2.2.1 a.2.2.2.2.2.1.length a.2.2.2.2.2.1.length, .int .i64 a.2.2.2.2.2.2.1] 94⟩], a.2.2.2.2.2.2.2.2.2.2.2.2.2.2.1] : List Blk)) (fun a => a.2.2.2.2.2.2.2.2.2.2.2.2.2.2.2) ?_ (p0, 0, ([] : List Timpostref15_Entry), x4.1.nodes, x4.1.infos, x4.2.cells, x4.2.count, none, 0, q4_w0_1, t4_w0_1, q4_w0_2, t4_w0_2, q4_w0o0_0, t4_w0o0_0, h4) ⟨rfl, HExt.refl _, w4, hF, (RL.nil _ _ _), f4_0, f4_1, f4_2⟩ (Sub.cons (Sub.cons (Sub.cons (Sub.cons (Sub.cons (Sub.cons (Sub.nil _) rfl) rfl) rfl) rfl) rfl) rfl) rfl rfl
    rintro ⟨r6, i6, y6_0, y6_1, y6_2, y6_3, y6_4, a6_0, a6_1, a6_2, a6_3, a6_4, a6_5, a6_6, a6_7, h6⟩ ⟨hr6, e6, w6, hF, f6_0, f6_1, f6_2, f6_3⟩ ih6
    rcases r6 with _ | ⟨z6, r6⟩
    ·
      have hi6 := drop_nil hr6
      rw [F_law15_BstRuns_L1.eq_1] at hF
      refine go_seq ?_
      refine go_seq ?_
      refine go_region ?_
      refine gM rfl rfl ?_
      refine gM rfl rfl ?_
      refine gr rfl (r_len rfl (os1 (ot rfl) os0) (fun _ _ => ln_22)) ?_
      refine gr rfl (r_bin (ot rfl) (ot rfl) rfl) ?_
      refine go_cast (.bool false) (congrArg Value.bool (decide_eq_false hi6)) ?_
      refine gM rfl rfl ?_
      refine g_no rfl rfl rfl rfl rfl ?_
      refine g_no rfl rfl rfl rfl rfl ?_
      refine gr rfl (r_pkF (ot rfl) (oc rfl)) ?_
      refine go_nil ?_
      refine g_cond (b := false) (ot rfl) (fun hc7 => ?_) (fun hc7 => ?_)
      · cases hc7
      refine go_exit rfl ?_
      obtain rfl := someI hF
      exact Goes.weak (J5 ((y6_1, y6_2, y6_3, y6_4), a6_2, a6_3, a6_4, a6_5, a6_6, a6_7) _ e6 w6 ⟨rfl, f6_1, f6_2, f6_3⟩) (Sub.cons (Sub.cons (Sub.nil _) rfl) rfl)
    ·
      obtain ⟨hi6, hx6, hr6⟩ := drop_cons hr6
      have hb6 := (((f0_0.ext e3.kn).ext e4.kn).ext e6.kn).1
      rw [F_law15_BstRuns_L1.eq_2] at hF
      refine go_seq ?_
      refine go_seq ?_
      refine go_region ?_
      refine gM rfl rfl ?_
      refine gM rfl rfl ?_
      refine gr rfl (r_len rfl (os1 (ot rfl) os0) (fun _ _ => ln_22)) ?_
      refine gr rfl (r_bin (ot rfl) (ot rfl) rfl) ?_
      refine go_cast (.bool true) (congrArg Value.bool (decide_eq_true (Int.ofNat_lt.mpr hi6))) ?_
      refine gM rfl rfl ?_
      refine g_do rfl rfl rfl ?_
      refine gM rfl rfl ?_
      refine g_do rfl rfl rfl ?_
      refine gr rfl (r_bin (ot rfl) (oc rfl) rfl) ?_
      refine gr rfl (r_pkT (ot rfl) (ot rfl)) ?_
      refine go_nil ?_
      refine g_cond (b := (decide ((i6 : Int) < 60))) (ot rfl) (fun hc8 => ?_) (fun hc8 => ?_)
      ·
        replace hF := ifT hc8 hF
        refine go_skip ?_
        refine go_seq ?_
        refine go_block ?_
        refine go_seq ?_
        refine go_region ?_
        refine gM rfl rfl ?_
        refine gM rfl rfl ?_
        refine gM rfl rfl ?_
        obtain ⟨q9, row9, i9, cl9, rc9, sp9⟩ := ix (ik := .i64) (cap := c0_0) (E := EE) (((f0_0.ext e3.kn).ext e4.kn).ext e6.kn) ((getI_nat _ _).trans hx6) ut_22 sz_37 rfl
        obtain rfl := rc9
        refine gr rfl (r_ia (ot rfl) (ot rfl) i9) ?_
        refine gr rfl (r_load (ot rfl) (v := .agg #[.int .i64 z6.Kind, .string z6.Key, .int .u64 z6.Val]) (lo_e (fun hf kn => ld_of (r := [.int .i64 z6.Kind, .string z6.Key, .int .u64 z6.Val]) ag_37 sz_37 (kn.cellsAt cl9)))) ?_
        replace hF := obind hF
        obtain ⟨x10, hx10, hF⟩ := hF
        refine gs_call EE_fr w6 (.cons .z (.cons .z (.cons .z (.cons .z (.cons .z .nil))))) (fun _ h => by cases h; rfl) of (os1 (ot rfl) (os1 (ot rfl) os0)) hb_13 (by exact s_law15_begun n w6 (⟨y6_1, y6_2⟩ : Obst_Tree) (⟨y6_3, y6_4⟩ : Omem_Mem) z6 f6_1 f6_2 f6_3 hx10) ?_
        rintro v10 S10 h10 e10 w10 ⟨q10_y0_1, t10_y0_1, q10_y0_2, t10_y0_2, q10_y0o0_0, t10_y0o0_0, b10_w0, v10_w0_4, t10_w0_4, rfl, rfl, f10_0, f10_1, f10_2, f10_3⟩
        simp only [List.cons_append, List.nil_append]
        replace hF := obind hF
        obtain ⟨x11, hx11, hF⟩ := hF
        refine gs_call EE_fr w10 (.cons .z (.cons .z (.cons .z (.cons .z (.cons .z (.cons .z (.cons .z .nil))))))) (fun _ h => by cases h; rfl) of (os1 (ot rfl) os0) hb_12 (by exact s_bst_Run n w10 (⟨x10.2.1.nodes, x10.2.1.infos⟩ : Obst_Tree) (⟨x10.2.2.cells, x10.2.2.count⟩ : Omem_Mem) (⟨x10.1.told_Ok, x10.1.told_Key, x10.1.told_Val, x10.1.told_Err, x10.1.next⟩ : Obst_Call_2) f10_0 f10_1 f10_2 f10_3 hx11) ?_
        rintro v11 S11 h11 e11 w11 ⟨q11_y0_1, t11_y0_1, q11_y0_2, t11_y0_2, q11_y0o0_0, t11_y0o0_0, v11_y1_4, t11_y1_4, rfl, rfl, f11_0, f11_1, f11_2, f11_3⟩
        simp only [List.cons_append, List.nil_append]
        refine gs_alloc rfl zo_32 rfl ?_; intro b7_12
        refine gs_store (ot rfl) (ot rfl) sz_32 rfl rfl rfl rfl rfl .z ?_
        refine go_nil ?_
        refine go_seq ?_
        refine go_regions (L := [(0, []), (1, []), (2, []), (3, []), (4, []), (6, []), (7, []), (8, []), (9, []), (10, []), (5, [10]), (11, []), (12, []), (13, []), (14, []), (15, []), (16, []), (17, []), (18, [])]) (by kernel_rfl) (by kernel_rfl) (fun _ => rfl) ?_
        refine go_sop rfl rfl ?_
        refine gM rfl rfl ?_
        refine go_nil ?_
        refine go_sop rfl rfl ?_
        refine gM rfl rfl ?_
        refine go_nil ?_
        refine go_sop rfl rfl ?_
        refine gM rfl rfl ?_
        refine go_nil ?_
        refine go_sop rfl rfl ?_
        obtain ⟨q13, row13, i13, cl13, rc13, sp13⟩ := ix (ik := .i64) (cap := c0_0) (E := EE) (((((f0_0.ext e3.kn).ext e4.kn).ext e6.kn).ext e10.kn).ext e11.kn) ((getI_nat _ _).trans hx6) ut_22 sz_37 rfl
        obtain rfl := rc13
        refine gr rfl (r_ia (ot rfl) (ot rfl) i13) ?_
        refine go_nil ?_
        refine go_sop rfl rfl ?_
        refine gr rfl (r_load (ot rfl) (v := .agg #[.int .i64 z6.Kind, .string z6.Key, .int .u64 z6.Val]) (lo_e (fun hf kn => ld_of (r := [.int .i64 z6.Kind, .string z6.Key, .int .u64 z6.Val]) ag_37 sz_37 (kn.cellsAt cl13)))) ?_
        refine go_nil ?_
        refine go_sop rfl rfl ?_
        refine gM rfl rfl ?_
        refine go_nil ?_
        refine go_sop rfl rfl ?_
        refine gM rfl rfl ?_
        refine go_nil ?_
        refine go_sop rfl rfl ?_
        obtain ⟨q14, row14, i14, cl14, rc14, sp14⟩ := ix (ik := .i64) (cap := c0_0) (E := EE) (((((f0_0.ext e3.kn).ext e4.kn).ext e6.kn).ext e10.kn).ext e11.kn) ((getI_nat _ _).trans hx6) ut_22 sz_37 rfl
        obtain rfl := rc14
        refine gr rfl (r_ia (ot rfl) (ot rfl) i14) ?_
        refine go_nil ?_
        refine go_sop rfl rfl ?_
        refine gr rfl (r_fa (ot rfl) (fs_37_2 sp14)) ?_
        refine go_nil ?_
        refine go_sop rfl rfl ?_
        refine gr rfl (r_load (ot rfl) (v := .int .u64 z6.Val) (lo_e (fun hf kn => ld_field (r := [.int .i64 z6.Kind, .string z6.Key, .int .u64 z6.Val]) ag_29 (kn.cellsAt cl14) rfl))) ?_
        refine go_nil ?_
        refine go_sopc [(10, .int .u64 z6.Val)] rfl rfl rfl (rc1 rfl (r_load (ot rfl) (v := .int .u64 z6.Val) (lo_e (fun hf kn => ld_field (r := [.int .i64 z6.Kind, .string z6.Key, .int .u64 z6.Val]) ag_29 (kn.cellsAt cl14) rfl))) rc0) (vq1 (veq_int _ _ _) vq0) rfl ?_
        replace hF := obind hF
        obtain ⟨x15, hx15, hF⟩ := hF
        refine g_callp (v := .agg #[.int .i64 x15.Kind, .string x15.Key, .bool x15.Ok, .int .i64 x15.Inv, .int .i64 x15.Ret]) EE_fr rfl of (os1 (ot rfl) os0) hb_15 (fun _ => rfl) (fun hf kn w => by exact s_law15_call w z6  hx15) ?_
        refine go_nil ?_
        refine go_rck (rc1 rfl (r_load (ot rfl) (v := .int .u64 z6.Val) (lo_e (fun hf kn => ld_field (r := [.int .i64 z6.Kind, .string z6.Key, .int .u64 z6.Val]) ag_29 (kn.cellsAt cl14) rfl))) rc0) ?_
        refine go_sop rfl rfl ?_
        replace hF := obind hF
        obtain ⟨x16, hx16, hF⟩ := hF
        refine g_call EE_fr (fun _ h => by cases h; rfl) of (os1 (ot rfl) (os1 (ot rfl) (os1 (ot rfl) os0))) hb_14 (fun hf kn w => by exact s_ref15_Do w y6_0 x15 z6.Val (((f6_0.ext e10.kn).ext e11.kn).ext kn) hx16) ?_
        rintro v16 h16 e16 w16 ⟨a16_0, c16_0, rfl, f16_0⟩
        refine go_nil ?_
        refine go_sop rfl rfl ?_
        refine gM rfl rfl ?_
        refine go_nil ?_
        refine go_sop rfl rfl ?_
        refine gE rfl rfl rfl ?_
        refine go_nil ?_
        refine go_sop rfl rfl ?_
        refine gE rfl rfl rfl ?_
        refine go_nil ?_
        refine go_sop rfl rfl ?_
        refine gE rfl rfl rfl ?_
        refine go_nil ?_
        refine go_sop rfl rfl ?_
        refine gA rfl rfl ?_
        refine go_nil ?_
        refine go_sop rfl rfl ?_
        refine gA rfl rfl ?_
        refine go_nil ?_
        refine go_sop rfl rfl ?_
        refine gA rfl rfl ?_
        refine go_nil ?_
        refine go_snil ?_
        refine go_seq ?_
        refine go_region ?_
        refine gM rfl rfl ?_
        refine gA rfl rfl ?_
        refine go_nil ?_
        refine go_seq ?_
        replace hF := obind hF
        obtain ⟨s17, hF, hK17⟩ := hF
        refine go_joinc (β := Option Addr × List Blk × Option Addr × List Blk × Option Addr × List Blk) (fun s h' => AccR R_Tbst_node 89 h' s.2.1 (.slice s.1 s17.2.2.2.2.2.2.2.2.1.length s17.2.2.2.2.2.2.2.2.1.length) s17.2.2.2.2.2.2.2.2.1 ∧ AccR R_Tbst_info 86 h' s.2.2.2.1 (.slice s.2.2.1 s17.2.2.2.2.2.2.2.2.2.1.length s17.2.2.2.2.2.2.2.2.2.1.length) s17.2.2.2.2.2.2.2.2.2.1 ∧ AccR (RI_ .u64 29) 29 h' s.2.2.2.2.2 (.slice s.2.2.2.2.1 s17.2.2.2.2.2.2.2.2.2.2.1.length s17.2.2.2.2.2.2.2.2.2.2.1.length) s17.2.2.2.2.2.2.2.2.2.2.1) (fun s => [(0, true, .slice a0_0 p0.length c0_0), (2, true, .bool false), (3, true, .bool true), (4, true, .pointer (some ⟨b4_w0, 0, none⟩)), (5, true, .slice a16_0 x16.1.length c16_0), (6, true, .int .i64 (i6 : Int)), (7, true, .pointer (some ⟨b7_12, 0, none⟩)), (8, true, .slice a16_0 x16.1.length c16_0), (9, true, .bool x16.2.1), (10, true, .int .u64 x16.2.2), (14, true, .int .i64 (i6 : Int)), (15, true, .slice a0_0 p0.length c0_0), (16, true, .int .i64 (p0.length : Int)), (17, true, .bool true), (18, true, .bool true), (19, true, .int .i64 (i6 : Int)), (20, true, .bool (decide ((i6 : Int) < 60))), (21, true, .bool (decide ((i6 : Int) < 60))), (24, true, .pointer (some ⟨b4_w0, 0, none⟩)), (25, true, .slice a0_0 p0.length c0_0), (26, true, .int .i64 (i6 : Int)), (27, true, .pointer (some q9)), (28, true, .agg #[.int .i64 z6.Kind, .string z6.Key, .int .u64 z6.Val]), (29, true, .pointer (some ⟨b10_w0, 0, none⟩)), (30, true, .agg #[.bool x11.1.Ok, .string x11.1.Key, .int .u64 x11.1.Val, .int .i64 x11.1.Err]), (31, true, .tuple #[.slice a16_0 x16.1.length c16_0, .bool x16.2.1, .int .u64 x16.2.2]), (32, true, .slice a6_0 y6_0.length a6_1), (33, true, .slice a0_0 p0.length c0_0), (34, true, .int .i64 (i6 : Int)), (35, true, .pointer (some q13)), (36, true, .agg #[.int .i64 z6.Kind, .string z6.Key, .int .u64 z6.Val]), (37, true, .agg #[.int .i64 x15.Kind, .string x15.Key, .bool x15.Ok, .int .i64 x15.Inv, .int .i64 x15.Ret]), (38, true, .slice a0_0 p0.length c0_0), (39, true, .int .i64 (i6 : Int)), (40, true, .pointer (some q14)), (41, true, .pointer (some ⟨q14.block, q14.off + 2, q14.spot⟩)), (42, true, .int .u64 z6.Val), (43, true, .tuple #[.slice a16_0 x16.1.length c16_0, .bool x16.2.1, .int .u64 x16.2.2]), (44, true, .slice a16_0 x16.1.length c16_0), (45, true, .bool x16.2.1), (46, true, .int .u64 x16.2.2), (47, true, .slice a16_0 x16.1.length c16_0), (49, true, .bool x11.1.Ok), (50, true, .bool x16.2.1), (51, true, .bool (!(x11.1.Ok == x16.2.1))), (52, true, .bool s17.1), (57, true, .bool s17.2.1), (58, true, .bool s17.2.2.1), (67, true, .bool s17.2.2.2.1), (68, true, .bool s17.2.2.2.2.1), (72, true, .bool s17.2.2.2.2.2.1), (73, true, .bool s17.2.2.2.2.2.2.1), (80, true, .bool s17.2.2.2.2.2.2.2.1)]) (fun s => (List.flatten [[⟨b7_12, .cells [.bool x11.1.Ok, .string x11.1.Key, .int .u64 x11.1.Val, .int .i64 x11.1.Err] 32⟩], [⟨b4_w0, .cells [.pointer (some ⟨b3_w0, 0, none⟩), .slice s.1 s17.2.2.2.2.2.2.2.2.1.length s17.2.2.2.2.2.2.2.2.1.length, .slice s.2.2.1 s17.2.2.2.2.2.2.2.2.2.1.length s17.2.2.2.2.2.2.2.2.2.1.length] 83⟩], s.2.1, s.2.2.2.1, [⟨b3_w0, .cells [.slice s.2.2.2.2.1 s17.2.2.2.2.2.2.2.2.2.2.1.length s17.2.2.2.2.2.2.2.2.2.2.1.length, .int .i64 s17.2.2.2.2.2.2.2.2.2.2.2] 94⟩], s.2.2.2.2.2, [⟨b10_w0, .cells [.bool x11.2.2.2.told_Ok, .string x11.2.2.2.told_Key, .int .u64 x11.2.2.2.told_Val, .int .i64 x11.2.2.2.told_Err, v11_y1_4] 114⟩], t11_y1_4] : List Blk)) ?_ (fun J17 => ?_)
        ·
          rintro ⟨a17_0, a17_1, a17_2, a17_3, a17_4, a17_5⟩ h17 e17 w17 ⟨f17_8, f17_9, f17_10⟩
          replace hF := hK17
          refine g_cond (b := s17.2.2.2.2.2.2.2.1) (ot rfl) (fun hc18 => ?_) (fun hc18 => ?_)
          ·
            replace hF := ifT hc18 hF
            refine go_seq ?_
            refine go_region ?_
            refine gAc rfl rfl ?_
            refine go_nil ?_
            obtain rfl := someI hF
            obtain rfl := someI hK5
            exact g_ret (rst rfl rs0) (fun h1 hf hs => ⟨(e3.trans (e4.trans (e6.trans (e10.trans (e11.trans (e16.trans (e17.trans hs.hext))))))), rfl⟩)
          ·
            replace hF := ifF hc18 hF
            refine go_skip ?_
            refine go_endb ?_
            refine go_region ?_
            refine gM rfl rfl ?_
            refine gr rfl (r_bin (ot rfl) (oc rfl) rfl) ?_
            refine gA rfl rfl ?_
            refine go_nil ?_
            refine gs_sub (.cons _ (.cons_cons _ (.cons_cons _ (.cons_cons _ (.cons_cons _ (.cons_cons _ (.cons _ (.cons _ (.refl _))))))))) ?_
            refine go_re 6 (v2 := .int .i64 ((i6 + 1 : Nat) : Int)) rfl (wrap_succ hi6 hb6) ?_
            exact Goes.weak (ih6 (r6, i6 + 1, x16.1, s17.2.2.2.2.2.2.2.2.1, s17.2.2.2.2.2.2.2.2.2.1, s17.2.2.2.2.2.2.2.2.2.2.1, s17.2.2.2.2.2.2.2.2.2.2.2, a16_0, c16_0, a17_0, a17_1, a17_2, a17_3, a17_4, a17_5, h17) ⟨hr6, (e6.trans (e10.trans (e11.trans (e16.trans e17)))), w17, hF, (f16_0.ext e17.kn), f17_8, f17_9, f17_10⟩ (Nat.lt_succ_self _)) (Sub.cons (Sub.cons (Sub.cons (Sub.cons (Sub.cons (Sub.cons (Sub.nil _) rfl) rfl) rfl) rfl) rfl) rfl)
        ·
          refine go_regions (L := [(0, []), (1, []), (2, []), (3, []), (4, []), (5, []), (6, []), (7, []), (8, []), (9, []), (10, []), (11, []), (12, []), (13, []), (14, []), (15, []), (16, []), (17, []), (18, []), (19, []), (20, []), (21, []), (22, []), (23, []), (24, []), (25, []), (26, []), (28, []), (27, []), (29, []), (30, []), (31, []), (32, [])]) (by kernel_rfl) (by kernel_rfl) (fun _ => rfl) ?_
          refine go_sop rfl rfl ?_
          refine gr rfl (r_fa (ot rfl) (fa_32_0 _ _)) ?_
          refine go_nil ?_
          refine go_sop rfl rfl ?_
          refine gr rfl (r_load (ot rfl) (lm_s (mem_seg 0 rfl) ag_4 rfl)) ?_
          refine go_nil ?_
          refine go_sop rfl rfl ?_
          refine gM rfl rfl ?_
          refine go_nil ?_
          refine go_sop rfl rfl ?_
          refine gr rfl (r_bin (ot rfl) (ot rfl) bu_4) ?_
          refine go_nil ?_
          refine go_sop rfl rfl ?_
          refine gM rfl rfl ?_
          refine go_nil ?_
          rcases Bool.eq_false_or_eq_true (!(x11.1.Ok == x16.2.1)) with hb19 | hb19
          ·
            replace hF := ifT hb19 hF
            refine go_re 52 (v2 := .bool true) rfl (congrArg Value.bool hb19) ?_
            refine go_sskip rfl (w_no rfl rfl rfl rfl rfl) ?_
            refine g_no rfl rfl rfl rfl rfl ?_
            refine go_nil ?_
            refine go_sskip rfl (w_no rfl rfl rfl rfl rfl) ?_
            refine g_no rfl rfl rfl rfl rfl ?_
            refine go_nil ?_
            refine go_sskip rfl (w_no rfl rfl rfl rfl rfl) ?_
            refine g_no rfl rfl rfl rfl rfl ?_
            refine go_nil ?_
            refine go_sskip rfl (w_no rfl rfl rfl rfl rfl) ?_
            refine g_no rfl rfl rfl rfl rfl ?_
            refine go_nil ?_
            refine go_sop rfl rfl ?_
            refine gr rfl (r_pkT (ot rfl) (oc rfl)) ?_
            refine go_nil ?_
            refine go_sop rfl rfl ?_
            refine gM rfl rfl ?_
            refine go_nil ?_
            refine go_sskip rfl (w_no rfl rfl rfl rfl rfl) ?_
            refine g_no rfl rfl rfl rfl rfl ?_
            refine go_nil ?_
            refine go_sskip rfl (w_no rfl rfl rfl rfl rfl) ?_
            refine g_no rfl rfl rfl rfl rfl ?_
            refine go_nil ?_
            refine go_sskip rfl (w_no rfl rfl rfl rfl rfl) ?_
            refine g_no rfl rfl rfl rfl rfl ?_
            refine go_nil ?_
            refine go_sskip rfl (w_no rfl rfl rfl rfl rfl) ?_
            refine g_no rfl rfl rfl rfl rfl ?_
            refine go_nil ?_
            refine go_sskip rfl (w_no rfl rfl rfl rfl rfl) ?_
            refine g_no rfl rfl rfl rfl rfl ?_
            refine go_nil ?_
            refine go_sskip rfl (w_no rfl rfl rfl rfl rfl) ?_
            refine g_no rfl rfl rfl rfl rfl ?_
            refine go_nil ?_
            refine go_sskip rfl (w_no rfl rfl rfl rfl rfl) ?_
            refine g_no rfl rfl rfl rfl rfl ?_
            refine go_nil ?_
            refine go_sskip rfl (w_no rfl rfl rfl rfl rfl) ?_
            refine g_no rfl rfl rfl rfl rfl ?_
            refine go_nil ?_
            refine go_sop rfl rfl ?_
            refine gr rfl (r_pkT (ot rfl) (oc rfl)) ?_
            refine go_nil ?_
            refine go_sop rfl rfl ?_
            refine gM rfl rfl ?_
            refine go_nil ?_
            refine go_sskip rfl (w_no rfl rfl rfl rfl rfl) ?_
            refine g_no rfl rfl rfl rfl rfl ?_
            refine go_nil ?_
            refine go_sskip rfl (w_no rfl rfl rfl rfl rfl) ?_
            refine g_no rfl rfl rfl rfl rfl ?_
            refine go_nil ?_
            refine go_sskip rfl (w_no rfl rfl rfl rfl rfl) ?_
            refine g_no rfl rfl rfl rfl rfl ?_
            refine go_nil ?_
            refine go_sop rfl rfl ?_
            refine gr rfl (r_pkT (ot rfl) (oc rfl)) ?_
            refine go_nil ?_
            refine go_sop rfl rfl ?_
            refine gM rfl rfl ?_
            refine go_nil ?_
            refine go_sskip rfl (w_no rfl rfl rfl rfl rfl) ?_
            refine g_no rfl rfl rfl rfl rfl ?_
            refine go_nil ?_
            refine go_sskip rfl (w_no rfl rfl rfl rfl rfl) ?_
            refine g_no rfl rfl rfl rfl rfl ?_
            refine go_nil ?_
            refine go_sskip rfl (w_no rfl rfl rfl rfl rfl) ?_
            refine g_no rfl rfl rfl rfl rfl ?_
            refine go_nil ?_
            refine go_sskip rfl (w_no rfl rfl rfl rfl rfl) ?_
            refine g_no rfl rfl rfl rfl rfl ?_
            refine go_nil ?_
            refine go_sskip rfl (w_no rfl rfl rfl rfl rfl) ?_
            refine g_no rfl rfl rfl rfl rfl ?_
            refine go_nil ?_
            refine go_sskip rfl (w_no rfl rfl rfl rfl rfl) ?_
            refine g_no rfl rfl rfl rfl rfl ?_
            refine go_nil ?_
            refine go_sop rfl rfl ?_
            refine gr rfl (r_pkT (ot rfl) (oc rfl)) ?_
            refine go_nil ?_
            refine go_snil ?_
            obtain rfl := someI hF
            exact Goes.weak (J17 (q11_y0_1, t11_y0_1, q11_y0_2, t11_y0_2, q11_y0o0_0, t11_y0o0_0) _ (HExt.refl _) w16 ⟨(f11_0.ext e16.kn), (f11_1.ext e16.kn), (f11_2.ext e16.kn)⟩) (Sub.cons (Sub.cons (Sub.cons (Sub.cons (Sub.cons (Sub.cons (Sub.cons (Sub.cons (Sub.cons (Sub.cons (Sub.cons (Sub.cons (Sub.cons (Sub.cons (Sub.cons (Sub.cons (Sub.cons (Sub.cons (Sub.cons (Sub.cons (Sub.cons (Sub.cons (Sub.cons (Sub.cons (Sub.cons (Sub.cons (Sub.cons (Sub.cons (Sub.cons (Sub.cons (Sub.cons (Sub.cons (Sub.cons (Sub.cons (Sub.cons (Sub.cons (Sub.cons (Sub.cons (Sub.cons (Sub.cons (Sub.cons (Sub.cons (Sub.cons (Sub.cons (Sub.cons (Sub.cons (Sub.cons (Sub.cons (Sub.cons (Sub.cons (Sub.cons (Sub.cons (Sub.cons (Sub.nil _) rfl) rfl) rfl) rfl) rfl) rfl) rfl) rfl) rfl) rfl) rfl) rfl) rfl) rfl) rfl) rfl) rfl) rfl) rfl) rfl) rfl) rfl) rfl) rfl) rfl) rfl) rfl) rfl) rfl) rfl) rfl) rfl) rfl) rfl) rfl) rfl) rfl) rfl) rfl) rfl) rfl) rfl) rfl) rfl) rfl) rfl) rfl) rfl) rfl) rfl) rfl) rfl) rfl)
          ·
            replace hF := ifF hb19 hF
            refine go_re 52 (v2 := .bool false) rfl (congrArg Value.bool hb19) ?_
            refine go_sop rfl rfl ?_
            refine g_do rfl rfl rfl ?_
            refine gr rfl (r_fa (ot rfl) (fa_32_2 _ _)) ?_
            refine go_nil ?_
            refine go_sop rfl rfl ?_
            refine g_do rfl rfl rfl ?_
            refine gr rfl (r_load (ot rfl) (lm_s (mem_seg 0 rfl) ag_29 rfl)) ?_
            refine go_nil ?_
            refine go_sop rfl rfl ?_
            refine g_do rfl rfl rfl ?_
            refine gM rfl rfl ?_
            refine go_nil ?_
            refine go_sop rfl rfl ?_
            refine g_do rfl rfl rfl ?_
            refine gr rfl (r_bin (ot rfl) (ot rfl) rfl) ?_
            refine go_nil ?_
            refine go_sop rfl rfl ?_
            refine gr rfl (r_pkF (ot rfl) (ot rfl)) ?_
            refine go_nil ?_
            refine go_sop rfl rfl ?_
            refine gM rfl rfl ?_
            refine go_nil ?_
            rcases Bool.eq_false_or_eq_true (x11.1.Val != x16.2.2) with hb20 | hb20
            ·
              replace hF := ifT hb20 hF
              refine go_re 58 (v2 := .bool true) rfl (congrArg Value.bool hb20) ?_
              refine go_sskip rfl (w_no rfl rfl rfl rfl rfl) ?_
              refine g_no rfl rfl rfl rfl rfl ?_
              refine go_nil ?_
              refine go_sskip rfl (w_no rfl rfl rfl rfl rfl) ?_
              refine g_no rfl rfl rfl rfl rfl ?_
              refine go_nil ?_
              refine go_sskip rfl (w_no rfl rfl rfl rfl rfl) ?_
              refine g_no rfl rfl rfl rfl rfl ?_
              refine go_nil ?_
              refine go_sskip rfl (w_no rfl rfl rfl rfl rfl) ?_
              refine g_no rfl rfl rfl rfl rfl ?_
              refine go_nil ?_
              refine go_sskip rfl (w_no rfl rfl rfl rfl rfl) ?_
              refine g_no rfl rfl rfl rfl rfl ?_
              refine go_nil ?_
              refine go_sskip rfl (w_no rfl rfl rfl rfl rfl) ?_
              refine g_no rfl rfl rfl rfl rfl ?_
              refine go_nil ?_
              refine go_sskip rfl (w_no rfl rfl rfl rfl rfl) ?_
              refine g_no rfl rfl rfl rfl rfl ?_
              refine go_nil ?_
              refine go_sskip rfl (w_no rfl rfl rfl rfl rfl) ?_
              refine g_no rfl rfl rfl rfl rfl ?_
              refine go_nil ?_
              refine go_sop rfl rfl ?_
              refine gr rfl (r_pkT (ot rfl) (oc rfl)) ?_
              refine go_nil ?_
              refine go_sop rfl rfl ?_
              refine gM rfl rfl ?_
              refine go_nil ?_
              refine go_sskip rfl (w_no rfl rfl rfl rfl rfl) ?_
              refine g_no rfl rfl rfl rfl rfl ?_
              refine go_nil ?_
              refine go_sskip rfl (w_no rfl rfl rfl rfl rfl) ?_
              refine g_no rfl rfl rfl rfl rfl ?_
              refine go_nil ?_
              refine go_sskip rfl (w_no rfl rfl rfl rfl rfl) ?_
              refine g_no rfl rfl rfl rfl rfl ?_
              refine go_nil ?_
              refine go_sop rfl rfl ?_
              refine gr rfl (r_pkT (ot rfl) (oc rfl)) ?_
              refine go_nil ?_
              refine go_sop rfl rfl ?_
              refine gM rfl rfl ?_
              refine go_nil ?_
              refine go_sskip rfl (w_no rfl rfl rfl rfl rfl) ?_
              refine g_no rfl rfl rfl rfl rfl ?_
              refine go_nil ?_
              refine go_sskip rfl (w_no rfl rfl rfl rfl rfl) ?_
              refine g_no rfl rfl rfl rfl rfl ?_
              refine go_nil ?_
              refine go_sskip rfl (w_no rfl rfl rfl rfl rfl) ?_
              refine g_no rfl rfl rfl rfl rfl ?_
              refine go_nil ?_
              refine go_sskip rfl (w_no rfl rfl rfl rfl rfl) ?_
              refine g_no rfl rfl rfl rfl rfl ?_
              refine go_nil ?_
              refine go_sskip rfl (w_no rfl rfl rfl rfl rfl) ?_
              refine g_no rfl rfl rfl rfl rfl ?_
              refine go_nil ?_
              refine go_sskip rfl (w_no rfl rfl rfl rfl rfl) ?_
              refine g_no rfl rfl rfl rfl rfl ?_
              refine go_nil ?_
              refine go_sop rfl rfl ?_
              refine gr rfl (r_pkT (ot rfl) (oc rfl)) ?_
              refine go_nil ?_
              refine go_snil ?_
              obtain rfl := someI hF
              exact Goes.weak (J17 (q11_y0_1, t11_y0_1, q11_y0_2, t11_y0_2, q11_y0o0_0, t11_y0o0_0) _ (HExt.refl _) w16 ⟨(f11_0.ext e16.kn), (f11_1.ext e16.kn), (f11_2.ext e16.kn)⟩) (Sub.cons (Sub.cons (Sub.cons (Sub.cons (Sub.cons (Sub.cons (Sub.cons (Sub.cons (Sub.cons (Sub.cons (Sub.cons (Sub.cons (Sub.cons (Sub.cons (Sub.cons (Sub.cons (Sub.cons (Sub.cons (Sub.cons (Sub.cons (Sub.cons (Sub.cons (Sub.cons (Sub.cons (Sub.cons (Sub.cons (Sub.cons (Sub.cons (Sub.cons (Sub.cons (Sub.cons (Sub.cons (Sub.cons (Sub.cons (Sub.cons (Sub.cons (Sub.cons (Sub.cons (Sub.cons (Sub.cons (Sub.cons (Sub.cons (Sub.cons (Sub.cons (Sub.cons (Sub.cons (Sub.cons (Sub.cons (Sub.cons (Sub.cons (Sub.cons (Sub.cons (Sub.cons (Sub.nil _) rfl) rfl) rfl) rfl) rfl) rfl) rfl) rfl) rfl) rfl) rfl) rfl) rfl) rfl) rfl) rfl) rfl) rfl) rfl) rfl) rfl) rfl) rfl) rfl) rfl) rfl) rfl) rfl) rfl) rfl) rfl) rfl) rfl) rfl) rfl) rfl) rfl) rfl) rfl) rfl) rfl) rfl) rfl) rfl) rfl) rfl) rfl) rfl) rfl) rfl) rfl) rfl) rfl)
            ·
              replace hF := ifF hb20 hF
              refine go_re 58 (v2 := .bool false) rfl (congrArg Value.bool hb20) ?_
              refine go_sop rfl rfl ?_
              refine g_do rfl rfl rfl ?_
              refine gr rfl (r_fa (ot rfl) (fa_32_1 _ _)) ?_
              refine go_nil ?_
              refine go_sop rfl rfl ?_
              refine g_do rfl rfl rfl ?_
              refine gr rfl (r_load (ot rfl) (lm_s (mem_seg 0 rfl) ag_9 rfl)) ?_
              refine go_nil ?_
              refine go_sop rfl rfl ?_
              refine g_do rfl rfl rfl ?_
              refine gM rfl rfl ?_
              refine go_nil ?_
              refine go_sop rfl rfl ?_
              refine g_do rfl rfl rfl ?_
              refine gM rfl rfl ?_
              refine go_nil ?_
              refine go_sop rfl rfl ?_
              refine g_do rfl rfl rfl ?_
              obtain ⟨q21, row21, i21, cl21, rc21, sp21⟩ := ix (ik := .i64) (cap := c0_0) (E := EE) ((((((f0_0.ext e3.kn).ext e4.kn).ext e6.kn).ext e10.kn).ext e11.kn).ext e16.kn) ((getI_nat _ _).trans hx6) ut_22 sz_37 rfl
              obtain rfl := rc21
              refine gr rfl (r_ia (ot rfl) (ot rfl) i21) ?_
              refine go_nil ?_
              refine go_sop rfl rfl ?_
              refine g_do rfl rfl rfl ?_
              refine gr rfl (r_fa (ot rfl) (fs_37_1 sp21)) ?_
              refine go_nil ?_
              refine go_sop rfl rfl ?_
              refine g_do rfl rfl rfl ?_
              refine gr rfl (r_load (ot rfl) (v := .string z6.Key) (lo_e (fun hf kn => ld_field (r := [.int .i64 z6.Kind, .string z6.Key, .int .u64 z6.Val]) ag_9 (kn.cellsAt cl21) rfl))) ?_
              refine go_nil ?_
              refine go_sop rfl rfl ?_
              refine g_do rfl rfl rfl ?_
              refine gr rfl (r_bin (ot rfl) (ot rfl) rfl) ?_
              refine go_nil ?_
              refine go_sop rfl rfl ?_
              refine gr rfl (r_pkF (ot rfl) (ot rfl)) ?_
              refine go_nil ?_
              refine go_sop rfl rfl ?_
              refine gM rfl rfl ?_
              refine go_nil ?_
              rcases Bool.eq_false_or_eq_true (!eqB x11.1.Key z6.Key) with hb22 | hb22
              ·
                replace hF := ifT hb22 hF
                refine go_re 68 (v2 := .bool true) rfl (congrArg Value.bool hb22) ?_
                refine go_sskip rfl (w_no rfl rfl rfl rfl rfl) ?_
                refine g_no rfl rfl rfl rfl rfl ?_
                refine go_nil ?_
                refine go_sskip rfl (w_no rfl rfl rfl rfl rfl) ?_
                refine g_no rfl rfl rfl rfl rfl ?_
                refine go_nil ?_
                refine go_sskip rfl (w_no rfl rfl rfl rfl rfl) ?_
                refine g_no rfl rfl rfl rfl rfl ?_
                refine go_nil ?_
                refine go_sop rfl rfl ?_
                refine gr rfl (r_pkT (ot rfl) (oc rfl)) ?_
                refine go_nil ?_
                refine go_sop rfl rfl ?_
                refine gM rfl rfl ?_
                refine go_nil ?_
                refine go_sskip rfl (w_no rfl rfl rfl rfl rfl) ?_
                refine g_no rfl rfl rfl rfl rfl ?_
                refine go_nil ?_
                refine go_sskip rfl (w_no rfl rfl rfl rfl rfl) ?_
                refine g_no rfl rfl rfl rfl rfl ?_
                refine go_nil ?_
                refine go_sskip rfl (w_no rfl rfl rfl rfl rfl) ?_
                refine g_no rfl rfl rfl rfl rfl ?_
                refine go_nil ?_
                refine go_sskip rfl (w_no rfl rfl rfl rfl rfl) ?_
                refine g_no rfl rfl rfl rfl rfl ?_
                refine go_nil ?_
                refine go_sskip rfl (w_no rfl rfl rfl rfl rfl) ?_
                refine g_no rfl rfl rfl rfl rfl ?_
                refine go_nil ?_
                refine go_sskip rfl (w_no rfl rfl rfl rfl rfl) ?_
                refine g_no rfl rfl rfl rfl rfl ?_
                refine go_nil ?_
                refine go_sop rfl rfl ?_
                refine gr rfl (r_pkT (ot rfl) (oc rfl)) ?_
                refine go_nil ?_
                refine go_snil ?_
                obtain rfl := someI hF
                exact Goes.weak (J17 (q11_y0_1, t11_y0_1, q11_y0_2, t11_y0_2, q11_y0o0_0, t11_y0o0_0) _ (HExt.refl _) w16 ⟨(f11_0.ext e16.kn), (f11_1.ext e16.kn), (f11_2.ext e16.kn)⟩) (Sub.cons (Sub.cons (Sub.cons (Sub.cons (Sub.cons (Sub.cons (Sub.cons (Sub.cons (Sub.cons (Sub.cons (Sub.cons (Sub.cons (Sub.cons (Sub.cons (Sub.cons (Sub.cons (Sub.cons (Sub.cons (Sub.cons (Sub.cons (Sub.cons (Sub.cons (Sub.cons (Sub.cons (Sub.cons (Sub.cons (Sub.cons (Sub.cons (Sub.cons (Sub.cons (Sub.cons (Sub.cons (Sub.cons (Sub.cons (Sub.cons (Sub.cons (Sub.cons (Sub.cons (Sub.cons (Sub.cons (Sub.cons (Sub.cons (Sub.cons (Sub.cons (Sub.cons (Sub.cons (Sub.cons (Sub.cons (Sub.cons (Sub.cons (Sub.cons (Sub.cons (Sub.cons (Sub.nil _) rfl) rfl) rfl) rfl) rfl) rfl) rfl) rfl) rfl) rfl) rfl) rfl) rfl) rfl) rfl) rfl) rfl) rfl) rfl) rfl) rfl) rfl) rfl) rfl) rfl) rfl) rfl) rfl) rfl) rfl) rfl) rfl) rfl) rfl) rfl) rfl) rfl) rfl) rfl) rfl) rfl) rfl) rfl) rfl) rfl) rfl) rfl) rfl) rfl) rfl) rfl) rfl) rfl)
              ·
                replace hF := ifF hb22 hF
                refine go_re 68 (v2 := .bool false) rfl (congrArg Value.bool hb22) ?_
                refine go_sop rfl rfl ?_
                refine g_do rfl rfl rfl ?_
                refine gr rfl (r_fa (ot rfl) (fa_32_3 _ _)) ?_
                refine go_nil ?_
                refine go_sop rfl rfl ?_
                refine g_do rfl rfl rfl ?_
                refine gr rfl (r_load (ot rfl) (lm_s (mem_seg 0 rfl) ag_30 rfl)) ?_
                refine go_nil ?_
                refine go_sop rfl rfl ?_
                refine g_do rfl rfl rfl ?_
                refine gr rfl (r_bin (ot rfl) (oc rfl) rfl) ?_
                refine go_nil ?_
                refine go_sop rfl rfl ?_
                refine gr rfl (r_pkF (ot rfl) (ot rfl)) ?_
                refine go_nil ?_
                refine go_sop rfl rfl ?_
                refine gM rfl rfl ?_
                refine go_nil ?_
                rcases Bool.eq_false_or_eq_true (x11.1.Err != 0) with hb23 | hb23
                ·
                  replace hF := ifT hb23 hF
                  refine go_re 73 (v2 := .bool true) rfl (congrArg Value.bool hb23) ?_
                  refine go_sskip rfl (w_no rfl rfl rfl rfl rfl) ?_
                  refine g_no rfl rfl rfl rfl rfl ?_
                  refine go_nil ?_
                  refine go_sskip rfl (w_no rfl rfl rfl rfl rfl) ?_
                  refine g_no rfl rfl rfl rfl rfl ?_
                  refine go_nil ?_
                  refine go_sskip rfl (w_no rfl rfl rfl rfl rfl) ?_
                  refine g_no rfl rfl rfl rfl rfl ?_
                  refine go_nil ?_
                  refine go_sskip rfl (w_no rfl rfl rfl rfl rfl) ?_
                  refine g_no rfl rfl rfl rfl rfl ?_
                  refine go_nil ?_
                  refine go_sskip rfl (w_no rfl rfl rfl rfl rfl) ?_
                  refine g_no rfl rfl rfl rfl rfl ?_
                  refine go_nil ?_
                  refine go_sskip rfl (w_no rfl rfl rfl rfl rfl) ?_
                  refine g_no rfl rfl rfl rfl rfl ?_
                  refine go_nil ?_
                  refine go_sop rfl rfl ?_
                  refine gr rfl (r_pkT (ot rfl) (oc rfl)) ?_
                  refine go_nil ?_
                  refine go_snil ?_
                  obtain rfl := someI hF
                  exact Goes.weak (J17 (q11_y0_1, t11_y0_1, q11_y0_2, t11_y0_2, q11_y0o0_0, t11_y0o0_0) _ (HExt.refl _) w16 ⟨(f11_0.ext e16.kn), (f11_1.ext e16.kn), (f11_2.ext e16.kn)⟩) (Sub.cons (Sub.cons (Sub.cons (Sub.cons (Sub.cons (Sub.cons (Sub.cons (Sub.cons (Sub.cons (Sub.cons (Sub.cons (Sub.cons (Sub.cons (Sub.cons (Sub.cons (Sub.cons (Sub.cons (Sub.cons (Sub.cons (Sub.cons (Sub.cons (Sub.cons (Sub.cons (Sub.cons (Sub.cons (Sub.cons (Sub.cons (Sub.cons (Sub.cons (Sub.cons (Sub.cons (Sub.cons (Sub.cons (Sub.cons (Sub.cons (Sub.cons (Sub.cons (Sub.cons (Sub.cons (Sub.cons (Sub.cons (Sub.cons (Sub.cons (Sub.cons (Sub.cons (Sub.cons (Sub.cons (Sub.cons (Sub.cons (Sub.cons (Sub.cons (Sub.cons (Sub.cons (Sub.nil _) rfl) rfl) rfl) rfl) rfl) rfl) rfl) rfl) rfl) rfl) rfl) rfl) rfl) rfl) rfl) rfl) rfl) rfl) rfl) rfl) rfl) rfl) rfl) rfl) rfl) rfl) rfl) rfl) rfl) rfl) rfl) rfl) rfl) rfl) rfl) rfl) rfl) rfl) rfl) rfl) rfl) rfl) rfl) rfl) rfl) rfl) rfl) rfl) rfl) rfl) rfl) rfl) rfl)
                ·
                  replace hF := ifF hb23 hF
                  refine go_re 73 (v2 := .bool false) rfl (congrArg Value.bool hb23) ?_
                  refine go_sop rfl rfl ?_
                  refine g_do rfl rfl rfl ?_
                  refine gM rfl rfl ?_
                  refine go_nil ?_
                  refine go_sop rfl rfl ?_
                  refine g_do rfl rfl rfl ?_
                  refine gM rfl rfl ?_
                  refine go_nil ?_
                  refine go_sop rfl rfl ?_
                  refine g_do rfl rfl rfl ?_
                  replace hF := obind hF
                  obtain ⟨x24, hx24, hF⟩ := hF
                  refine gs_call EE_fr w16 (.cons (.s (.z)) (.cons (.s (.z)) (.cons (.s (.z)) (.cons (.s (.z)) (.cons (.s (.z)) .nil))))) (fun _ h => by cases h; rfl) of (os1 (ot rfl) os0) hb_17 (by exact s_bst_Tree_Keys n w16 (⟨x11.2.1.nodes, x11.2.1.infos⟩ : Obst_Tree) (⟨x11.2.2.1.cells, x11.2.2.1.count⟩ : Omem_Mem) (f11_0.ext e16.kn) (f11_1.ext e16.kn) (f11_2.ext e16.kn) hx24) ?_
                  rintro v24 S24 h24 e24 w24 ⟨q24_y0_1, t24_y0_1, q24_y0_2, t24_y0_2, q24_y0o0_0, t24_y0o0_0, a24_0, c24_0, rfl, rfl, f24_0, f24_1, f24_2, f24_3⟩
                  simp only [List.cons_append, List.nil_append]
                  refine go_nil ?_
                  refine go_sop rfl rfl ?_
                  refine g_do rfl rfl rfl ?_
                  replace hF := obind hF
                  obtain ⟨x25, hx25, hF⟩ := hF
                  refine g_call EE_fr (fun _ h => by cases h; rfl) of (os1 (ot rfl) os0) hb_18 (fun hf kn w => by exact s_ref15_Keys w x16.1 ((f16_0.ext e24.kn).ext kn) hx25) ?_
                  rintro v25 h25 e25 w25 ⟨a25_0, c25_0, rfl, f25_0⟩
                  refine go_nil ?_
                  refine go_sop rfl rfl ?_
                  refine g_do rfl rfl rfl ?_
                  replace hF := obind hF
                  obtain ⟨x26, hx26, hF⟩ := hF
                  refine g_callp (v := .bool x26) EE_fr rfl of (os1 (ot rfl) (os1 (ot rfl) os0)) hb_16 (fun _ => rfl) (fun hf kn w => by exact s_ref15_Same w x24.1 x25 ((f24_3.ext e25.kn).ext kn) (f25_0.ext kn) hx26) ?_
                  refine go_nil ?_
                  refine go_sop rfl rfl ?_
                  refine g_do rfl rfl rfl ?_
                  refine gr rfl (r_un (ot rfl) rfl) ?_
                  refine go_nil ?_
                  refine go_sop rfl rfl ?_
                  refine gr rfl (r_pkF (ot rfl) (ot rfl)) ?_
                  refine go_nil ?_
                  refine go_snil ?_
                  obtain rfl := someI hF
                  refine gs_perm (perm_of (d := []) _ [5, 0, 1, 2, 3, 4, 6, 7] rfl) ?_
                  exact Goes.weak (J17 (q24_y0_1, t24_y0_1, q24_y0_2, t24_y0_2, q24_y0o0_0, t24_y0o0_0) _ (e24.trans e25) w25 ⟨(f24_0.ext e25.kn), (f24_1.ext e25.kn), (f24_2.ext e25.kn)⟩) (Sub.cons (Sub.cons (Sub.cons (Sub.cons (Sub.cons (Sub.cons (Sub.cons (Sub.cons (Sub.cons (Sub.cons (Sub.cons (Sub.cons (Sub.cons (Sub.cons (Sub.cons (Sub.cons (Sub.cons (Sub.cons (Sub.cons (Sub.cons (Sub.cons (Sub.cons (Sub.cons (Sub.cons (Sub.cons (Sub.cons (Sub.cons (Sub.cons (Sub.cons (Sub.cons (Sub.cons (Sub.cons (Sub.cons (Sub.cons (Sub.cons (Sub.cons (Sub.cons (Sub.cons (Sub.cons (Sub.cons (Sub.cons (Sub.cons (Sub.cons (Sub.cons (Sub.cons (Sub.cons (Sub.cons (Sub.cons (Sub.cons (Sub.cons (Sub.cons (Sub.cons (Sub.cons (Sub.nil _) rfl) rfl) rfl) rfl) rfl) rfl) rfl) rfl) rfl) rfl) rfl) rfl) rfl) rfl) rfl) rfl) rfl) rfl) rfl) rfl) rfl) rfl) rfl) rfl) rfl) rfl) rfl) rfl) rfl) rfl) rfl) rfl) rfl) rfl) rfl) rfl) rfl) rfl) rfl) rfl) rfl) rfl) rfl) rfl) rfl) rfl) rfl) rfl) rfl) rfl) rfl) rfl) rfl)
      ·
        replace hF := ifF hc8 hF
        refine go_exit rfl ?_
        obtain rfl := someI hF
        exact Goes.weak (J5 ((y6_1, y6_2, y6_3, y6_4), a6_2, a6_3, a6_4, a6_5, a6_6, a6_7) _ e6 w6 ⟨rfl, f6_1, f6_2, f6_3⟩) (Sub.cons (Sub.cons (Sub.nil _) rfl) rfl)
end Go.Proofs.Ytndhbaidibioeaa.V
