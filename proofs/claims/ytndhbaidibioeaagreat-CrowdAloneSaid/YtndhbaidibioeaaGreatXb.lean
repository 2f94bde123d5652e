/- Walks.
   No condition: these are laws of the clean machine and of this program. -/
import Derived.Test.YtndhbaidibioeaaGreatXa
namespace Go.Proofs.YtndhbaidibioeaaGreat.V
open Go
set_option linter.unusedVariables false
set_option linter.unusedSimpArgs false
set_option maxRecDepth 100000
set_option maxHeartbeats 4000000
theorem s_bst_Call_Step (n : Nat) {h : Heap} (hw : Wf h) (p0 : Obst_Tree) (p0o0 : Omem_Mem) (p1 : Obst_Call_2) {bp0 bp0_1 : Nat} {z0 : List Blk} {bp1 : Nat} {z1 : List Blk} (y0 : Zbst_Tree h bp0 bp0_1 z0 p0 p0o0) (y1 : Zbst_Call_2 h bp0 bp1 z1 p1) {r : Bool × Obst_Tree × Omem_Mem × Obst_Call_2} (hF : F_bst_Call_Step n p0 p0o0 p1 = some r) :
 EvO EE 65 [pt bp1] [z0, z1] h (fun v S h1 => ∃ zy0 zy1, v = .bool r.1 ∧ S = [zy0, zy1] ∧ Zbst_Tree h1 bp0 bp0_1 zy0 r.2.1 r.2.2.1 ∧ Zbst_Call_2 h1 bp0 bp1 zy1 r.2.2.2) := by
 unfold F_bst_Call_Step at hF
 refine evo_of rfl at_65 rfl rfl ?_
 refine go_seq (go_region (gAc rfl rfl (go_nil (go_seq (go_seq (go_region (gM rfl rfl (gr rfl (r_bin (v := .bool false) (ot rfl) (oc rfl) (by first | rfl | kernel_rfl)) (gM rfl rfl (g_do rfl rfl rfl (gM rfl rfl (g_do rfl rfl rfl (gN rfl rfl (g_do rfl rfl rfl (gF (fa_146_1 _ _) rfl rfl (g_do rfl rfl rfl (gs_front (.s (.z)) ?_)))))))))))))))))
 obtain ⟨v3z_4, t3z_4, rfl, f3z0⟩ := y1
 refine gs_unz ?_
 simp only [ca_, na_]
 refine gls 0 ag_135 rfl rfl rfl rfl (g_do rfl rfl rfl (gr rfl (r_bin (v := .bool ((p1.next).isNone)) (ot rfl) (oc rfl) (OC.eqn f3z0)) (gr rfl (r_pkF (ot rfl) (ot rfl)) (go_nil ?_))))
 refine g_cond (b := (p1.next).isNone) (ot rfl) (fun hc4 => ?_) (fun hc4 => ?_)
 ·
  replace hF := ifT hc4 hF
  refine go_seq (go_region (gAc rfl rfl (go_nil (gs_pack (fun s => Zbst_Call_2 h bp0 bp1 s p1) (.cons .z (.cons .z .nil)) ⟨_, _, rfl, f3z0⟩ fun z5p y5p => ?_))))
  obtain rfl := someI hF
  exact g_retO (rst rfl rs0) (.cons (.s (.z)) (.cons .z .nil)) (HExt.refl _) hw (nd1 y0.nd (nd1 y5p.nd nd0)) ⟨_, _, rfl, rfl, y0, y5p⟩
 ·
  replace hF := ifF hc4 hF
  refine go_skip (go_seq (go_region (gM rfl rfl (gM rfl rfl (gN rfl rfl (gF (fa_146_1 _ _) rfl rfl (gls 0 ag_135 rfl rfl rfl rfl ?_)))))))
  obtain ⟨x7, hx7, hF⟩ := obind hF
  have co7 := OC.get f3z0 hx7
  refine gs_pack (fun s => Zbst_Call h bp1 s (⟨p1.told_Ok, p1.told_Key, p1.told_Val, p1.told_Err⟩ : Obst_Call)) (.cons .z .nil) ⟨_, rfl⟩ fun z8p y8p => ?_
  obtain ⟨x6, hx6, hF⟩ := obind hF
  refine gs_calld EE_fr hw (.cons (.s (.s (.z))) (.cons .z (.cons .z .nil))) (fun _ h => by cases h; rfl) (ot rfl) os0 (by exact (F_step_ok n) hw p0 p0o0 (⟨p1.told_Ok, p1.told_Key, p1.told_Val, p1.told_Err⟩ : Obst_Call) y0 y8p x7 Arg.u t3z_4 co7 hx6) ?_
  rintro _ _ h6 e6 w6 ⟨z6_y0, z6_y1, v6_r, t6_r, rfl, rfl, f6_0, f6_1, f6_2⟩
  simp only [ca_, na_]
  refine gN rfl rfl (gF (fa_146_1 _ _) rfl rfl (gs_front (.s (.z)) ?_))
  obtain ⟨v9z_4, rfl⟩ := f6_1
  refine gs_unz ?_
  simp only [ca_, na_]
  refine gs_store (ot rfl) (ot rfl) sz_135 (OC.sz f6_2) (OC.one f6_2) rfl (OC.okc f6_2) rfl .z (go_nil (go_seq (go_region (gM rfl rfl (gN rfl rfl (gF (fa_146_1 _ _) rfl rfl (gls 0 ag_135 rfl rfl rfl rfl (gr rfl (r_bin (v := .bool ((x6.1).isNone)) (ot rfl) (oc rfl) (OC.eqn f6_2)) (gA rfl rfl (go_nil (gs_pack (fun s => Zbst_Call_2 h6 bp0 bp1 s (⟨x6.2.2.2.told_Ok, x6.2.2.2.told_Key, x6.2.2.2.told_Val, x6.2.2.2.told_Err, x6.1⟩ : Obst_Call_2)) (.cons .z (.cons (.s (.z)) .nil)) ⟨_, _, rfl, f6_2⟩ fun z10p y10p => ?_)))))))))))
  obtain rfl := someI hF
  exact g_retO (rst rfl rs0) (.cons (.s (.z)) (.cons .z .nil)) e6 w6 (nd1 f6_0.nd (nd1 y10p.nd nd0)) ⟨_, _, rfl, rfl, f6_0, y10p⟩
theorem s_bst_Call_Answer {h : Heap} (hw : Wf h) (p0 : Obst_Tree) (p0o0 : Omem_Mem) (p1 : Obst_Call_2) {bp0 bp0_1 : Nat} {z0 : List Blk} {bp1 : Nat} {z1 : List Blk} (y0 : Zbst_Tree h bp0 bp0_1 z0 p0 p0o0) (y1 : Zbst_Call_2 h bp0 bp1 z1 p1) {r : Tbst_Answer × Bool × Obst_Tree × Omem_Mem × Obst_Call_2} (hF : F_bst_Call_Answer p0 p0o0 p1 = some r) :
 EvO EE 44 [pt bp1] [z0, z1] h (fun v S h1 => ∃ zy0 zy1, v = .tuple #[.agg #[.bool r.1.Ok, .string r.1.Key, .int .u64 r.1.Val, .int .i64 r.1.Err], .bool r.2.1] ∧ S = [zy0, zy1] ∧ Zbst_Tree h1 bp0 bp0_1 zy0 r.2.2.1 r.2.2.2.1 ∧ Zbst_Call_2 h1 bp0 bp1 zy1 r.2.2.2.2) := by
 unfold F_bst_Call_Answer at hF
 refine evo_of rfl at_44 rfl rfl ?_
 refine go_seq (go_region (gs_alloc rfl zo_95 rfl (fun b2_3 => gAc rfl rfl (go_nil (go_seq (go_seq (go_region (gM rfl rfl (gr rfl (r_bin (v := .bool false) (ot rfl) (oc rfl) (by first | rfl | kernel_rfl)) (gM rfl rfl (g_do rfl rfl rfl (gM rfl rfl (g_do rfl rfl rfl (gN rfl rfl (g_do rfl rfl rfl (gF (fa_146_1 _ _) rfl rfl (g_do rfl rfl rfl (gs_front (.s (.s (.z))) ?_))))))))))))))))))
 obtain ⟨v4z_4, t4z_4, rfl, f4z0⟩ := y1
 refine gs_unz ?_
 simp only [ca_, na_]
 refine gls 0 ag_135 rfl rfl rfl rfl (g_do rfl rfl rfl (gr rfl (r_bin (v := .bool ((p1.next).isSome)) (ot rfl) (oc rfl) (OC.nen f4z0)) (gr rfl (r_pkF (ot rfl) (ot rfl)) (go_nil ?_))))
 refine g_cond (b := (p1.next).isSome) (ot rfl) (fun hc5 => ?_) (fun hc5 => ?_)
 ·
  replace hF := ifT hc5 hF
  refine go_seq (go_region (gr rfl (r_build op0 rfl) (gs_store (ot rfl) (ot rfl) sz_95 rfl rfl rfl rfl rfl (.s (.s (.z))) (gAc rfl rfl (go_nil (gs_pack (fun s => Zbst_Call_2 h bp0 bp1 s p1) (.cons .z (.cons .z .nil)) ⟨_, _, rfl, f4z0⟩ fun z6p y6p => ?_))))))
  obtain rfl := someI hF
  exact g_retO (rsc rfl (lm_w (mem_seg 1 rfl) ag_95 sz_95 rfl) (rst rfl rs0)) (.cons (.s (.s (.z))) (.cons .z .nil)) (HExt.refl _) hw (nd1 y0.nd (nd1 y6p.nd nd0)) ⟨_, _, rfl, rfl, y0, y6p⟩
 ·
  replace hF := ifF hc5 hF
  refine go_skip (go_seq (go_region (gM rfl rfl (gN rfl rfl (gF (fa_146_0 _ _) rfl rfl (gr rfl (r_load (ot rfl) (lm_a (vs := [_, _, _, _]) (mem_seg 0 rfl) ag_95 sz_95 rfl rfl)) (gs_store (ot rfl) (ot rfl) sz_95 rfl rfl rfl rfl rfl (.s (.s (.z))) (gAc rfl rfl (go_nil (gs_pack (fun s => Zbst_Call_2 h bp0 bp1 s p1) (.cons .z (.cons .z .nil)) ⟨_, _, rfl, f4z0⟩ fun z7p y7p => ?_))))))))))
  obtain rfl := someI hF
  exact g_retO (rsc rfl (lm_w (mem_seg 1 rfl) ag_95 sz_95 rfl) (rst rfl rs0)) (.cons (.s (.s (.z))) (.cons .z .nil)) (HExt.refl _) hw (nd1 y0.nd (nd1 y7p.nd nd0)) ⟨_, _, rfl, rfl, y0, y7p⟩
theorem s_bst_Run (n : Nat) {h : Heap} (hw : Wf h) (p0 : Obst_Tree) (p0o0 : Omem_Mem) (p1 : Obst_Call_2) {bp0 bp0_1 : Nat} {z0 : List Blk} {bp1 : Nat} {z1 : List Blk} (y0 : Zbst_Tree h bp0 bp0_1 z0 p0 p0o0) (y1 : Zbst_Call_2 h bp0 bp1 z1 p1) {r : Tbst_Answer × Obst_Tree × Omem_Mem × Obst_Call_2} (hF : F_bst_Run n p0 p0o0 p1 = some r) :
 EvO EE 62 [pt bp1] [z0, z1] h (fun v S h1 => ∃ zy0 zy1, v = .agg #[.bool r.1.Ok, .string r.1.Key, .int .u64 r.1.Val, .int .i64 r.1.Err] ∧ S = [zy0, zy1] ∧ Zbst_Tree h1 bp0 bp0_1 zy0 r.2.1 r.2.2.1 ∧ Zbst_Call_2 h1 bp0 bp1 zy1 r.2.2.2) := by
 unfold F_bst_Run at hF
 refine evo_of rfl at_62 rfl rfl ?_
 refine go_seq (go_region (gs_alloc rfl zo_95 rfl (fun b2_3 => go_nil (go_seq ?_))))
 obtain ⟨s4, hF, hK4⟩ := obind hF
 refine go_joinc (β := List Blk × List Blk) (fun s h' => Zbst_Tree h' bp0 bp0_1 s.1 s4.1.1 s4.1.2 ∧ Zbst_Call_2 h' bp0 bp1 s.2 s4.2) (fun s => [(0, true, pt bp1), (2, true, pt b2_3)]) (fun s => (List.flatten [[⟨b2_3, .cells [.bool false, .string ByteArray.empty, .int .u64 0, .int .i64 0] 95⟩], s.1, s.2] : List Blk)) ?_ (fun J4 => ?_)
 ·
  rintro ⟨a4_0, a4_1⟩ h4 e4 w4 ⟨f4_0, f4_1⟩
  try dsimp only at f4_0 f4_1
  replace hF := hK4
  refine go_seq (go_region (gM rfl rfl ?_))
  obtain ⟨x5, hx5, hF⟩ := obind hF
  refine kcX EE_fr w4 (.cons (.s (.z)) (.cons (.s (.z)) .nil)) rfl of (ops_t rfl os0) hb_44 (s_bst_Call_Answer w4 s4.1.1 s4.1.2 s4.2 f4_0 f4_1 hx5) ?_
  rintro _ _ h5 e5 w5 ⟨z5_y0, z5_y1, rfl, rfl, f5_0, f5_1⟩
  simp only [ca_, na_]
  refine gM rfl rfl (gE rfl rfl rfl (gE rfl rfl rfl (gs_alloc rfl zo_95 rfl (fun b3_6 => gs_store (ot rfl) (ot rfl) sz_95 rfl rfl rfl rfl rfl .z (gA rfl rfl (go_nil (go_seq (go_region (glw 0 ag_95 sz_95 rfl rfl rfl rfl (gs_store (ot rfl) (ot rfl) sz_95 rfl rfl rfl rfl rfl (.s (.s (.s (.z)))) (go_nil ?_)))))))))))
  obtain rfl := someI hF
  exact g_retO (rsc rfl (lm_w (mem_seg 3 rfl) ag_95 sz_95 rfl) rs0) (.cons (.s (.z)) (.cons (.s (.z)) .nil)) (e4.trans e5) w5 (nd1 f5_0.nd (nd1 f5_1.nd nd0)) ⟨_, _, rfl, rfl, f5_0, f5_1⟩
 ·
  refine go_block ?_
  refine go_loop (α := Nat × (Obst_Tree × Omem_Mem) × (Obst_Call_2) × List Blk × List Blk × Heap) (fun a => HExt h a.2.2.2.2.2 ∧ Wf a.2.2.2.2.2 ∧ F_bst_Run_L1 n a.1 a.2.1 a.2.2.1 = some s4 ∧ Zbst_Tree a.2.2.2.2.2 bp0 bp0_1 a.2.2.2.1 a.2.1.1 a.2.1.2 ∧ Zbst_Call_2 a.2.2.2.2.2 bp0 bp1 a.2.2.2.2.1 a.2.2.1) (fun a => a.1) (fun a => [(0, true, pt bp1), (2, true, pt b2_3)]) (fun a => (List.flatten [[⟨b2_3, .cells [.bool false, .string ByteArray.empty, .int .u64 0, .int .i64 0] 95⟩], a.2.2.2.1, a.2.2.2.2.1] : List Blk)) (fun a => a.2.2.2.2.2) ?_ (n, (p0, p0o0), p1, z0, z1, h) ⟨HExt.refl _, hw, hF, y0, y1⟩ (Sub.cons (Sub.cons (Sub.nil _) rfl) rfl) rfl rfl
  rintro ⟨m7, y7_0, y7_1, a7_0, a7_1, h7⟩ ⟨e7, w7, hF, f7_0, f7_1⟩ ih7
  try dsimp only at f7_0 f7_1
  rcases m7 with _ | m7
  ·
   rw [F_bst_Run_L1.eq_1] at hF; cases hF
  ·
   rw [F_bst_Run_L1.eq_2] at hF
   refine go_seq (go_seq (go_region (gM rfl rfl ?_)))
   obtain ⟨x8, hx8, hF⟩ := obind hF
   refine kcX EE_fr w7 (.cons (.s (.z)) (.cons (.s (.z)) .nil)) rfl of (ops_t rfl os0) hb_65 (s_bst_Call_Step n w7 y7_0.1 y7_0.2 y7_1 f7_0 f7_1 hx8) ?_
   rintro _ _ h8 e8 w8 ⟨z8_y0, z8_y1, rfl, rfl, f8_0, f8_1⟩
   simp only [ca_, na_]
   refine gr rfl (r_un (ot rfl) rfl) (go_nil ?_)
   refine g_cond (b := (!x8.1)) (ot rfl) (fun hc9 => ?_) (fun hc9 => ?_)
   ·
    replace hF := ifT hc9 hF
    refine go_skip (go_block (go_skip (go_endb (gs_perm (perm_of (d := []) _ [2, 0, 1] rfl) ?_))))
    exact Goes.weak (ih7 (m7, (x8.2.1, x8.2.2.1), x8.2.2.2, z8_y0, z8_y1, h8) ⟨(e7.trans e8), w8, hF, f8_0, f8_1⟩ (Nat.lt_succ_self _)) (Sub.cons (Sub.cons (Sub.nil _) rfl) rfl)
   ·
    replace hF := ifF hc9 hF
    refine go_exit rfl ?_
    obtain rfl := someI hF
    refine gs_perm (perm_of (d := []) _ [2, 0, 1] rfl) ?_
    exact Goes.weak (J4 (z8_y0, z8_y1) _ (e7.trans e8) w8 ⟨f8_0, f8_1⟩) (Sub.cons (Sub.cons (Sub.nil _) rfl) rfl)
end Go.Proofs.YtndhbaidibioeaaGreat.V
