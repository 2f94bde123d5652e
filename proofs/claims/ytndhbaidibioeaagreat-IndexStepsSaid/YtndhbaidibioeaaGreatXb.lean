/- Walks.
   No condition: these are laws of the clean machine and of this program. -/
import Derived.Test.YtndhbaidibioeaaGreatXa
namespace Go.Proofs.YtndhbaidibioeaaGreat.V
open Go
set_option linter.unusedVariables false
set_option linter.unusedSimpArgs false
set_option maxRecDepth 100000
set_option maxHeartbeats 4000000
theorem s_bst_Call_Step (n : Nat) {h : Heap} (hw : Wf h) (p0 : Obst_Tree) (p0o0 : Omem_Mem) (p1 : Obst_Call_2) {bp0 bp0_1 : Nat} {z0 : List Blk} {bp1 : Nat} {z1 : List Blk} (y0 : Zbst_Tree h bp0 bp0_1 z0 p0 p0o0) (y1 : Zbst_Call_2 h bp0 bp1 z1 p1) {r : Bool × Obst_Tree × Omem_Mem × Obst_Call_2} (hF : F_bst_Call_Step n p0 p0o0 p1 = some r) :
 EvO EE 65 [pt bp1] [z0, z1] h (fun v S h1 => ∃ zy0 zy1, v = .bool r.1 ∧ S = [zy0, zy1] ∧ Zbst_Tree h1 bp0 bp0_1 zy0 r.2.1 r.2.2.1 ∧ Zbst_Call_2 h1 bp0 bp1 zy1 r.2.2.2) := by
 unfold F_bst_Call_Step at hF
 refine evo_of rfl at_65 rfl rfl ?_
 refine go_seq (go_region (gAc rfl rfl (go_nil (go_seq (go_seq (go_region (gM rfl rfl (gr rfl (r_bin (v := .bool false) (ot rfl) (oc rfl) (by first | rfl | kernel_rfl)) (gM rfl rfl (g_do rfl rfl rfl (gM rfl rfl (g_do rfl rfl rfl (gN rfl rfl (g_do rfl rfl rfl (gF (fa_146_1 _ _) rfl rfl (g_do rfl rfl rfl (gs_front (.s (.z)) ?_)))))))))))))))))
 obtain ⟨v3z_4, t3z_4, rfl, f3z0⟩ := y1
 refine gs_unz ?_
 simp only [ca_, na_]
 refine gls 0 ag_135 rfl rfl rfl rfl (g_do rfl rfl rfl (gr rfl (r_bin (v := .bool ((p1.next).isNone)) (ot rfl) (oc rfl) (OC.eqn f3z0)) (gr rfl (r_pkF (ot rfl) (ot rfl)) (go_nil ?_))))
 refine g_cond (b := (p1.next).isNone) (ot rfl) (fun hc4 => ?_) (fun hc4 => ?_)
 ·
  replace hF := ifT hc4 hF
  refine go_seq (go_region (gAc rfl rfl (go_nil (gs_pack (fun s => Zbst_Call_2 h bp0 bp1 s p1) (.cons .z (.cons .z .nil)) ⟨_, _, rfl, f3z0⟩ fun z5p y5p => ?_))))
  obtain rfl := someI hF
  exact g_retO (rst rfl rs0) (.cons (.s (.z)) (.cons .z .nil)) (HExt.refl _) hw (nd1 y0.nd (nd1 y5p.nd nd0)) ⟨_, _, rfl, rfl, y0, y5p⟩
 ·
  replace hF := ifF hc4 hF
  refine go_skip (go_seq (go_region (gM rfl rfl (gM rfl rfl (gN rfl rfl (gF (fa_146_1 _ _) rfl rfl (gls 0 ag_135 rfl rfl rfl rfl ?_)))))))
  obtain ⟨x7, hx7, hF⟩ := obind hF
  have co7 := OC.get f3z0 hx7
  refine gs_pack (fun s => Zbst_Call h bp1 s (⟨p1.told_Ok, p1.told_Key, p1.told_Val, p1.told_Err⟩ : Obst_Call)) (.cons .z .nil) ⟨_, rfl⟩ fun z8p y8p => ?_
  obtain ⟨x6, hx6, hF⟩ := obind hF
  refine gs_calld EE_fr hw (.cons (.s (.s (.z))) (.cons .z (.cons .z .nil))) (fun _ h => by cases h; rfl) (ot rfl) os0 (by exact (F_step_ok n) hw p0 p0o0 (⟨p1.told_Ok, p1.told_Key, p1.told_Val, p1.told_Err⟩ : Obst_Call) y0 y8p x7 Arg.u t3z_4 co7 hx6) ?_
  rintro _ _ h6 e6 w6 ⟨z6_y0, z6_y1, v6_r, t6_r, rfl, rfl, f6_0, f6_1, f6_2⟩
  simp only [ca_, na_]
  refine gN rfl rfl (gF (fa_146_1 _ _) rfl rfl (gs_front (.s (.z)) ?_))
  obtain ⟨v9z_4, rfl⟩ := f6_1
  refine gs_unz ?_
  simp only [ca_, na_]
  refine gs_store (ot rfl) (ot rfl) sz_135 (OC.sz f6_2) (OC.one f6_2) rfl (OC.okc f6_2) rfl .z (go_nil (go_seq (go_region (gM rfl rfl (gN rfl rfl (gF (fa_146_1 _ _) rfl rfl (gls 0 ag_135 rfl rfl rfl rfl (gr rfl (r_bin (v := .bool ((x6.1).isNone)) (ot rfl) (oc rfl) (OC.eqn f6_2)) (gA rfl rfl (go_nil (gs_pack (fun s => Zbst_Call_2 h6 bp0 bp1 s (⟨x6.2.2.2.told_Ok, x6.2.2.2.told_Key, x6.2.2.2.told_Val, x6.2.2.2.told_Err, x6.1⟩ : Obst_Call_2)) (.cons .z (.cons (.s (.z)) .nil)) ⟨_, _, rfl, f6_2⟩ fun z10p y10p => ?_)))))))))))
  obtain rfl := someI hF
  exact g_retO (rst rfl rs0) (.cons (.s (.z)) (.cons .z .nil)) e6 w6 (nd1 f6_0.nd (nd1 y10p.nd nd0)) ⟨_, _, rfl, rfl, f6_0, y10p⟩
theorem s_bst_Call_Answer {h : Heap} (hw : Wf h) (p0 : Obst_Tree) (p0o0 : Omem_Mem) (p1 : Obst_Call_2) {bp0 bp0_1 : Nat} {z0 : List Blk} {bp1 : Nat} {z1 : List Blk} (y0 : Zbst_Tree h bp0 bp0_1 z0 p0 p0o0) (y1 : Zbst_Call_2 h bp0 bp1 z1 p1) {r : Tbst_Answer × Bool × Obst_Tree × Omem_Mem × Obst_Call_2} (hF : F_bst_Call_Answer p0 p0o0 p1 = some r) :
 EvO EE 44 [pt bp1] [z0, z1] h (fun v S h1 => ∃ zy0 zy1, v = .tuple #[.agg #[.bool r.1.Ok, .string r.1.Key, .int .u64 r.1.Val, .int .i64 r.1.Err], .bool r.2.1] ∧ S = [zy0, zy1] ∧ Zbst_Tree h1 bp0 bp0_1 zy0 r.2.2.1 r.2.2.2.1 ∧ Zbst_Call_2 h1 bp0 bp1 zy1 r.2.2.2.2) := by
 unfold F_bst_Call_Answer at hF
 refine evo_of rfl at_44 rfl rfl ?_
 refine go_seq (go_region (gs_alloc rfl zo_95 rfl (fun b2_3 => gAc rfl rfl (go_nil (go_seq (go_seq (go_region (gM rfl rfl (gr rfl (r_bin (v := .bool false) (ot rfl) (oc rfl) (by first | rfl | kernel_rfl)) (gM rfl rfl (g_do rfl rfl rfl (gM rfl rfl (g_do rfl rfl rfl (gN rfl rfl (g_do rfl rfl rfl (gF (fa_146_1 _ _) rfl rfl (g_do rfl rfl rfl (gs_front (.s (.s (.z))) ?_))))))))))))))))))
 obtain ⟨v4z_4, t4z_4, rfl, f4z0⟩ := y1
 refine gs_unz ?_
 simp only [ca_, na_]
 refine gls 0 ag_135 rfl rfl rfl rfl (g_do rfl rfl rfl (gr rfl (r_bin (v := .bool ((p1.next).isSome)) (ot rfl) (oc rfl) (OC.nen f4z0)) (gr rfl (r_pkF (ot rfl) (ot rfl)) (go_nil ?_))))
 refine g_cond (b := (p1.next).isSome) (ot rfl) (fun hc5 => ?_) (fun hc5 => ?_)
 ·
  replace hF := ifT hc5 hF
  refine go_seq (go_region (gr rfl (r_build op0 rfl) (gs_store (ot rfl) (ot rfl) sz_95 rfl rfl rfl rfl rfl (.s (.s (.z))) (gAc rfl rfl (go_nil (gs_pack (fun s => Zbst_Call_2 h bp0 bp1 s p1) (.cons .z (.cons .z .nil)) ⟨_, _, rfl, f4z0⟩ fun z6p y6p => ?_))))))
  obtain rfl := someI hF
  exact g_retO (rsc rfl (lm_w (mem_seg 1 rfl) ag_95 sz_95 rfl) (rst rfl rs0)) (.cons (.s (.s (.z))) (.cons .z .nil)) (HExt.refl _) hw (nd1 y0.nd (nd1 y6p.nd nd0)) ⟨_, _, rfl, rfl, y0, y6p⟩
 ·
  replace hF := ifF hc5 hF
  refine go_skip (go_seq (go_region (gM rfl rfl (gN rfl rfl (gF (fa_146_0 _ _) rfl rfl (gr rfl (r_load (ot rfl) (lm_a (vs := [_, _, _, _]) (mem_seg 0 rfl) ag_95 sz_95 rfl rfl)) (gs_store (ot rfl) (ot rfl) sz_95 rfl rfl rfl rfl rfl (.s (.s (.z))) (gAc rfl rfl (go_nil (gs_pack (fun s => Zbst_Call_2 h bp0 bp1 s p1) (.cons .z (.cons .z .nil)) ⟨_, _, rfl, f4z0⟩ fun z7p y7p => ?_))))))))))
  obtain rfl := someI hF
  exact g_retO (rsc rfl (lm_w (mem_seg 1 rfl) ag_95 sz_95 rfl) (rst rfl rs0)) (.cons (.s (.s (.z))) (.cons .z .nil)) (HExt.refl _) hw (nd1 y0.nd (nd1 y7p.nd nd0)) ⟨_, _, rfl, rfl, y0, y7p⟩
end Go.Proofs.YtndhbaidibioeaaGreat.V
