/- Walks.
   No condition: these are laws of the clean machine and of this program. -/
import Derived.Test.YtndhbaidibioeaaGreatJa
namespace Go.Proofs.YtndhbaidibioeaaGreat.V
open Go
set_option linter.unusedVariables false
set_option linter.unusedSimpArgs false
set_option maxRecDepth 100000
set_option maxHeartbeats 4000000
theorem s_index_Work_Step (n : Nat) {h : Heap} (hw : Wf h) (p0 : Obst_Tree) (p0o0 : Omem_Mem) (p0o1 : Ochain_Store) (p1 : Oindex_Work_2) {bp0 bp0_1 bp0_2 bp0_3 : Nat} {z0 : List Blk} {bp1 : Nat} {z1 : List Blk} (y0 : Zindex_Index h bp0 bp0_1 bp0_2 bp0_3 z0 p0 p0o0 p0o1) (y1 : Zindex_Work_2 h bp0 bp0_2 bp0_1 bp0_3 bp1 z1 p1) {r : Bool × Obst_Tree × Omem_Mem × Ochain_Store × Oindex_Work_2} (hF : F_index_Work_Step n p0 p0o0 p0o1 p1 = some r) :
 EvO EE 21 [pt bp1] [z0, z1] h (fun v S h1 => ∃ zy0 zy1, v = .bool r.1 ∧ S = [zy0, zy1] ∧ Zindex_Index h1 bp0 bp0_1 bp0_2 bp0_3 zy0 r.2.1 r.2.2.1 r.2.2.2.1 ∧ Zindex_Work_2 h1 bp0 bp0_2 bp0_1 bp0_3 bp1 zy1 r.2.2.2.2) := by
 unfold F_index_Work_Step at hF
 refine evo_of rfl at_21 rfl rfl ?_
 refine go_seq (go_region (gAc rfl rfl (go_nil (go_seq (go_seq (go_region (gM rfl rfl (gr rfl (r_bin (v := .bool false) (ot rfl) (oc rfl) (by first | rfl | kernel_rfl)) (gM rfl rfl (g_do rfl rfl rfl (gM rfl rfl (g_do rfl rfl rfl (gN rfl rfl (g_do rfl rfl rfl (gF (fa_88_1 _ _) rfl rfl (g_do rfl rfl rfl (gs_front (.s (.z)) ?_)))))))))))))))))
 obtain ⟨v3z_1, t3z_1, q3z_4, t3z_4, rfl, f3z0, f3z1⟩ := y1
 refine gs_unz ?_
 simp only [ca_, na_]
 refine gls 0 ag_84 rfl rfl rfl rfl (g_do rfl rfl rfl (gr rfl (r_bin (v := .bool ((p1.next).isNone)) (ot rfl) (oc rfl) (OCi.eqn f3z0)) (gr rfl (r_pkF (ot rfl) (ot rfl)) (go_nil ?_))))
 refine g_cond (b := (p1.next).isNone) (ot rfl) (fun hc4 => ?_) (fun hc4 => ?_)
 ·
  replace hF := ifT hc4 hF
  refine go_seq (go_region (gAc rfl rfl (go_nil (gs_pack (fun s => Zindex_Work_2 h bp0 bp0_2 bp0_1 bp0_3 bp1 s p1) (.cons .z (.cons .z (.cons .z .nil))) ⟨_, _, _, _, rfl, f3z0, f3z1⟩ fun z5p y5p => ?_))))
  obtain rfl := someI hF
  exact g_retO (rst rfl rs0) (.cons (.s (.z)) (.cons .z .nil)) (HExt.refl _) hw (nd1 y0.nd (nd1 y5p.nd nd0)) ⟨_, _, rfl, rfl, y0, y5p⟩
 ·
  replace hF := ifF hc4 hF
  refine go_skip (go_seq (go_region (gM rfl rfl (gM rfl rfl (gN rfl rfl (gF (fa_88_1 _ _) rfl rfl (gls 0 ag_84 rfl rfl rfl rfl ?_)))))))
  obtain ⟨x7, hx7, hF⟩ := obind hF
  have co7 := OCi.get f3z0 hx7
  refine gs_pack (fun s => Zindex_Work h bp0 bp1 s (⟨p1.cell, p1.bad, p1.found⟩ : Oindex_Work)) (.cons .z (.cons (.s (.z)) .nil)) ⟨_, _, _, rfl, f3z1⟩ fun z8p y8p => ?_
  obtain ⟨x6, hx6, hF⟩ := obind hF
  refine gs_calld EE_fr hw (.cons (.s (.s (.z))) (.cons .z (.cons .z .nil))) (fun _ h => by cases h; rfl) (ot rfl) os0 (by exact (F_istep_ok n) hw p0 p0o0 p0o1 (⟨p1.cell, p1.bad, p1.found⟩ : Oindex_Work) y0 y8p x7 Argi.u t3z_1 co7 hx6) ?_
  rintro _ _ h6 e6 w6 ⟨z6_y0, z6_y1, v6_r, t6_r, rfl, rfl, f6_0, f6_1, f6_2⟩
  simp only [ca_, na_]
  refine gN rfl rfl (gF (fa_88_1 _ _) rfl rfl (gs_front (.s (.z)) ?_))
  obtain ⟨v9z_1, q9z_4, t9z_4, rfl, f9z0⟩ := f6_1
  refine gs_unz ?_
  simp only [ca_, na_]
  refine gs_store (ot rfl) (ot rfl) sz_84 (OCi.sz f6_2) (OCi.one f6_2) rfl (OCi.okc f6_2) rfl .z (go_nil (go_seq (go_region (gM rfl rfl (gN rfl rfl (gF (fa_88_1 _ _) rfl rfl (gls 0 ag_84 rfl rfl rfl rfl (gr rfl (r_bin (v := .bool ((x6.1).isNone)) (ot rfl) (oc rfl) (OCi.eqn f6_2)) (gA rfl rfl (go_nil (gs_pack (fun s => Zindex_Work_2 h6 bp0 bp0_2 bp0_1 bp0_3 bp1 s (⟨x6.1, x6.2.2.2.2.cell, x6.2.2.2.2.bad, x6.2.2.2.2.found⟩ : Oindex_Work_2)) (.cons .z (.cons (.s (.s (.z))) (.cons .z .nil))) ⟨_, _, _, _, rfl, f6_2, f9z0⟩ fun z10p y10p => ?_)))))))))))
  obtain rfl := someI hF
  exact g_retO (rst rfl rs0) (.cons (.s (.z)) (.cons .z .nil)) e6 w6 (nd1 f6_0.nd (nd1 y10p.nd nd0)) ⟨_, _, rfl, rfl, f6_0, y10p⟩
theorem s_index_Run (n : Nat) {h : Heap} (hw : Wf h) (p0 : Obst_Tree) (p0o0 : Omem_Mem) (p0o1 : Ochain_Store) (p1 : Oindex_Work_2) {bp0 bp0_1 bp0_2 bp0_3 : Nat} {z0 : List Blk} {bp1 : Nat} {z1 : List Blk} (y0 : Zindex_Index h bp0 bp0_1 bp0_2 bp0_3 z0 p0 p0o0 p0o1) (y1 : Zindex_Work_2 h bp0 bp0_2 bp0_1 bp0_3 bp1 z1 p1) {r : Obst_Tree × Omem_Mem × Ochain_Store × Oindex_Work_2} (hF : F_index_Run n p0 p0o0 p0o1 p1 = some r) :
 EvO EE 14 [pt bp1] [z0, z1] h (fun v S h1 => ∃ zy0 zy1, v = pt bp1 ∧ S = [zy0, zy1] ∧ Zindex_Index h1 bp0 bp0_1 bp0_2 bp0_3 zy0 r.1 r.2.1 r.2.2.1 ∧ Zindex_Work_2 h1 bp0 bp0_2 bp0_1 bp0_3 bp1 zy1 r.2.2.2) := by
 unfold F_index_Run at hF
 refine evo_of rfl at_14 rfl rfl ?_
 refine go_seq (go_region (gAc rfl rfl (go_nil (go_seq ?_))))
 obtain ⟨s3, hF, hK3⟩ := obind hF
 refine go_joinc (β := List Blk × List Blk) (fun s h' => Zindex_Index h' bp0 bp0_1 bp0_2 bp0_3 s.1 s3.1.1 s3.1.2.1 s3.1.2.2 ∧ Zindex_Work_2 h' bp0 bp0_2 bp0_1 bp0_3 bp1 s.2 s3.2) (fun s => [(0, true, pt bp1), (2, true, .pointer none)]) (fun s => (List.flatten [s.1, s.2] : List Blk)) ?_ (fun J3 => ?_)
 ·
  rintro ⟨a3_0, a3_1⟩ h3 e3 w3 ⟨f3_0, f3_1⟩
  try dsimp only at f3_0 f3_1
  replace hF := hK3
  refine go_seq (go_region (gM rfl rfl (gA rfl rfl (go_nil ?_))))
  obtain rfl := someI hF
  exact g_retO (rst rfl rs0) (.cons .z (.cons .z .nil)) e3 w3 (nd1 f3_0.nd (nd1 f3_1.nd nd0)) ⟨_, _, rfl, rfl, f3_0, f3_1⟩
 ·
  refine go_block ?_
  refine go_loop (α := Nat × (Obst_Tree × Omem_Mem × Ochain_Store) × (Oindex_Work_2) × List Blk × List Blk × Heap) (fun a => HExt h a.2.2.2.2.2 ∧ Wf a.2.2.2.2.2 ∧ F_index_Run_L1 n a.1 a.2.1 a.2.2.1 = some s3 ∧ Zindex_Index a.2.2.2.2.2 bp0 bp0_1 bp0_2 bp0_3 a.2.2.2.1 a.2.1.1 a.2.1.2.1 a.2.1.2.2 ∧ Zindex_Work_2 a.2.2.2.2.2 bp0 bp0_2 bp0_1 bp0_3 bp1 a.2.2.2.2.1 a.2.2.1) (fun a => a.1) (fun a => [(0, true, pt bp1), (2, true, .pointer none)]) (fun a => (List.flatten [a.2.2.2.1, a.2.2.2.2.1] : List Blk)) (fun a => a.2.2.2.2.2) ?_ (n, (p0, p0o0, p0o1), p1, z0, z1, h) ⟨HExt.refl _, hw, hF, y0, y1⟩ (Sub.cons (Sub.cons (Sub.nil _) rfl) rfl) rfl rfl
  rintro ⟨m4, y4_0, y4_1, a4_0, a4_1, h4⟩ ⟨e4, w4, hF, f4_0, f4_1⟩ ih4
  try dsimp only at f4_0 f4_1
  rcases m4 with _ | m4
  ·
   rw [F_index_Run_L1.eq_1] at hF; cases hF
  ·
   rw [F_index_Run_L1.eq_2] at hF
   refine go_seq (go_seq (go_region (gM rfl rfl ?_)))
   obtain ⟨x5, hx5, hF⟩ := obind hF
   refine kcX EE_fr w4 (.cons .z (.cons .z .nil)) rfl of (ops_t rfl os0) hb_21 (s_index_Work_Step n w4 y4_0.1 y4_0.2.1 y4_0.2.2 y4_1 f4_0 f4_1 hx5) ?_
   rintro _ _ h5 e5 w5 ⟨z5_y0, z5_y1, rfl, rfl, f5_0, f5_1⟩
   simp only [ca_, na_]
   refine gr rfl (r_un (ot rfl) rfl) (go_nil ?_)
   refine g_cond (b := (!x5.1)) (ot rfl) (fun hc6 => ?_) (fun hc6 => ?_)
   ·
    replace hF := ifT hc6 hF
    refine go_skip (go_block (go_skip (go_endb ?_)))
    exact Goes.weak (ih4 (m4, (x5.2.1, x5.2.2.1, x5.2.2.2.1), x5.2.2.2.2, z5_y0, z5_y1, h5) ⟨(e4.trans e5), w5, hF, f5_0, f5_1⟩ (Nat.lt_succ_self _)) (Sub.cons (Sub.cons (Sub.nil _) rfl) rfl)
   ·
    replace hF := ifF hc6 hF
    refine go_exit rfl ?_
    obtain rfl := someI hF
    exact Goes.weak (J3 (z5_y0, z5_y1) _ (e4.trans e5) w5 ⟨f5_0, f5_1⟩) (Sub.cons (Sub.cons (Sub.nil _) rfl) rfl)
theorem s_chain_New {h : Heap} (hw : Wf h) (p0 : Omem_Mem) {bp0 : Nat} {z0 : List Blk} (y0 : Zmem_Mem h bp0 z0 p0) {r : Ochain_Store × Omem_Mem} (hF : F_chain_New p0 = some r) :
 EvO EE 53 [pt bp0] [z0] h (fun v S h1 => ∃ zy0 bw0 zw0, v = pt bw0 ∧ S = [zy0, zw0] ∧ Zmem_Mem h1 bp0 zy0 r.2 ∧ Zchain_Store h1 bp0 bw0 zw0 r.1) := by
 unfold F_chain_New at hF
 refine evo_of rfl at_53 rfl rfl ?_
 refine go_seq (go_region (gAc rfl rfl (go_nil (go_seq (go_seq (go_region (gM rfl rfl (gr rfl (r_bin (v := .bool false) (ot rfl) (oc rfl) (by first | rfl | kernel_rfl)) (go_nil ?_)))))))))
 refine g_cond (b := false) (ot rfl) (fun hc2 => ?_) (fun hc2 => ?_)
 ·
  cases hc2
 refine go_skip (go_seq (go_region (gM rfl rfl (gr rfl (r_build (op1 (ot rfl) op0) rfl) (gs_box rfl (ot rfl) rfl (fun b7_3 => gA rfl rfl (go_nil (gs_pack (fun s => Zchain_Store h bp0 b7_3 s (⟨([] : List Tchain_version)⟩ : Ochain_Store)) (.cons .z (.emp .nil)) ⟨_, _, rfl, (AccR.nil _ _ _)⟩ fun z4p y4p => ?_))))))))
 obtain rfl := someI hF
 exact g_retO (rst rfl rs0) (.cons (.s (.z)) (.cons .z .nil)) (HExt.refl _) hw (nd1 y0.nd (nd1 y4p.nd nd0)) ⟨_, _, _, rfl, rfl, y0, y4p⟩
theorem s_index_New {h : Heap} (hw : Wf h) (p0 : Omem_Mem) {bp0 : Nat} {z0 : List Blk} (y0 : Zmem_Mem h bp0 z0 p0) {r : Obst_Tree × Omem_Mem × Ochain_Store} (hF : F_index_New p0 = some r) :
 EvO EE 23 [pt bp0] [z0] h (fun v S h1 => ∃ bw0 bw0_1 bw0_3 zw0, v = pt bw0 ∧ S = [zw0] ∧ Zindex_Index h1 bw0 bw0_1 bp0 bw0_3 zw0 r.1 r.2.1 r.2.2) := by
 unfold F_index_New at hF
 refine evo_of rfl at_23 rfl rfl ?_
 refine go_seq (go_region (gAc rfl rfl (go_nil (go_seq (go_region (gM rfl rfl ?_))))))
 obtain ⟨x2, hx2, hF⟩ := obind hF
 refine kcX EE_fr hw (.cons .z .nil) rfl of (ops_t rfl os0) hb_52 (s_bst_New hw p0 y0 hx2) ?_
 rintro _ _ h2 e2 w2 ⟨b2_w0, z2_w0, rfl, rfl, f2_0⟩
 simp only [ca_, na_]
 refine gA rfl rfl (go_nil (go_seq (go_seq (go_region (gM rfl rfl (gr rfl (r_bin (v := .bool false) (ot rfl) (oc rfl) (by first | rfl | kernel_rfl)) (go_nil ?_)))))))
 refine g_cond (b := false) (ot rfl) (fun hc3 => ?_) (fun hc3 => ?_)
 ·
  cases hc3
 refine go_skip (go_seq (go_region (gM rfl rfl (gM rfl rfl ?_))))
 obtain ⟨q5z_1, t5z_1, q5z_2, t5z_2, z5z_0, rfl, f5z0, f5z1, f5z2⟩ := f2_0
 refine gs_unz ?_
 simp only [ca_, na_]
 refine gs_front (.s (.s (.s (.z)))) ?_
 obtain ⟨q6z_0, t6z_0, rfl, f6z0⟩ := f5z2
 refine gs_unz ?_
 simp only [ca_, na_]
 refine gs_pack (fun s => Zmem_Mem h2 bp0 s x2.2) (.cons .z (.cons .z .nil)) ⟨_, _, rfl, f6z0⟩ fun z7p y7p => ?_
 obtain ⟨x4, hx4, hF⟩ := obind hF
 refine kcX EE_fr w2 (.cons .z .nil) rfl of (ops_t rfl os0) hb_53 (s_chain_New w2 x2.2 y7p hx4) ?_
 rintro _ _ h4 e4 w4 ⟨z4_y0, b4_w0, z4_w0, rfl, rfl, f4_0, f4_1⟩
 simp only [ca_, na_]
 refine gM rfl rfl (gr rfl (r_build (op1 (ot rfl) (op1 (ot rfl) (op1 (ot rfl) op0))) rfl) (gs_box rfl (ot rfl) rfl (fun b13_8 => gA rfl rfl (go_nil (gs_pack (fun s => Zbst_Tree h4 b2_w0 bp0 s x2.1 x4.2) (.cons (.s (.s (.s (.z)))) (.cons (.s (.s (.s (.z)))) (.cons (.s (.s (.s (.z)))) (.cons (.s (.z)) .nil)))) ⟨_, _, _, _, _, rfl, (f5z0.ext e4.kn), (f5z1.ext e4.kn), f4_0⟩ fun z9p y9p => (gs_pack (fun s => Zindex_Index h4 b13_8 b2_w0 bp0 b4_w0 s x2.1 x4.2 x4.1) (.cons (.s (.z)) (.cons .z (.cons .z .nil))) ⟨_, _, rfl, y9p, f4_1⟩ fun z10p y10p => ?_))))))
 obtain rfl := someI hF
 exact g_retO (rst rfl rs0) (.cons .z .nil) (e2.trans e4) w4 (nd1 y10p.nd nd0) ⟨_, _, _, _, rfl, rfl, y10p⟩
end Go.Proofs.YtndhbaidibioeaaGreat.V
