/- Walks.
   No condition: these are laws of the clean machine and of this program. -/
import Derived.Test.YtndhbaidibioeaaGreatWa
namespace Go.Proofs.YtndhbaidibioeaaGreat.V
open Go
set_option linter.unusedVariables false
set_option linter.unusedSimpArgs false
set_option maxRecDepth 100000
set_option maxHeartbeats 4000000
theorem s_bst_Tree_help_1 {rc : RC} (hrc : RCok rc) {h : Heap} (hw : Wf h) (p0 : Obst_Tree) (p0o0 : Omem_Mem) (p1 : Obst_Call) (p2 : Bool) (p3 : Clo) {bp0 bp0_1 : Nat} {z0 : List Blk} {bp1 : Nat} {z1 : List Blk} {b3 : Nat} {v3 : Value} (y0 : Zbst_Tree h bp0 bp0_1 z0 p0 p0o0) (y1 : Zbst_Call h bp1 z1 p1) (g3 : BK h b3 [v3] 134) (c3 : CO h bp0 bp1 [] p3 v3) {r : _} (hF : F_bst_Tree_help_1 rc p0 p0o0 p1 p2 p3 = some r) :
 EvO EE 141 [.bool p2, pt b3] [z0, z1] h (fun v S h1 => ∃ zy0 zy1 vr tr, v = vr ∧ S = [zy0, zy1, tr] ∧ Zbst_Tree h1 bp0 bp0_1 zy0 r.2.1 r.2.2.1 ∧ Zbst_Call h1 bp1 zy1 r.2.2.2 ∧ OC h1 bp0 bp1 tr r.1 vr) := by
 unfold F_bst_Tree_help_1 at hF
 refine evo_of rfl at_141 rfl rfl ?_
 refine go_seq (go_region (gAc rfl rfl (go_nil (go_seq (go_region (glc ag_134 g3 rfl rfl rfl ?_))))))
 obtain ⟨x5, hx5, hF⟩ := obind hF
 refine gs_calld EE_fr hw (.cons .z (.cons .z (.emp .nil))) (fun _ h => by cases h; rfl) (ot rfl) os0 (by exact hrc hw p0 p0o0 p1 y0 y1 p3 Arg.u [] c3 hx5) ?_
 rintro _ _ h5 e5 w5 ⟨z5_y0, z5_y1, v5_r, t5_r, rfl, rfl, f5_0, f5_1, f5_2⟩
 simp only [ca_, na_]
 refine gA rfl rfl (go_nil ?_)
 obtain rfl := someI hF
 exact g_retO (rst rfl rs0) (.cons .z (.cons .z (.cons .z .nil))) e5 w5 (nd1 f5_0.nd (nd1 f5_1.nd (ndc f5_2 nd0))) ⟨_, _, _, _, rfl, rfl, f5_0, f5_1, f5_2⟩
theorem s_mem_Mem_Store {h : Heap} (hw : Wf h) (p0 : Omem_Mem) (p1 : Int) (p2 : Int) {bp0 : Nat} {z0 : List Blk} (y0 : Zmem_Mem h bp0 z0 p0) {r : Int × Omem_Mem} (hF : F_mem_Mem_Store p0 p1 p2 = some r) :
 EvO EE 92 [pt bp0, .int .i64 p1, .int .u64 p2] [z0] h (fun v S h1 => ∃ zy0, v = .int .i64 r.1 ∧ S = [zy0] ∧ Zmem_Mem h1 bp0 zy0 r.2) := by
 unfold F_mem_Mem_Store at hF
 refine evo_of rfl at_92 rfl rfl ?_
 refine go_seq (go_region (gAc rfl rfl (go_nil (go_seq (go_region (gM rfl rfl (gM rfl rfl ?_)))))))
 obtain ⟨q5z_0, t5z_0, rfl, f5z0⟩ := y0
 refine gs_unz ?_
 simp only [ca_, na_]
 cases hx4 : getI p0.cells p1 with
 | none =>
  rw [hx4] at hF
  dsimp only at hF
  refine kcX EE_fr hw (.cons .z .nil) rfl of (ops_t rfl (ops_t rfl os0)) hb_107 (s_mem_at_bad hw (getI_bad hx4)) ?_
  rintro _ _ h4 e4 w4 ⟨rfl, rfl⟩
  simp only [ca_, na_]
  refine gA rfl rfl (go_nil (go_seq (go_seq (go_region (gM rfl rfl (gr rfl (r_bin (v := .bool true) (ot rfl) (oc rfl) (by first | rfl | kernel_rfl)) (go_nil ?_)))))))
  refine g_cond (b := true) (ot rfl) (fun hc6 => ?_) (fun hc6 => ?_)
  rotate_left
  ·
   cases hc6
  refine go_seq (go_region (gAc rfl rfl (go_nil (gs_pack (fun s => Zmem_Mem h4 bp0 s p0) (.cons .z (.cons .z .nil)) ⟨_, _, rfl, (f5z0.ext e4.kn)⟩ fun z7p y7p => ?_))))
  obtain rfl := someI hF
  exact g_retO (rst rfl rs0) (.cons .z .nil) e4 w4 (nd1 y7p.nd nd0) ⟨_, rfl, rfl, y7p⟩
 | some x4 =>
  rw [hx4] at hF
  dsimp only at hF
  obtain ⟨bb4, rw4, row4, hp4, ht4, hR4, hw4, rc4, hz4, hi4, hd4, hb4, hl4⟩ := AccR.at_ f5z0 hx4
  have hF4_ := hF
  subst hp4; subst ht4
  replace hF := hF4_
  obtain rfl := rc4
  refine kcX EE_fr hw (.cons .z .nil) rfl of (ops_t rfl (ops_t rfl os0)) hb_107 (s_mem_at_ok hw hz4 hi4) ?_
  rintro _ _ h4 e4 w4 ⟨rfl, rfl⟩
  simp only [ca_, na_]
  refine gA rfl rfl (go_nil (go_seq (go_seq (go_region (gM rfl rfl (gr rfl (r_bin (v := .bool false) (ot rfl) (oc rfl) (by first | rfl | kernel_rfl)) (go_nil ?_)))))))
  refine g_cond (b := false) (ot rfl) (fun hc8 => ?_) (fun hc8 => ?_)
  ·
   cases hc8
  refine go_skip (go_seq (go_region (gM rfl rfl (gM rfl rfl (gN rfl rfl ?_)))))
  have hc9 : (RI_ .u64 93).C h4 [.int .u64 p2] p2 := rfl
  have hR9 : Rws (RI_ .u64 93) h4 (rw4.set p1.toNat [.int .u64 p2]) (setI p0.cells p1 p2) := Rws.set (hR4.ext e4.kn) hc9 _
  have hq9 := (List.getElem?_eq_some_iff.mp hw4).1
  have hl9 : (setI p0.cells p1 p2).length < 9223372036854775808 := by rw [setI_len]; exact hl4
  have f9_ : AccR (RI_ .u64 93) 93 h4 [⟨bb4, .cells (rw4.set p1.toNat [.int .u64 p2]).flatten 93⟩] (.slice (some ⟨bb4, 0, some 0⟩) (setI p0.cells p1 p2).length (setI p0.cells p1 p2).length) (setI p0.cells p1 p2) := AccR.set_ hl4 (hR4.ext e4.kn) rfl hc9
  obtain ⟨hd9, hb9⟩ := flat_at_set (row' := [.int .u64 p2]) (hR4.ext e4.kn).k hq9 rfl
  have hw9 : (rw4.set p1.toNat [.int .u64 p2])[p1.toNat]? = some [.int .u64 p2] := List.getElem?_set_self hq9
  refine gs_store (vs := [.int .u64 p2]) (cs' := (rw4.set p1.toNat [.int .u64 p2]).flatten) (ot rfl) (ot rfl) sz_93 rfl rfl (acc_ble (j := 0) (m := 1) hb4 (by decide)) rfl (flat_splice_part (j := 0) _ _ (hR4.ext e4.kn).k hw4 (Nat.le_of_ble_eq_true rfl)) (.s (.z)) ?_
  refine gs_retell (segs' := [[⟨bp0, .cells [.slice (some ⟨bb4, 0, some 0⟩) (setI p0.cells p1 p2).length (setI p0.cells p1 p2).length, .int .i64 (IntKind.i64.wrap (p0.count + 1))] 107⟩], [⟨bb4, .cells (rw4.set p1.toNat [.int .u64 p2]).flatten 93⟩]]) (by simp only [setI_len]) ?_
  refine go_nil (go_seq (go_region (gAc rfl rfl (go_nil (gs_pack (fun s => Zmem_Mem h4 bp0 s (⟨(setI p0.cells p1 p2), (IntKind.i64.wrap (p0.count + 1))⟩ : Omem_Mem)) (.cons .z (.cons .z .nil)) ⟨_, _, rfl, f9_⟩ fun z10p y10p => ?_)))))
  obtain rfl := someI hF
  exact g_retO (rst rfl rs0) (.cons .z .nil) e4 w4 (nd1 y10p.nd nd0) ⟨_, rfl, rfl, y10p⟩
theorem s_bst_Tree_grow_1 {rc : RC} (hrc : RCok rc) {h : Heap} (hw : Wf h) (p0 : Obst_Tree) (p0o0 : Omem_Mem) (p1 : Obst_Call) (p3 : Int) (p4 : Int) (p5 : Int) (p6 : Tbst_seen) (p7 : Int) (p9 : Tbst_node) {bp0 bp0_1 : Nat} {z0 : List Blk} {bp1 : Nat} {z1 : List Blk} {b2 : Nat} {b3 : Nat} {b4 : Nat} {b5 : Nat} {b6 : Nat} {b7 : Nat} {b8 : Nat} {b9 : Nat} (y0 : Zbst_Tree h bp0 bp0_1 z0 p0 p0o0) (y1 : Zbst_Call h bp1 z1 p1) (g2 : BK h b2 [pt bp0] 61) (g3 : BK h b3 [.int .i64 p3] 3) (g4 : BK h b4 [.int .i64 p4] 3) (g5 : BK h b5 [.int .i64 p5] 3) (g6 : BK h b6 [.int .i64 p6.grand, .int .i64 p6.parent, .int .i64 p6.leaf, .int .u64 p6.grandWord, .int .u64 p6.parentWord, .int .i64 p6.turn] 138) (g7 : BK h b7 [.int .i64 p7] 3) (g8 : BK h b8 [pt bp1] 85) (g9 : BK h b9 [.string p9.key, .int .i64 p9.top, .int .u64 p9.val, .int .i64 p9.cell] 127) {r : _} (hF : F_bst_Tree_grow_1 rc p0 p0o0 p1 p3 p4 p5 p6 p7 p9 = some r) :
 EvO EE 143 [pt b2, pt b3, pt b4, pt b5, pt b6, pt b7, pt b8, pt b9] [z0, z1] h (fun v S h1 => ∃ zy0 zy1 vr tr, v = vr ∧ S = [zy0, zy1, tr] ∧ Zbst_Tree h1 bp0 bp0_1 zy0 r.2.1 r.2.2.1 ∧ Zbst_Call h1 bp1 zy1 r.2.2.2 ∧ OC h1 bp0 bp1 tr r.1 vr) := by
 unfold F_bst_Tree_grow_1 at hF
 refine evo_of rfl at_143 rfl rfl ?_
 refine go_seq (go_region (gAc rfl rfl (go_nil (go_seq (go_regions (L := sq 0 9) (by kernel_rfl) (by kernel_rfl) (fun _ => rfl) (go_sop rfl rfl (glc ag_61 g2 rfl rfl rfl (go_nil (go_sop rfl rfl (gN rfl rfl (go_nil (go_sop rfl rfl (gF (fa_131_0 _ _) rfl rfl (go_nil (go_sop rfl rfl ?_)))))))))))))))
 obtain ⟨q11z_1, t11z_1, q11z_2, t11z_2, z11z_0, rfl, f11z0, f11z1, f11z2⟩ := y0
 refine gs_unz ?_
 simp only [ca_, na_]
 refine gls 0 ag_51 rfl rfl rfl rfl (go_nil (go_sop rfl rfl (glc ag_3 g3 rfl rfl rfl (go_nil (go_sop rfl rfl (gr rfl (r_bin (ot rfl) (oc rfl) rfl) (go_nil (go_sop rfl rfl (glc ag_3 g4 rfl rfl rfl (go_nil (go_sop rfl rfl (gr rfl (r_conv (ot rfl) rfl) (go_nil (go_sop rfl rfl ?_))))))))))))))
 obtain ⟨x12, hx12, hF⟩ := obind hF
 refine kcX EE_fr hw (.cons (.s (.s (.s (.z)))) .nil) rfl of (ops_t rfl (ops_t rfl (ops_t rfl os0))) hb_92 (s_mem_Mem_Store hw p0o0 (IntKind.i64.wrap (p3 + 1)) (IntKind.u64.wrap p4) f11z2 hx12) ?_
 rintro _ _ h12 e12 w12 ⟨z12_y0, rfl, rfl, f12_0⟩
 simp only [ca_, na_]
 refine go_nil (go_snil (go_seq (go_region (gr rfl (r_func os0 (os1 (ot rfl) (os1 (ot rfl) (os1 (ot rfl) (os1 (ot rfl) (os1 (ot rfl) (os1 (ot rfl) (os1 (ot rfl) os0)))))))) (gA rfl rfl (go_nil ?_))))))
 have co13 : CO h12 bp0 bp1 [] (Clo.c_grow_1_1 p3 p5 p6 p7 p9) (.func (.func 144) #[] #[pt b2, pt b3, pt b5, pt b6, pt b7, pt b8, pt b9]) := CO.c_grow_1_1 (g2.ext e12.kn) (g3.ext e12.kn) (g5.ext e12.kn) (g6.ext e12.kn) (g7.ext e12.kn) (g8.ext e12.kn) (g9.ext e12.kn)
 refine gs_pack (fun s => Zbst_Tree h12 bp0 bp0_1 s p0 x12.2) (.cons (.s (.z)) (.cons (.s (.z)) (.cons (.s (.z)) (.cons .z .nil)))) ⟨_, _, _, _, _, rfl, (f11z0.ext e12.kn), (f11z1.ext e12.kn), f12_0⟩ fun z14p y14p => ?_
 obtain rfl := someI hF
 exact g_retO (rst rfl rs0) (.cons .z (.cons .z (.emp .nil))) e12 w12 (nd1 y14p.nd (nd1 (y1.ext e12.kn).nd (nde nd0))) ⟨_, _, _, _, rfl, rfl, y14p, (y1.ext e12.kn), (OC.some co13)⟩
theorem s_bst_Tree_grow_1_1 {rc : RC} (hrc : RCok rc) {h : Heap} (hw : Wf h) (p0 : Obst_Tree) (p0o0 : Omem_Mem) (p1 : Obst_Call) (p3 : Int) (p4 : Int) (p5 : Tbst_seen) (p6 : Int) (p8 : Tbst_node) {bp0 bp0_1 : Nat} {z0 : List Blk} {bp1 : Nat} {z1 : List Blk} {b2 : Nat} {b3 : Nat} {b4 : Nat} {b5 : Nat} {b6 : Nat} {b7 : Nat} {b8 : Nat} (y0 : Zbst_Tree h bp0 bp0_1 z0 p0 p0o0) (y1 : Zbst_Call h bp1 z1 p1) (g2 : BK h b2 [pt bp0] 61) (g3 : BK h b3 [.int .i64 p3] 3) (g4 : BK h b4 [.int .i64 p4] 3) (g5 : BK h b5 [.int .i64 p5.grand, .int .i64 p5.parent, .int .i64 p5.leaf, .int .u64 p5.grandWord, .int .u64 p5.parentWord, .int .i64 p5.turn] 138) (g6 : BK h b6 [.int .i64 p6] 3) (g7 : BK h b7 [pt bp1] 85) (g8 : BK h b8 [.string p8.key, .int .i64 p8.top, .int .u64 p8.val, .int .i64 p8.cell] 127) {r : _} (hF : F_bst_Tree_grow_1_1 rc p0 p0o0 p1 p3 p4 p5 p6 p8 = some r) :
 EvO EE 144 [pt b2, pt b3, pt b4, pt b5, pt b6, pt b7, pt b8] [z0, z1] h (fun v S h1 => ∃ zy0 zy1 vr tr, v = vr ∧ S = [zy0, zy1, tr] ∧ Zbst_Tree h1 bp0 bp0_1 zy0 r.2.1 r.2.2.1 ∧ Zbst_Call h1 bp1 zy1 r.2.2.2 ∧ OC h1 bp0 bp1 tr r.1 vr) := by
 unfold F_bst_Tree_grow_1_1 at hF
 refine evo_of rfl at_144 rfl rfl ?_
 refine go_seq (go_region (gAc rfl rfl (go_nil (go_seq (go_regions (L := sq 0 9) (by kernel_rfl) (by kernel_rfl) (fun _ => rfl) (go_sop rfl rfl (glc ag_61 g2 rfl rfl rfl (go_nil (go_sop rfl rfl (gN rfl rfl (go_nil (go_sop rfl rfl (gF (fa_131_0 _ _) rfl rfl (go_nil (go_sop rfl rfl ?_)))))))))))))))
 obtain ⟨q10z_1, t10z_1, q10z_2, t10z_2, z10z_0, rfl, f10z0, f10z1, f10z2⟩ := y0
 refine gs_unz ?_
 simp only [ca_, na_]
 refine gls 0 ag_51 rfl rfl rfl rfl (go_nil (go_sop rfl rfl (glc ag_3 g3 rfl rfl rfl (go_nil (go_sop rfl rfl (gr rfl (r_bin (ot rfl) (oc rfl) rfl) (go_nil (go_sop rfl rfl (glc ag_3 g4 rfl rfl rfl (go_nil (go_sop rfl rfl (gr rfl (r_conv (ot rfl) rfl) (go_nil (go_sop rfl rfl ?_))))))))))))))
 obtain ⟨x11, hx11, hF⟩ := obind hF
 refine kcX EE_fr hw (.cons (.s (.s (.s (.z)))) .nil) rfl of (ops_t rfl (ops_t rfl (ops_t rfl os0))) hb_92 (s_mem_Mem_Store hw p0o0 (IntKind.i64.wrap (p3 + 2)) (IntKind.u64.wrap p4) f10z2 hx11) ?_
 rintro _ _ h11 e11 w11 ⟨z11_y0, rfl, rfl, f11_0⟩
 simp only [ca_, na_]
 refine go_nil (go_snil (go_seq (go_region (gr rfl (r_func os0 (os1 (ot rfl) (os1 (ot rfl) (os1 (ot rfl) (os1 (ot rfl) (os1 (ot rfl) os0)))))) (gA rfl rfl (go_nil ?_))))))
 have co12 : CO h11 bp0 bp1 [] (Clo.c_grow_1_1_1 p5 p6 p8) (.func (.func 145) #[] #[pt b2, pt b5, pt b6, pt b7, pt b8]) := CO.c_grow_1_1_1 (g2.ext e11.kn) (g5.ext e11.kn) (g6.ext e11.kn) (g7.ext e11.kn) (g8.ext e11.kn)
 refine gs_pack (fun s => Zbst_Tree h11 bp0 bp0_1 s p0 x11.2) (.cons (.s (.z)) (.cons (.s (.z)) (.cons (.s (.z)) (.cons .z .nil)))) ⟨_, _, _, _, _, rfl, (f10z0.ext e11.kn), (f10z1.ext e11.kn), f11_0⟩ fun z13p y13p => ?_
 obtain rfl := someI hF
 exact g_retO (rst rfl rs0) (.cons .z (.cons .z (.emp .nil))) e11 w11 (nd1 y13p.nd (nd1 (y1.ext e11.kn).nd (nde nd0))) ⟨_, _, _, _, rfl, rfl, y13p, (y1.ext e11.kn), (OC.some co12)⟩
theorem s_mem_Mem_CAS {h : Heap} (hw : Wf h) (p0 : Omem_Mem) (p1 : Int) (p2 : Int) (p3 : Int) {bp0 : Nat} {z0 : List Blk} (y0 : Zmem_Mem h bp0 z0 p0) {r : Int × Bool × Omem_Mem} (hF : F_mem_Mem_CAS p0 p1 p2 p3 = some r) :
 EvO EE 129 [pt bp0, .int .i64 p1, .int .u64 p2, .int .u64 p3] [z0] h (fun v S h1 => ∃ zy0, v = .tuple #[.int .u64 r.1, .bool r.2.1] ∧ S = [zy0] ∧ Zmem_Mem h1 bp0 zy0 r.2.2) := by
 unfold F_mem_Mem_CAS at hF
 refine evo_of rfl at_129 rfl rfl ?_
 refine go_seq (go_region (gAc rfl rfl (gAc rfl rfl (go_nil (go_seq (go_region (gM rfl rfl (gM rfl rfl ?_))))))))
 obtain ⟨q6z_0, t6z_0, rfl, f6z0⟩ := y0
 refine gs_unz ?_
 simp only [ca_, na_]
 cases hx5 : getI p0.cells p1 with
 | none =>
  rw [hx5] at hF
  dsimp only at hF
  refine kcX EE_fr hw (.cons .z .nil) rfl of (ops_t rfl (ops_t rfl os0)) hb_107 (s_mem_at_bad hw (getI_bad hx5)) ?_
  rintro _ _ h5 e5 w5 ⟨rfl, rfl⟩
  simp only [ca_, na_]
  refine gA rfl rfl (go_nil (go_seq (go_seq (go_region (gM rfl rfl (gr rfl (r_bin (v := .bool true) (ot rfl) (oc rfl) (by first | rfl | kernel_rfl)) (go_nil ?_)))))))
  refine g_cond (b := true) (ot rfl) (fun hc7 => ?_) (fun hc7 => ?_)
  rotate_left
  ·
   cases hc7
  refine go_seq (go_region (gAc rfl rfl (gAc rfl rfl (go_nil (gs_pack (fun s => Zmem_Mem h5 bp0 s p0) (.cons .z (.cons .z .nil)) ⟨_, _, rfl, (f6z0.ext e5.kn)⟩ fun z8p y8p => ?_)))))
  obtain rfl := someI hF
  exact g_retO (rst rfl (rst rfl rs0)) (.cons .z .nil) e5 w5 (nd1 y8p.nd nd0) ⟨_, rfl, rfl, y8p⟩
 | some x5 =>
  rw [hx5] at hF
  dsimp only at hF
  obtain ⟨bb5, rw5, row5, hp5, ht5, hR5, hw5, rc5, hz5, hi5, hd5, hb5, hl5⟩ := AccR.at_ f6z0 hx5
  have hF5_ := hF
  subst hp5; subst ht5
  replace hF := hF5_
  obtain rfl := rc5
  refine kcX EE_fr hw (.cons .z .nil) rfl of (ops_t rfl (ops_t rfl os0)) hb_107 (s_mem_at_ok hw hz5 hi5) ?_
  rintro _ _ h5 e5 w5 ⟨rfl, rfl⟩
  simp only [ca_, na_]
  refine gA rfl rfl (go_nil (go_seq (go_seq (go_region (gM rfl rfl (gr rfl (r_bin (v := .bool false) (ot rfl) (oc rfl) (by first | rfl | kernel_rfl)) (go_nil ?_)))))))
  refine g_cond (b := false) (ot rfl) (fun hc9 => ?_) (fun hc9 => ?_)
  ·
   cases hc9
  refine go_skip (go_seq (go_region (gM rfl rfl (gN rfl rfl (gr rfl (r_load (ot rfl) (lm_s (mem_seg 1 rfl) ag_93 (acc_cell (j := 0) hd5 rfl))) (gA rfl rfl (go_nil (go_seq (go_seq (go_region (gM rfl rfl (gM rfl rfl (gr rfl (r_bin (ot rfl) (ot rfl) rfl) (go_nil ?_))))))))))))))
  obtain ⟨s11, hF, hK11⟩ := obind hF
  refine go_joinc (β := Option Addr × List Blk) (fun s h' => AccR (RI_ .u64 93) 93 h' s.2 (.slice s.1 s11.length s11.length) s11) (fun s => [(2, true, .int .u64 p2), (8, true, .int .u64 0), (9, true, .bool false), (11, true, .int .u64 x5)]) (fun s => (List.flatten [[⟨bp0, .cells [.slice s.1 s11.length s11.length, .int .i64 (IntKind.i64.wrap (p0.count + 1))] 107⟩], s.2] : List Blk)) ?_ (fun J11 => ?_)
  ·
   rintro ⟨a11_0, a11_1⟩ h11 e11 w11 f11_0
   replace hF := hK11
   refine go_seq (go_region (gM rfl rfl (gM rfl rfl (gM rfl rfl (gr rfl (r_bin (ot rfl) (ot rfl) rfl) (gA rfl rfl (gA rfl rfl (go_nil (gs_pack (fun s => Zmem_Mem h11 bp0 s (⟨s11, (IntKind.i64.wrap (p0.count + 1))⟩ : Omem_Mem)) (.cons .z (.cons .z .nil)) ⟨_, _, rfl, f11_0⟩ fun z12p y12p => ?_)))))))))
   obtain rfl := someI hF
   exact g_retO (rst rfl (rst rfl rs0)) (.cons .z .nil) (e5.trans e11) w11 (nd1 y12p.nd nd0) ⟨_, rfl, rfl, y12p⟩
  ·
   refine g_cond (b := (x5 == p2)) (ot rfl) (fun hc10 => ?_) (fun hc10 => ?_)
   ·
    replace hF := ifT hc10 hF
    refine go_region (gM rfl rfl (gM rfl rfl (gN rfl rfl ?_)))
    have hc13 : (RI_ .u64 93).C h5 [.int .u64 p3] p3 := rfl
    have hR13 : Rws (RI_ .u64 93) h5 (rw5.set p1.toNat [.int .u64 p3]) (setI p0.cells p1 p3) := Rws.set (hR5.ext e5.kn) hc13 _
    have hq13 := (List.getElem?_eq_some_iff.mp hw5).1
    have hl13 : (setI p0.cells p1 p3).length < 9223372036854775808 := by rw [setI_len]; exact hl5
    have f13_ : AccR (RI_ .u64 93) 93 h5 [⟨bb5, .cells (rw5.set p1.toNat [.int .u64 p3]).flatten 93⟩] (.slice (some ⟨bb5, 0, some 0⟩) (setI p0.cells p1 p3).length (setI p0.cells p1 p3).length) (setI p0.cells p1 p3) := AccR.set_ hl5 (hR5.ext e5.kn) rfl hc13
    obtain ⟨hd13, hb13⟩ := flat_at_set (row' := [.int .u64 p3]) (hR5.ext e5.kn).k hq13 rfl
    have hw13 : (rw5.set p1.toNat [.int .u64 p3])[p1.toNat]? = some [.int .u64 p3] := List.getElem?_set_self hq13
    refine gs_store (vs := [.int .u64 p3]) (cs' := (rw5.set p1.toNat [.int .u64 p3]).flatten) (ot rfl) (ot rfl) sz_93 rfl rfl (acc_ble (j := 0) (m := 1) hb5 (by decide)) rfl (flat_splice_part (j := 0) _ _ (hR5.ext e5.kn).k hw5 (Nat.le_of_ble_eq_true rfl)) (.s (.z)) ?_
    refine gs_retell (segs' := [[⟨bp0, .cells [.slice (some ⟨bb5, 0, some 0⟩) (setI p0.cells p1 p3).length (setI p0.cells p1 p3).length, .int .i64 (IntKind.i64.wrap (p0.count + 1))] 107⟩], [⟨bb5, .cells (rw5.set p1.toNat [.int .u64 p3]).flatten 93⟩]]) (by simp only [setI_len]) ?_
    refine go_nil ?_
    obtain rfl := someI hF
    exact Goes.weak (J11 ((some ⟨bb5, 0, some 0⟩), [⟨bb5, .cells (rw5.set p1.toNat [.int .u64 p3]).flatten 93⟩]) _ (HExt.refl _) w5 f13_) (Sub.cons (Sub.cons (Sub.cons (Sub.cons (Sub.nil _) rfl) rfl) rfl) rfl)
   ·
    replace hF := ifF hc10 hF
    refine go_skip ?_
    obtain rfl := someI hF
    exact Goes.weak (J11 ((some ⟨bb5, 0, some 0⟩), [⟨bb5, .cells rw5.flatten 93⟩]) _ (HExt.refl _) w5 (f6z0.ext e5.kn)) (Sub.cons (Sub.cons (Sub.cons (Sub.cons (Sub.nil _) rfl) rfl) rfl) rfl)
theorem s_bst_Tree_grow_1_1_1 {rc : RC} (hrc : RCok rc) {h : Heap} (hw : Wf h) (p0 : Obst_Tree) (p0o0 : Omem_Mem) (p1 : Obst_Call) (p3 : Tbst_seen) (p4 : Int) (p6 : Tbst_node) {bp0 bp0_1 : Nat} {z0 : List Blk} {bp1 : Nat} {z1 : List Blk} {b2 : Nat} {b3 : Nat} {b4 : Nat} {b5 : Nat} {b6 : Nat} (y0 : Zbst_Tree h bp0 bp0_1 z0 p0 p0o0) (y1 : Zbst_Call h bp1 z1 p1) (g2 : BK h b2 [pt bp0] 61) (g3 : BK h b3 [.int .i64 p3.grand, .int .i64 p3.parent, .int .i64 p3.leaf, .int .u64 p3.grandWord, .int .u64 p3.parentWord, .int .i64 p3.turn] 138) (g4 : BK h b4 [.int .i64 p4] 3) (g5 : BK h b5 [pt bp1] 85) (g6 : BK h b6 [.string p6.key, .int .i64 p6.top, .int .u64 p6.val, .int .i64 p6.cell] 127) {r : _} (hF : F_bst_Tree_grow_1_1_1 rc p0 p0o0 p1 p3 p4 p6 = some r) :
 EvO EE 145 [pt b2, pt b3, pt b4, pt b5, pt b6] [z0, z1] h (fun v S h1 => ∃ zy0 zy1 vr tr, v = vr ∧ S = [zy0, zy1, tr] ∧ Zbst_Tree h1 bp0 bp0_1 zy0 r.2.1 r.2.2.1 ∧ Zbst_Call h1 bp1 zy1 r.2.2.2 ∧ OC h1 bp0 bp1 tr r.1 vr) := by
 unfold F_bst_Tree_grow_1_1_1 at hF
 refine evo_of rfl at_145 rfl rfl ?_
 refine go_seq (go_region (gAc rfl rfl (go_nil (go_seq (go_regions (L := sq 0 7 ++ sq 8 3 ++ [(7, [0, 3, 9, 10]), (11, [0, 3, 9])] ++ sq 12 6) (by kernel_rfl) (by kernel_rfl) (fun _ => rfl) (go_sop rfl rfl (glc ag_61 g2 rfl rfl rfl (go_nil (go_sop rfl rfl (gN rfl rfl (go_nil (go_sop rfl rfl (gF (fa_131_0 _ _) rfl rfl (go_nil (go_sop rfl rfl ?_)))))))))))))))
 obtain ⟨q8z_1, t8z_1, q8z_2, t8z_2, z8z_0, rfl, f8z0, f8z1, f8z2⟩ := y0
 refine gs_unz ?_
 simp only [ca_, na_]
 refine gls 0 ag_51 rfl rfl rfl rfl (go_nil (go_sop rfl rfl (glc ag_61 g2 rfl rfl rfl (go_nil (go_sop rfl rfl (gF (fa_138_1 _ _) rfl rfl (go_nil (go_sop rfl rfl (glc ag_3 g3 rfl rfl rfl (go_nil (go_sop rfl rfl (gF (fa_138_4 _ _) rfl rfl (go_nil (go_sop rfl rfl (glc ag_93 g3 rfl rfl rfl (go_nil (go_sop rfl rfl (glc ag_3 g4 rfl rfl rfl (go_nil (go_sopc [(0, pt bp0), (3, pt bp0_1), (9, .int .u64 p3.parentWord), (10, .int .i64 p4)] rfl rfl rfl (rc1 rfl (r_load (ot rfl) (v := pt bp0) (lo_e (fun hf kn => ld_cell ag_61 (g2.ext kn) rfl))) (rc1 rfl (r_load (ot rfl) (lm_s (mem_seg 0 rfl) ag_51 rfl)) (rc1 rfl (r_load (ot rfl) (v := .int .u64 p3.parentWord) (lo_e (fun hf kn => ld_cell ag_93 (g3.ext kn) rfl))) (rc1 rfl (r_load (ot rfl) (v := .int .i64 p4) (lo_e (fun hf kn => ld_cell ag_3 (g4.ext kn) rfl))) rc0)))) (vq1 (veq_ptr _ _) (vq1 (veq_ptr _ _) (vq1 (veq_int _ _ _) (vq1 (veq_int _ _ _) vq0)))) rfl (gs_pack (fun s => Zbst_Tree h bp0 bp0_1 s p0 p0o0) (.cons .z (.cons .z (.cons .z (.cons .z .nil)))) ⟨_, _, _, _, _, rfl, f8z0, f8z1, f8z2⟩ fun z10p y10p => ?_)))))))))))))))))))))
 obtain ⟨x9, hx9, hF⟩ := obind hF
 refine kcX EE_fr hw (.cons .z .nil) rfl of (ops_t rfl (ops_t rfl (ops_c rfl os0))) hb_114 (s_bst_Tree_cell hw p0 p0o0 p3.parent 0 y10p hx9) ?_
 rintro _ _ h9 e9 w9 ⟨z9_y0, rfl, rfl, f9_0⟩
 simp only [ca_, na_]
 refine go_nil ?_
 obtain ⟨q11z_1, t11z_1, q11z_2, t11z_2, z11z_0, rfl, f11z0, f11z1, f11z2⟩ := f9_0
 refine gs_unz ?_
 simp only [ca_, na_]
 refine go_rck (rcc ag_61 (g2.ext e9.kn) rfl rfl rfl (rcs 0 ag_51 rfl rfl rfl rfl (rcc ag_93 (g3.ext e9.kn) rfl rfl rfl (rcc ag_3 (g4.ext e9.kn) rfl rfl rfl rc0)))) (go_sopc [(0, pt bp0), (3, pt bp0_1), (9, .int .u64 p3.parentWord)] rfl rfl rfl (rc1 rfl (r_load (ot rfl) (v := pt bp0) (lo_e (fun hf kn => ld_cell ag_61 ((g2.ext e9.kn).ext kn) rfl))) (rc1 rfl (r_load (ot rfl) (lm_s (mem_seg 0 rfl) ag_51 rfl)) (rc1 rfl (r_load (ot rfl) (v := .int .u64 p3.parentWord) (lo_e (fun hf kn => ld_cell ag_93 ((g3.ext e9.kn).ext kn) rfl))) rc0))) (vq1 (veq_ptr _ _) (vq1 (veq_ptr _ _) (vq1 (veq_int _ _ _) vq0))) rfl ?_)
 obtain ⟨x12, hx12, hF⟩ := obind hF
 refine g_callp (v := .int .u64 x12) EE_fr rfl of (os1 (oc rfl) (os1 (ot rfl) os0)) hb_130 (fun _ => rfl) (fun hf kn w => by exact s_word_Pack w 1 p4  hx12) (go_nil (go_rck (rcc ag_61 (g2.ext e9.kn) rfl rfl rfl (rcs 0 ag_51 rfl rfl rfl rfl (rcc ag_93 (g3.ext e9.kn) rfl rfl rfl rc0))) (go_sop rfl rfl ?_)))
 obtain ⟨x13, hx13, hF⟩ := obind hF
 refine kcX EE_fr w9 (.cons (.s (.s (.s (.z)))) .nil) rfl of (ops_t rfl (ops_t rfl (ops_t rfl (ops_t rfl os0)))) hb_129 (s_mem_Mem_CAS w9 x9.2.2 x9.1 p3.parentWord x12 f11z2 hx13) ?_
 rintro _ _ h13 e13 w13 ⟨z13_y0, rfl, rfl, f13_0⟩
 simp only [ca_, na_]
 refine go_nil (go_sop rfl rfl (gM rfl rfl (go_nil (go_sop rfl rfl (gE rfl rfl rfl (go_nil (go_sop rfl rfl (gE rfl rfl rfl (go_nil (go_sop rfl rfl (gA rfl rfl (go_nil (go_sop rfl rfl (gA rfl rfl (go_nil (go_snil (go_seq (go_seq (go_region (gM rfl rfl (gr rfl (r_un (ot rfl) rfl) (go_nil ?_))))))))))))))))))))))
 refine g_cond (b := (!x13.2.1)) (ot rfl) (fun hc14 => ?_) (fun hc14 => ?_)
 ·
  replace hF := ifT hc14 hF
  refine go_seq (go_region (glc ag_61 ((g2.ext e9.kn).ext e13.kn) rfl rfl rfl (gM rfl rfl (gr rfl (r_func os0 (os1 (ot rfl) (os1 (ot rfl) (os1 (ot rfl) os0)))) ?_))))
  have co16 : CO h13 bp0 bp1 [] (Clo.c_grow_1_1_1_1 p6) (.func (.func 146) #[] #[pt b2, pt b5, pt b6]) := CO.c_grow_1_1_1_1 ((g2.ext e9.kn).ext e13.kn) ((g5.ext e9.kn).ext e13.kn) ((g6.ext e9.kn).ext e13.kn)
  refine gs_pack (fun s => Zbst_Tree h13 bp0 bp0_1 s x9.2.1 x13.2.2) (.cons (.s (.z)) (.cons (.s (.z)) (.cons (.s (.z)) (.cons .z .nil)))) ⟨_, _, _, _, _, rfl, (f11z0.ext e13.kn), (f11z1.ext e13.kn), f13_0⟩ fun z17p y17p => ?_
  obtain ⟨x15, hx15, hF⟩ := obind hF
  refine kcX EE_fr w13 (.cons .z (.cons .z .nil)) rfl of (ops_t rfl (ops_t rfl (ops_t rfl os0))) hb_120 (s_bst_Tree_help hrc w13 x9.2.1 x13.2.2 p1 x13.1 (Clo.c_grow_1_1_1_1 p6) y17p ((y1.ext e9.kn).ext e13.kn) co16 hx15) ?_
  rintro _ _ h15 e15 w15 ⟨z15_y0, z15_y1, v15_r, t15_r, rfl, rfl, f15_0, f15_1, f15_2⟩
  simp only [ca_, na_]
  refine gA rfl rfl (go_nil ?_)
  obtain rfl := someI hF
  exact g_retO (rst rfl rs0) (.cons .z (.cons .z (.cons .z .nil))) (e9.trans (e13.trans e15)) w15 (nd1 f15_0.nd (nd1 f15_1.nd (ndc f15_2 nd0))) ⟨_, _, _, _, rfl, rfl, f15_0, f15_1, f15_2⟩
 ·
  replace hF := ifF hc14 hF
  refine go_skip (go_seq (go_region (glc ag_61 ((g2.ext e9.kn).ext e13.kn) rfl rfl rfl (glc ag_3 ((g4.ext e9.kn).ext e13.kn) rfl rfl rfl (gr rfl (r_func os0 (os1 (ot rfl) (os1 (ot rfl) os0))) ?_)))))
  have co19 : CO h13 bp0 bp1 [] (Clo.c_grow_1_1_1_2 p6) (.func (.func 147) #[] #[pt b5, pt b6]) := CO.c_grow_1_1_1_2 ((g5.ext e9.kn).ext e13.kn) ((g6.ext e9.kn).ext e13.kn)
  refine gs_pack (fun s => Zbst_Tree h13 bp0 bp0_1 s x9.2.1 x13.2.2) (.cons (.s (.z)) (.cons (.s (.z)) (.cons (.s (.z)) (.cons .z .nil)))) ⟨_, _, _, _, _, rfl, (f11z0.ext e13.kn), (f11z1.ext e13.kn), f13_0⟩ fun z20p y20p => ?_
  obtain ⟨x18, hx18, hF⟩ := obind hF
  refine kcX EE_fr w13 (.cons .z (.cons .z .nil)) rfl of (ops_t rfl (ops_t rfl (ops_t rfl os0))) hb_140 (s_bst_Tree_grows hrc w13 x9.2.1 x13.2.2 p1 p4 (Clo.c_grow_1_1_1_2 p6) y20p ((y1.ext e9.kn).ext e13.kn) co19 hx18) ?_
  rintro _ _ h18 e18 w18 ⟨z18_y0, z18_y1, v18_r, t18_r, rfl, rfl, f18_0, f18_1, f18_2⟩
  simp only [ca_, na_]
  refine gA rfl rfl (go_nil ?_)
  obtain rfl := someI hF
  exact g_retO (rst rfl rs0) (.cons .z (.cons .z (.cons .z .nil))) (e9.trans (e13.trans e18)) w18 (nd1 f18_0.nd (nd1 f18_1.nd (ndc f18_2 nd0))) ⟨_, _, _, _, rfl, rfl, f18_0, f18_1, f18_2⟩
theorem s_bst_Tree_grow_1_1_1_1 {rc : RC} (hrc : RCok rc) {h : Heap} (hw : Wf h) (p0 : Obst_Tree) (p0o0 : Omem_Mem) (p1 : Obst_Call) (p4 : Tbst_node) {bp0 bp0_1 : Nat} {z0 : List Blk} {bp1 : Nat} {z1 : List Blk} {b2 : Nat} {b3 : Nat} {b4 : Nat} (y0 : Zbst_Tree h bp0 bp0_1 z0 p0 p0o0) (y1 : Zbst_Call h bp1 z1 p1) (g2 : BK h b2 [pt bp0] 61) (g3 : BK h b3 [pt bp1] 85) (g4 : BK h b4 [.string p4.key, .int .i64 p4.top, .int .u64 p4.val, .int .i64 p4.cell] 127) {r : _} (hF : F_bst_Tree_grow_1_1_1_1 rc p0 p0o0 p1 p4 = some r) :
 EvO EE 146 [pt b2, pt b3, pt b4] [z0, z1] h (fun v S h1 => ∃ zy0 zy1 vr tr, v = vr ∧ S = [zy0, zy1, tr] ∧ Zbst_Tree h1 bp0 bp0_1 zy0 r.2.1 r.2.2.1 ∧ Zbst_Call h1 bp1 zy1 r.2.2.2 ∧ OC h1 bp0 bp1 tr r.1 vr) := by
 unfold F_bst_Tree_grow_1_1_1_1 at hF
 refine evo_of rfl at_146 rfl rfl ?_
 refine go_seq (go_region (gAc rfl rfl (go_nil (go_seq (go_region (glc ag_61 g2 rfl rfl rfl (glc ag_85 g3 rfl rfl rfl (glb ag_127 sz_127 g4 rfl rfl rfl ?_))))))))
 obtain ⟨x6, hx6, hF⟩ := obind hF
 refine kcX EE_fr hw (.cons .z (.cons .z .nil)) rfl of (ops_t rfl (ops_t rfl (ops_t rfl os0))) hb_97 (s_bst_Tree_insert hrc hw p0 p0o0 p1 p4 y0 y1 hx6) ?_
 rintro _ _ h6 e6 w6 ⟨z6_y0, z6_y1, v6_r, t6_r, rfl, rfl, f6_0, f6_1, f6_2⟩
 simp only [ca_, na_]
 refine gA rfl rfl (go_nil ?_)
 obtain rfl := someI hF
 exact g_retO (rst rfl rs0) (.cons .z (.cons .z (.cons .z .nil))) e6 w6 (nd1 f6_0.nd (nd1 f6_1.nd (ndc f6_2 nd0))) ⟨_, _, _, _, rfl, rfl, f6_0, f6_1, f6_2⟩
theorem s_bst_Tree_grow_1_1_1_2 {rc : RC} (hrc : RCok rc) {h : Heap} (hw : Wf h) (p0 : Obst_Tree) (p0o0 : Omem_Mem) (p1 : Obst_Call) (p3 : Tbst_node) {bp0 bp0_1 : Nat} {z0 : List Blk} {bp1 : Nat} {z1 : List Blk} {b2 : Nat} {b3 : Nat} (y0 : Zbst_Tree h bp0 bp0_1 z0 p0 p0o0) (y1 : Zbst_Call h bp1 z1 p1) (g2 : BK h b2 [pt bp1] 85) (g3 : BK h b3 [.string p3.key, .int .i64 p3.top, .int .u64 p3.val, .int .i64 p3.cell] 127) {r : _} (hF : F_bst_Tree_grow_1_1_1_2 rc p0 p0o0 p1 p3 = some r) :
 EvO EE 147 [pt b2, pt b3] [z0, z1] h (fun v S h1 => ∃ zy0 zy1 vr tr, v = vr ∧ S = [zy0, zy1, tr] ∧ Zbst_Tree h1 bp0 bp0_1 zy0 r.2.1 r.2.2.1 ∧ Zbst_Call h1 bp1 zy1 r.2.2.2 ∧ OC h1 bp0 bp1 tr r.1 vr) := by
 unfold F_bst_Tree_grow_1_1_1_2 at hF
 refine evo_of rfl at_147 rfl rfl ?_
 refine go_seq (go_region (gAc rfl rfl (go_nil (go_seq (go_region (glc ag_85 g2 rfl rfl rfl (gF (fa_127_2 _ _) rfl rfl (glc ag_93 g3 rfl rfl rfl ?_))))))))
 obtain ⟨x5, hx5, hF⟩ := obind hF
 refine kcX EE_fr hw (.cons .z (.cons .z .nil)) rfl of (ops_t rfl (ops_c rfl (ops_t rfl os0))) hb_76 (s_bst_Call_tell hrc hw p0 p0o0 p1 true p3.val y0 y1 hx5) ?_
 rintro _ _ h5 e5 w5 ⟨z5_y0, z5_y1, v5_r, t5_r, rfl, rfl, f5_0, f5_1, f5_2⟩
 simp only [ca_, na_]
 refine gA rfl rfl (go_nil ?_)
 obtain rfl := someI hF
 exact g_retO (rst rfl rs0) (.cons .z (.cons .z (.cons .z .nil))) e5 w5 (nd1 f5_0.nd (nd1 f5_1.nd (ndc f5_2 nd0))) ⟨_, _, _, _, rfl, rfl, f5_0, f5_1, f5_2⟩
theorem s_bst_Tree_loses_1 {rc : RC} (hrc : RCok rc) {h : Heap} (hw : Wf h) (p0 : Obst_Tree) (p0o0 : Omem_Mem) (p1 : Obst_Call) (p3 : Tbst_info) (p4 : Int) (p5 : Int) (p6 : Clo) {bp0 bp0_1 : Nat} {z0 : List Blk} {bp1 : Nat} {z1 : List Blk} {b2 : Nat} {b3 : Nat} {b4 : Nat} {b5 : Nat} {b6 : Nat} {v6 : Value} (y0 : Zbst_Tree h bp0 bp0_1 z0 p0 p0o0) (y1 : Zbst_Call h bp1 z1 p1) (g2 : BK h b2 [pt bp0] 61) (g3 : BK h b3 [.int .i64 p3.grand, .int .i64 p3.parent, .int .i64 p3.leaf, .int .i64 p3.next, .int .u64 p3.was] 155) (g4 : BK h b4 [.int .u64 p4] 93) (g5 : BK h b5 [.int .i64 p5] 3) (g6 : BK h b6 [v6] 201) (c6 : CO h bp0 bp1 [] p6 v6) {r : _} (hF : F_bst_Tree_loses_1 rc p0 p0o0 p1 p3 p4 p5 p6 = some r) :
 EvO EE 148 [pt b2, pt b3, pt b4, pt b5, pt b6] [z0, z1] h (fun v S h1 => ∃ zy0 zy1 vr tr, v = vr ∧ S = [zy0, zy1, tr] ∧ Zbst_Tree h1 bp0 bp0_1 zy0 r.2.1 r.2.2.1 ∧ Zbst_Call h1 bp1 zy1 r.2.2.2 ∧ OC h1 bp0 bp1 tr r.1 vr) := by
 unfold F_bst_Tree_loses_1 at hF
 refine evo_of rfl at_148 rfl rfl ?_
 refine go_seq (go_region (gAc rfl rfl (go_nil (go_seq (go_regions (L := sq 0 7 ++ sq 8 3 ++ [(7, [0, 3, 9, 10])] ++ sq 11 6) (by kernel_rfl) (by kernel_rfl) (fun _ => rfl) (go_sop rfl rfl (glc ag_61 g2 rfl rfl rfl (go_nil (go_sop rfl rfl (gN rfl rfl (go_nil (go_sop rfl rfl (gF (fa_131_0 _ _) rfl rfl (go_nil (go_sop rfl rfl ?_)))))))))))))))
 obtain ⟨q8z_1, t8z_1, q8z_2, t8z_2, z8z_0, rfl, f8z0, f8z1, f8z2⟩ := y0
 refine gs_unz ?_
 simp only [ca_, na_]
 refine gls 0 ag_51 rfl rfl rfl rfl (go_nil (go_sop rfl rfl (glc ag_61 g2 rfl rfl rfl (go_nil (go_sop rfl rfl (gF (fa_155_1 _ _) rfl rfl (go_nil (go_sop rfl rfl (glc ag_3 g3 rfl rfl rfl (go_nil (go_sop rfl rfl (gF (fa_155_4 _ _) rfl rfl (go_nil (go_sop rfl rfl (glc ag_93 g3 rfl rfl rfl (go_nil (go_sop rfl rfl (glc ag_93 g4 rfl rfl rfl (go_nil (go_sopc [(0, pt bp0), (3, pt bp0_1), (9, .int .u64 p3.was), (10, .int .u64 p4)] rfl rfl rfl (rc1 rfl (r_load (ot rfl) (v := pt bp0) (lo_e (fun hf kn => ld_cell ag_61 (g2.ext kn) rfl))) (rc1 rfl (r_load (ot rfl) (lm_s (mem_seg 0 rfl) ag_51 rfl)) (rc1 rfl (r_load (ot rfl) (v := .int .u64 p3.was) (lo_e (fun hf kn => ld_cell ag_93 (g3.ext kn) rfl))) (rc1 rfl (r_load (ot rfl) (v := .int .u64 p4) (lo_e (fun hf kn => ld_cell ag_93 (g4.ext kn) rfl))) rc0)))) (vq1 (veq_ptr _ _) (vq1 (veq_ptr _ _) (vq1 (veq_int _ _ _) (vq1 (veq_int _ _ _) vq0)))) rfl (gs_pack (fun s => Zbst_Tree h bp0 bp0_1 s p0 p0o0) (.cons .z (.cons .z (.cons .z (.cons .z .nil)))) ⟨_, _, _, _, _, rfl, f8z0, f8z1, f8z2⟩ fun z10p y10p => ?_)))))))))))))))))))))
 obtain ⟨x9, hx9, hF⟩ := obind hF
 refine kcX EE_fr hw (.cons .z .nil) rfl of (ops_t rfl (ops_t rfl (ops_c rfl os0))) hb_114 (s_bst_Tree_cell hw p0 p0o0 p3.parent 0 y10p hx9) ?_
 rintro _ _ h9 e9 w9 ⟨z9_y0, rfl, rfl, f9_0⟩
 simp only [ca_, na_]
 refine go_nil ?_
 obtain ⟨q11z_1, t11z_1, q11z_2, t11z_2, z11z_0, rfl, f11z0, f11z1, f11z2⟩ := f9_0
 refine gs_unz ?_
 simp only [ca_, na_]
 refine go_rck (rcc ag_61 (g2.ext e9.kn) rfl rfl rfl (rcs 0 ag_51 rfl rfl rfl rfl (rcc ag_93 (g3.ext e9.kn) rfl rfl rfl (rcc ag_93 (g4.ext e9.kn) rfl rfl rfl rc0)))) (go_sop rfl rfl ?_)
 obtain ⟨x12, hx12, hF⟩ := obind hF
 refine kcX EE_fr w9 (.cons (.s (.s (.s (.z)))) .nil) rfl of (ops_t rfl (ops_t rfl (ops_t rfl (ops_t rfl os0)))) hb_129 (s_mem_Mem_CAS w9 x9.2.2 x9.1 p3.was p4 f11z2 hx12) ?_
 rintro _ _ h12 e12 w12 ⟨z12_y0, rfl, rfl, f12_0⟩
 simp only [ca_, na_]
 refine go_nil (go_sop rfl rfl (gM rfl rfl (go_nil (go_sop rfl rfl (gE rfl rfl rfl (go_nil (go_sop rfl rfl (gE rfl rfl rfl (go_nil (go_sop rfl rfl (gA rfl rfl (go_nil (go_sop rfl rfl (gA rfl rfl (go_nil (go_snil (go_seq (go_seq (go_region (gM rfl rfl (gM rfl rfl (grf rfl rfl rfl rfl (r_move (ot rfl)) (grf rfl rfl rfl rfl (r_load (ot rfl) (v := .int .u64 p4) (lo_e (fun hf kn => ld_cell ag_93 (((g4.ext e9.kn).ext e12.kn).ext kn) rfl))) ?_)))))))))))))))))))))))
 refine grf rfl rfl rfl rfl (r_bin (og rfl id) (og rfl id) rfl) (gr rfl (r_pickb (ot rfl) (oc rfl) (og rfl id)) (go_nil ?_))
 refine g_cond (b := (bif x12.2.1 then true else (x12.1 == p4))) (ot rfl) (fun hc13 => ?_) (fun hc13 => ?_)
 ·
  replace hF := ifT hc13 hF
  refine go_seq (go_region (glc ag_61 ((g2.ext e9.kn).ext e12.kn) rfl rfl rfl (glc ag_3 ((g5.ext e9.kn).ext e12.kn) rfl rfl rfl (gr rfl (r_func os0 (os1 (ot rfl) os0)) ?_))))
  have co15 : CO h12 bp0 bp1 [] (Clo.c_loses_1_1 p6) (.func (.func 149) #[] #[pt b6]) := CO.c_loses_1_1 ((g6.ext e9.kn).ext e12.kn) ((c6.ext e9.kn).ext e12.kn)
  refine gs_pack (fun s => Zbst_Tree h12 bp0 bp0_1 s x9.2.1 x12.2.2) (.cons (.s (.z)) (.cons (.s (.z)) (.cons (.s (.z)) (.cons .z .nil)))) ⟨_, _, _, _, _, rfl, (f11z0.ext e12.kn), (f11z1.ext e12.kn), f12_0⟩ fun z16p y16p => ?_
  obtain ⟨x14, hx14, hF⟩ := obind hF
  refine kcX EE_fr w12 (.cons .z (.cons .z .nil)) rfl of (ops_t rfl (ops_t rfl (ops_t rfl os0))) hb_142 (s_bst_Tree_goes hrc w12 x9.2.1 x12.2.2 p1 p5 (Clo.c_loses_1_1 p6) y16p ((y1.ext e9.kn).ext e12.kn) co15 hx14) ?_
  rintro _ _ h14 e14 w14 ⟨z14_y0, z14_y1, v14_r, t14_r, rfl, rfl, f14_0, f14_1, f14_2⟩
  simp only [ca_, na_]
  refine gA rfl rfl (go_nil ?_)
  obtain rfl := someI hF
  exact g_retO (rst rfl rs0) (.cons .z (.cons .z (.cons .z .nil))) (e9.trans (e12.trans e14)) w14 (nd1 f14_0.nd (nd1 f14_1.nd (ndc f14_2 nd0))) ⟨_, _, _, _, rfl, rfl, f14_0, f14_1, f14_2⟩
 ·
  replace hF := ifF hc13 hF
  refine go_skip (go_seq (go_region (glc ag_61 ((g2.ext e9.kn).ext e12.kn) rfl rfl rfl (gM rfl rfl (gr rfl (r_func os0 (os1 (ot rfl) (os1 (ot rfl) (os1 (ot rfl) (os1 (ot rfl) os0))))) ?_)))))
  have co18 : CO h12 bp0 bp1 [] (Clo.c_loses_1_2 p3 p5 p6) (.func (.func 150) #[] #[pt b2, pt b3, pt b5, pt b6]) := CO.c_loses_1_2 ((g2.ext e9.kn).ext e12.kn) ((g3.ext e9.kn).ext e12.kn) ((g5.ext e9.kn).ext e12.kn) ((g6.ext e9.kn).ext e12.kn) ((c6.ext e9.kn).ext e12.kn)
  refine gs_pack (fun s => Zbst_Tree h12 bp0 bp0_1 s x9.2.1 x12.2.2) (.cons (.s (.z)) (.cons (.s (.z)) (.cons (.s (.z)) (.cons .z .nil)))) ⟨_, _, _, _, _, rfl, (f11z0.ext e12.kn), (f11z1.ext e12.kn), f12_0⟩ fun z19p y19p => ?_
  obtain ⟨x17, hx17, hF⟩ := obind hF
  refine kcX EE_fr w12 (.cons .z (.cons .z .nil)) rfl of (ops_t rfl (ops_t rfl (ops_t rfl os0))) hb_120 (s_bst_Tree_help hrc w12 x9.2.1 x12.2.2 p1 x12.1 (Clo.c_loses_1_2 p3 p5 p6) y19p ((y1.ext e9.kn).ext e12.kn) co18 hx17) ?_
  rintro _ _ h17 e17 w17 ⟨z17_y0, z17_y1, v17_r, t17_r, rfl, rfl, f17_0, f17_1, f17_2⟩
  simp only [ca_, na_]
  refine gA rfl rfl (go_nil ?_)
  obtain rfl := someI hF
  exact g_retO (rst rfl rs0) (.cons .z (.cons .z (.cons .z .nil))) (e9.trans (e12.trans e17)) w17 (nd1 f17_0.nd (nd1 f17_1.nd (ndc f17_2 nd0))) ⟨_, _, _, _, rfl, rfl, f17_0, f17_1, f17_2⟩
theorem s_bst_Tree_loses_1_1 {rc : RC} (hrc : RCok rc) {h : Heap} (hw : Wf h) (p0 : Obst_Tree) (p0o0 : Omem_Mem) (p1 : Obst_Call) (p2 : Clo) {bp0 bp0_1 : Nat} {z0 : List Blk} {bp1 : Nat} {z1 : List Blk} {b2 : Nat} {v2 : Value} (y0 : Zbst_Tree h bp0 bp0_1 z0 p0 p0o0) (y1 : Zbst_Call h bp1 z1 p1) (g2 : BK h b2 [v2] 201) (c2 : CO h bp0 bp1 [] p2 v2) {r : _} (hF : F_bst_Tree_loses_1_1 rc p0 p0o0 p1 p2 = some r) :
 EvO EE 149 [pt b2] [z0, z1] h (fun v S h1 => ∃ zy0 zy1 vr tr, v = vr ∧ S = [zy0, zy1, tr] ∧ Zbst_Tree h1 bp0 bp0_1 zy0 r.2.1 r.2.2.1 ∧ Zbst_Call h1 bp1 zy1 r.2.2.2 ∧ OC h1 bp0 bp1 tr r.1 vr) := by
 unfold F_bst_Tree_loses_1_1 at hF
 refine evo_of rfl at_149 rfl rfl ?_
 refine go_seq (go_region (gAc rfl rfl (go_nil (go_seq (go_region (glc ag_201 g2 rfl rfl rfl ?_))))))
 obtain ⟨x4, hx4, hF⟩ := obind hF
 refine gs_calld EE_fr hw (.cons .z (.cons .z (.emp .nil))) (fun _ h => by cases h; rfl) (ot rfl) (os1 (oc rfl) os0) (by exact hrc hw p0 p0o0 p1 y0 y1 p2 (Arg.b true) [] c2 hx4) ?_
 rintro _ _ h4 e4 w4 ⟨z4_y0, z4_y1, v4_r, t4_r, rfl, rfl, f4_0, f4_1, f4_2⟩
 simp only [ca_, na_]
 refine gA rfl rfl (go_nil ?_)
 obtain rfl := someI hF
 exact g_retO (rst rfl rs0) (.cons .z (.cons .z (.cons .z .nil))) e4 w4 (nd1 f4_0.nd (nd1 f4_1.nd (ndc f4_2 nd0))) ⟨_, _, _, _, rfl, rfl, f4_0, f4_1, f4_2⟩
theorem s_bst_Tree_clean {rc : RC} (hrc : RCok rc) {h : Heap} (hw : Wf h) (p0 : Obst_Tree) (p0o0 : Omem_Mem) (p1 : Obst_Call) (p3 : Int) (p4 : Int) (p5 : Int) (p6 : Clo) {bp0 bp0_1 : Nat} {z0 : List Blk} {bp1 : Nat} {z1 : List Blk} {v6 : Value} (y0 : Zbst_Tree h bp0 bp0_1 z0 p0 p0o0) (y1 : Zbst_Call h bp1 z1 p1) (c6 : CO h bp0 bp1 [] p6 v6) {r : _} (hF : F_bst_Tree_clean rc p0 p0o0 p1 p3 p4 p5 p6 = some r) :
 EvO EE 151 [pt bp0, .int .i64 p3, .int .i64 p4, .int .i64 p5, v6] [z0, z1] h (fun v S h1 => ∃ zy0 zy1 vr tr, v = vr ∧ S = [zy0, zy1, tr] ∧ Zbst_Tree h1 bp0 bp0_1 zy0 r.2.1 r.2.2.1 ∧ Zbst_Call h1 bp1 zy1 r.2.2.2 ∧ OC h1 bp0 bp1 tr r.1 vr) := by
 unfold F_bst_Tree_clean at hF
 refine evo_of rfl at_151 rfl rfl ?_
 refine go_seq (go_region (gs_box rfl (ot rfl) rfl (fun b5_8 => gs_box rfl (ot rfl) rfl (fun b6_9 => gs_box rfl (ot rfl) rfl (fun b7_10 => gs_box rfl (ot rfl) rfl (fun b8_11 => gs_box rfl (ot rfl) (CO.one c6) (fun b9_12 => gAc rfl rfl (go_nil (go_seq (go_region (gr rfl (r_func os0 (os1 (ot rfl) (os1 (ot rfl) (os1 (ot rfl) (os1 (ot rfl) (os1 (ot rfl) os0)))))) (gA rfl rfl (go_nil (gs_pub (.s (.s (.s (.s (.z))))) (fun h13 e13 w13 hb13 => ?_)))))))))))))))
 have g13_ : BK h13 b5_8 [pt bp0] 61 := hb13
 refine gs_pub (.s (.s (.s (.z)))) (fun h14 e14 w14 hb14 => ?_)
 have g14_ : BK h14 b6_9 [.int .i64 p3] 3 := hb14
 refine gs_pub (.s (.s (.z))) (fun h15 e15 w15 hb15 => ?_)
 have g15_ : BK h15 b7_10 [.int .i64 p4] 3 := hb15
 refine gs_pub (.s (.z)) (fun h16 e16 w16 hb16 => ?_)
 have g16_ : BK h16 b8_11 [.int .i64 p5] 3 := hb16
 refine gs_pub .z (fun h17 e17 w17 hb17 => ?_)
 have g17_ : BK h17 b9_12 [v6] 134 := hb17
 have co18 : CO h17 bp0 bp1 [] (Clo.c_clean_1 p3 p4 p5 p6) (.func (.func 159) #[] #[pt b5_8, pt b6_9, pt b7_10, pt b8_11, pt b9_12]) := CO.c_clean_1 ((((g13_.ext e14.kn).ext e15.kn).ext e16.kn).ext e17.kn) (((g14_.ext e15.kn).ext e16.kn).ext e17.kn) ((g15_.ext e16.kn).ext e17.kn) (g16_.ext e17.kn) g17_ (((((c6.ext e13.kn).ext e14.kn).ext e15.kn).ext e16.kn).ext e17.kn)
 obtain rfl := someI hF
 exact g_retO (rst rfl rs0) (.cons .z (.cons .z (.emp .nil))) (e13.trans (e14.trans (e15.trans (e16.trans e17)))) w17 (nd1 (((((y0.ext e13.kn).ext e14.kn).ext e15.kn).ext e16.kn).ext e17.kn).nd (nd1 (((((y1.ext e13.kn).ext e14.kn).ext e15.kn).ext e16.kn).ext e17.kn).nd (nde nd0))) ⟨_, _, _, _, rfl, rfl, (((((y0.ext e13.kn).ext e14.kn).ext e15.kn).ext e16.kn).ext e17.kn), (((((y1.ext e13.kn).ext e14.kn).ext e15.kn).ext e16.kn).ext e17.kn), (OC.some co18)⟩
theorem s_bst_Tree_loses_1_2 {rc : RC} (hrc : RCok rc) {h : Heap} (hw : Wf h) (p0 : Obst_Tree) (p0o0 : Omem_Mem) (p1 : Obst_Call) (p3 : Tbst_info) (p4 : Int) (p5 : Clo) {bp0 bp0_1 : Nat} {z0 : List Blk} {bp1 : Nat} {z1 : List Blk} {b2 : Nat} {b3 : Nat} {b4 : Nat} {b5 : Nat} {v5 : Value} (y0 : Zbst_Tree h bp0 bp0_1 z0 p0 p0o0) (y1 : Zbst_Call h bp1 z1 p1) (g2 : BK h b2 [pt bp0] 61) (g3 : BK h b3 [.int .i64 p3.grand, .int .i64 p3.parent, .int .i64 p3.leaf, .int .i64 p3.next, .int .u64 p3.was] 155) (g4 : BK h b4 [.int .i64 p4] 3) (g5 : BK h b5 [v5] 201) (c5 : CO h bp0 bp1 [] p5 v5) {r : _} (hF : F_bst_Tree_loses_1_2 rc p0 p0o0 p1 p3 p4 p5 = some r) :
 EvO EE 150 [pt b2, pt b3, pt b4, pt b5] [z0, z1] h (fun v S h1 => ∃ zy0 zy1 vr tr, v = vr ∧ S = [zy0, zy1, tr] ∧ Zbst_Tree h1 bp0 bp0_1 zy0 r.2.1 r.2.2.1 ∧ Zbst_Call h1 bp1 zy1 r.2.2.2 ∧ OC h1 bp0 bp1 tr r.1 vr) := by
 unfold F_bst_Tree_loses_1_2 at hF
 refine evo_of rfl at_150 rfl rfl ?_
 refine go_seq (go_region (gAc rfl rfl (go_nil (go_seq (go_region (glc ag_61 g2 rfl rfl rfl (gF (fa_155_0 _ _) rfl rfl (glc ag_3 g3 rfl rfl rfl (glc ag_3 g4 rfl rfl rfl (gr rfl (r_func os0 (os1 (ot rfl) os0)) ?_))))))))))
 have co8 : CO h bp0 bp1 [] (Clo.c_loses_1_2_1 p5) (.func (.func 152) #[] #[pt b5]) := CO.c_loses_1_2_1 g5 c5
 obtain ⟨x7, hx7, hF⟩ := obind hF
 refine kcX EE_fr hw (.cons .z (.cons .z .nil)) rfl of (ops_t rfl (ops_t rfl (ops_c rfl (ops_t rfl (ops_t rfl os0))))) hb_151 (s_bst_Tree_clean hrc hw p0 p0o0 p1 p3.grand 2 p4 (Clo.c_loses_1_2_1 p5) y0 y1 co8 hx7) ?_
 rintro _ _ h7 e7 w7 ⟨z7_y0, z7_y1, v7_r, t7_r, rfl, rfl, f7_0, f7_1, f7_2⟩
 simp only [ca_, na_]
 refine gA rfl rfl (go_nil ?_)
 obtain rfl := someI hF
 exact g_retO (rst rfl rs0) (.cons .z (.cons .z (.cons .z .nil))) e7 w7 (nd1 f7_0.nd (nd1 f7_1.nd (ndc f7_2 nd0))) ⟨_, _, _, _, rfl, rfl, f7_0, f7_1, f7_2⟩
theorem s_bst_Tree_loses_1_2_1 {rc : RC} (hrc : RCok rc) {h : Heap} (hw : Wf h) (p0 : Obst_Tree) (p0o0 : Omem_Mem) (p1 : Obst_Call) (p2 : Clo) {bp0 bp0_1 : Nat} {z0 : List Blk} {bp1 : Nat} {z1 : List Blk} {b2 : Nat} {v2 : Value} (y0 : Zbst_Tree h bp0 bp0_1 z0 p0 p0o0) (y1 : Zbst_Call h bp1 z1 p1) (g2 : BK h b2 [v2] 201) (c2 : CO h bp0 bp1 [] p2 v2) {r : _} (hF : F_bst_Tree_loses_1_2_1 rc p0 p0o0 p1 p2 = some r) :
 EvO EE 152 [pt b2] [z0, z1] h (fun v S h1 => ∃ zy0 zy1 vr tr, v = vr ∧ S = [zy0, zy1, tr] ∧ Zbst_Tree h1 bp0 bp0_1 zy0 r.2.1 r.2.2.1 ∧ Zbst_Call h1 bp1 zy1 r.2.2.2 ∧ OC h1 bp0 bp1 tr r.1 vr) := by
 unfold F_bst_Tree_loses_1_2_1 at hF
 refine evo_of rfl at_152 rfl rfl ?_
 refine go_seq (go_region (gAc rfl rfl (go_nil (go_seq (go_region (glc ag_201 g2 rfl rfl rfl ?_))))))
 obtain ⟨x4, hx4, hF⟩ := obind hF
 refine gs_calld EE_fr hw (.cons .z (.cons .z (.emp .nil))) (fun _ h => by cases h; rfl) (ot rfl) (os1 (oc rfl) os0) (by exact hrc hw p0 p0o0 p1 y0 y1 p2 (Arg.b false) [] c2 hx4) ?_
 rintro _ _ h4 e4 w4 ⟨z4_y0, z4_y1, v4_r, t4_r, rfl, rfl, f4_0, f4_1, f4_2⟩
 simp only [ca_, na_]
 refine gA rfl rfl (go_nil ?_)
 obtain rfl := someI hF
 exact g_retO (rst rfl rs0) (.cons .z (.cons .z (.cons .z .nil))) e4 w4 (nd1 f4_0.nd (nd1 f4_1.nd (ndc f4_2 nd0))) ⟨_, _, _, _, rfl, rfl, f4_0, f4_1, f4_2⟩
theorem s_bst_Tree_grows_1 {rc : RC} (hrc : RCok rc) {h : Heap} (hw : Wf h) (p0 : Obst_Tree) (p0o0 : Omem_Mem) (p1 : Obst_Call) (p3 : Tbst_info) (p4 : Int) (p5 : Clo) {bp0 bp0_1 : Nat} {z0 : List Blk} {bp1 : Nat} {z1 : List Blk} {b2 : Nat} {b3 : Nat} {b4 : Nat} {b5 : Nat} {v5 : Value} (y0 : Zbst_Tree h bp0 bp0_1 z0 p0 p0o0) (y1 : Zbst_Call h bp1 z1 p1) (g2 : BK h b2 [pt bp0] 61) (g3 : BK h b3 [.int .i64 p3.grand, .int .i64 p3.parent, .int .i64 p3.leaf, .int .i64 p3.next, .int .u64 p3.was] 155) (g4 : BK h b4 [.int .i64 p4] 3) (g5 : BK h b5 [v5] 134) (c5 : CO h bp0 bp1 [] p5 v5) {r : _} (hF : F_bst_Tree_grows_1 rc p0 p0o0 p1 p3 p4 p5 = some r) :
 EvO EE 154 [pt b2, pt b3, pt b4, pt b5] [z0, z1] h (fun v S h1 => ∃ zy0 zy1 vr tr, v = vr ∧ S = [zy0, zy1, tr] ∧ Zbst_Tree h1 bp0 bp0_1 zy0 r.2.1 r.2.2.1 ∧ Zbst_Call h1 bp1 zy1 r.2.2.2 ∧ OC h1 bp0 bp1 tr r.1 vr) := by
 unfold F_bst_Tree_grows_1 at hF
 refine evo_of rfl at_154 rfl rfl ?_
 refine go_seq (go_region (gAc rfl rfl (go_nil (go_seq (go_region (glc ag_61 g2 rfl rfl rfl (gF (fa_155_1 _ _) rfl rfl (glc ag_3 g3 rfl rfl rfl (glc ag_3 g4 rfl rfl rfl (glc ag_134 g5 rfl rfl rfl ?_))))))))))
 obtain ⟨x7, hx7, hF⟩ := obind hF
 refine kcX EE_fr hw (.cons .z (.cons .z .nil)) rfl of (ops_t rfl (ops_t rfl (ops_c rfl (ops_t rfl (ops_t rfl os0))))) hb_151 (s_bst_Tree_clean hrc hw p0 p0o0 p1 p3.parent 1 p4 p5 y0 y1 c5 hx7) ?_
 rintro _ _ h7 e7 w7 ⟨z7_y0, z7_y1, v7_r, t7_r, rfl, rfl, f7_0, f7_1, f7_2⟩
 simp only [ca_, na_]
 refine gA rfl rfl (go_nil ?_)
 obtain rfl := someI hF
 exact g_retO (rst rfl rs0) (.cons .z (.cons .z (.cons .z .nil))) e7 w7 (nd1 f7_0.nd (nd1 f7_1.nd (ndc f7_2 nd0))) ⟨_, _, _, _, rfl, rfl, f7_0, f7_1, f7_2⟩
theorem s_bst_Tree_goes_1 {rc : RC} (hrc : RCok rc) {h : Heap} (hw : Wf h) (p0 : Obst_Tree) (p0o0 : Omem_Mem) (p1 : Obst_Call) (p2 : Int) (p4 : Tbst_info) (p5 : Int) (p6 : Clo) {bp0 bp0_1 : Nat} {z0 : List Blk} {bp1 : Nat} {z1 : List Blk} {b3 : Nat} {b4 : Nat} {b5 : Nat} {b6 : Nat} {v6 : Value} (y0 : Zbst_Tree h bp0 bp0_1 z0 p0 p0o0) (y1 : Zbst_Call h bp1 z1 p1) (g3 : BK h b3 [pt bp0] 61) (g4 : BK h b4 [.int .i64 p4.grand, .int .i64 p4.parent, .int .i64 p4.leaf, .int .i64 p4.next, .int .u64 p4.was] 155) (g5 : BK h b5 [.int .i64 p5] 3) (g6 : BK h b6 [v6] 134) (c6 : CO h bp0 bp1 [] p6 v6) {r : _} (hF : F_bst_Tree_goes_1 rc p0 p0o0 p1 p2 p4 p5 p6 = some r) :
 EvO EE 155 [.int .u64 p2, pt b3, pt b4, pt b5, pt b6] [z0, z1] h (fun v S h1 => ∃ zy0 zy1 vr tr, v = vr ∧ S = [zy0, zy1, tr] ∧ Zbst_Tree h1 bp0 bp0_1 zy0 r.2.1 r.2.2.1 ∧ Zbst_Call h1 bp1 zy1 r.2.2.2 ∧ OC h1 bp0 bp1 tr r.1 vr) := by
 unfold F_bst_Tree_goes_1 at hF
 refine evo_of rfl at_155 rfl rfl ?_
 refine go_seq (go_region (gAc rfl rfl (go_nil (go_seq (go_region (glc ag_61 g3 rfl rfl rfl (gF (fa_155_0 _ _) rfl rfl (glc ag_3 g4 rfl rfl rfl (gF (fa_155_1 _ _) rfl rfl (glc ag_3 g4 rfl rfl rfl (gM rfl rfl (gr rfl (r_conv (ot rfl) rfl) (gr rfl (r_func os0 (os1 (ot rfl) (os1 (ot rfl) (os1 (ot rfl) (os1 (ot rfl) os0))))) ?_)))))))))))))
 have co9 : CO h bp0 bp1 [] (Clo.c_goes_1_1 p4 p5 p6) (.func (.func 156) #[] #[pt b3, pt b4, pt b5, pt b6]) := CO.c_goes_1_1 g3 g4 g5 g6 c6
 obtain ⟨x8, hx8, hF⟩ := obind hF
 refine kcX EE_fr hw (.cons .z (.cons .z .nil)) rfl of (ops_t rfl (ops_t rfl (ops_t rfl (ops_t rfl (ops_t rfl os0))))) hb_153 (s_bst_Tree_turn hrc hw p0 p0o0 p1 p4.grand p4.parent (IntKind.i64.wrap p2) (Clo.c_goes_1_1 p4 p5 p6) y0 y1 co9 hx8) ?_
 rintro _ _ h8 e8 w8 ⟨z8_y0, z8_y1, v8_r, t8_r, rfl, rfl, f8_0, f8_1, f8_2⟩
 simp only [ca_, na_]
 refine gA rfl rfl (go_nil ?_)
 obtain rfl := someI hF
 exact g_retO (rst rfl rs0) (.cons .z (.cons .z (.cons .z .nil))) e8 w8 (nd1 f8_0.nd (nd1 f8_1.nd (ndc f8_2 nd0))) ⟨_, _, _, _, rfl, rfl, f8_0, f8_1, f8_2⟩
theorem s_bst_Tree_goes_1_1 {rc : RC} (hrc : RCok rc) {h : Heap} (hw : Wf h) (p0 : Obst_Tree) (p0o0 : Omem_Mem) (p1 : Obst_Call) (p3 : Tbst_info) (p4 : Int) (p5 : Clo) {bp0 bp0_1 : Nat} {z0 : List Blk} {bp1 : Nat} {z1 : List Blk} {b2 : Nat} {b3 : Nat} {b4 : Nat} {b5 : Nat} {v5 : Value} (y0 : Zbst_Tree h bp0 bp0_1 z0 p0 p0o0) (y1 : Zbst_Call h bp1 z1 p1) (g2 : BK h b2 [pt bp0] 61) (g3 : BK h b3 [.int .i64 p3.grand, .int .i64 p3.parent, .int .i64 p3.leaf, .int .i64 p3.next, .int .u64 p3.was] 155) (g4 : BK h b4 [.int .i64 p4] 3) (g5 : BK h b5 [v5] 134) (c5 : CO h bp0 bp1 [] p5 v5) {r : _} (hF : F_bst_Tree_goes_1_1 rc p0 p0o0 p1 p3 p4 p5 = some r) :
 EvO EE 156 [pt b2, pt b3, pt b4, pt b5] [z0, z1] h (fun v S h1 => ∃ zy0 zy1 vr tr, v = vr ∧ S = [zy0, zy1, tr] ∧ Zbst_Tree h1 bp0 bp0_1 zy0 r.2.1 r.2.2.1 ∧ Zbst_Call h1 bp1 zy1 r.2.2.2 ∧ OC h1 bp0 bp1 tr r.1 vr) := by
 unfold F_bst_Tree_goes_1_1 at hF
 refine evo_of rfl at_156 rfl rfl ?_
 refine go_seq (go_region (gAc rfl rfl (go_nil (go_seq (go_region (glc ag_61 g2 rfl rfl rfl (gF (fa_155_0 _ _) rfl rfl (glc ag_3 g3 rfl rfl rfl (glc ag_3 g4 rfl rfl rfl (glc ag_134 g5 rfl rfl rfl ?_))))))))))
 obtain ⟨x7, hx7, hF⟩ := obind hF
 refine kcX EE_fr hw (.cons .z (.cons .z .nil)) rfl of (ops_t rfl (ops_t rfl (ops_c rfl (ops_t rfl (ops_t rfl os0))))) hb_151 (s_bst_Tree_clean hrc hw p0 p0o0 p1 p3.grand 2 p4 p5 y0 y1 c5 hx7) ?_
 rintro _ _ h7 e7 w7 ⟨z7_y0, z7_y1, v7_r, t7_r, rfl, rfl, f7_0, f7_1, f7_2⟩
 simp only [ca_, na_]
 refine gA rfl rfl (go_nil ?_)
 obtain rfl := someI hF
 exact g_retO (rst rfl rs0) (.cons .z (.cons .z (.cons .z .nil))) e7 w7 (nd1 f7_0.nd (nd1 f7_1.nd (ndc f7_2 nd0))) ⟨_, _, _, _, rfl, rfl, f7_0, f7_1, f7_2⟩
theorem s_bst_Tree_goes_2 {rc : RC} (hrc : RCok rc) {h : Heap} (hw : Wf h) (p0 : Obst_Tree) (p0o0 : Omem_Mem) (p1 : Obst_Call) (p3 : Tbst_info) (p4 : Clo) {bp0 bp0_1 : Nat} {z0 : List Blk} {bp1 : Nat} {z1 : List Blk} {b2 : Nat} {b3 : Nat} {b4 : Nat} {v4 : Value} (y0 : Zbst_Tree h bp0 bp0_1 z0 p0 p0o0) (y1 : Zbst_Call h bp1 z1 p1) (g2 : BK h b2 [pt bp0] 61) (g3 : BK h b3 [.int .i64 p3.grand, .int .i64 p3.parent, .int .i64 p3.leaf, .int .i64 p3.next, .int .u64 p3.was] 155) (g4 : BK h b4 [v4] 210) (c4 : CO h bp0 bp1 [] p4 v4) {r : _} (hF : F_bst_Tree_goes_2 rc p0 p0o0 p1 p3 p4 = some r) :
 EvO EE 157 [pt b2, pt b3, pt b4] [z0, z1] h (fun v S h1 => ∃ zy0 zy1 vr tr, v = vr ∧ S = [zy0, zy1, tr] ∧ Zbst_Tree h1 bp0 bp0_1 zy0 r.2.1 r.2.2.1 ∧ Zbst_Call h1 bp1 zy1 r.2.2.2 ∧ OC h1 bp0 bp1 tr r.1 vr) := by
 unfold F_bst_Tree_goes_2 at hF
 refine evo_of rfl at_157 rfl rfl ?_
 refine go_seq (go_region (gAc rfl rfl (go_nil (go_seq (go_regions (L := sq 0 7 ++ [(7, [0, 3])] ++ sq 8 6) (by kernel_rfl) (by kernel_rfl) (fun _ => rfl) (go_sop rfl rfl (glc ag_61 g2 rfl rfl rfl (go_nil (go_sop rfl rfl (gN rfl rfl (go_nil (go_sop rfl rfl (gF (fa_131_0 _ _) rfl rfl (go_nil (go_sop rfl rfl ?_)))))))))))))))
 obtain ⟨q6z_1, t6z_1, q6z_2, t6z_2, z6z_0, rfl, f6z0, f6z1, f6z2⟩ := y0
 refine gs_unz ?_
 simp only [ca_, na_]
 refine gls 0 ag_51 rfl rfl rfl rfl (go_nil (go_sop rfl rfl (glc ag_61 g2 rfl rfl rfl (go_nil (go_sop rfl rfl (gF (fa_155_1 _ _) rfl rfl (go_nil (go_sop rfl rfl (glc ag_3 g3 rfl rfl rfl (go_nil (go_sopc [(0, pt bp0), (3, pt bp0_1)] rfl rfl rfl (rc1 rfl (r_load (ot rfl) (v := pt bp0) (lo_e (fun hf kn => ld_cell ag_61 (g2.ext kn) rfl))) (rc1 rfl (r_load (ot rfl) (lm_s (mem_seg 0 rfl) ag_51 rfl)) rc0)) (vq1 (veq_ptr _ _) (vq1 (veq_ptr _ _) vq0)) rfl (gs_pack (fun s => Zbst_Tree h bp0 bp0_1 s p0 p0o0) (.cons .z (.cons .z (.cons .z (.cons .z .nil)))) ⟨_, _, _, _, _, rfl, f6z0, f6z1, f6z2⟩ fun z8p y8p => ?_))))))))))))
 obtain ⟨x7, hx7, hF⟩ := obind hF
 refine kcX EE_fr hw (.cons .z .nil) rfl of (ops_t rfl (ops_t rfl (ops_c rfl os0))) hb_114 (s_bst_Tree_cell hw p0 p0o0 p3.parent 2 y8p hx7) ?_
 rintro _ _ h7 e7 w7 ⟨z7_y0, rfl, rfl, f7_0⟩
 simp only [ca_, na_]
 refine go_nil ?_
 obtain ⟨q9z_1, t9z_1, q9z_2, t9z_2, z9z_0, rfl, f9z0, f9z1, f9z2⟩ := f7_0
 refine gs_unz ?_
 simp only [ca_, na_]
 refine go_rck (rcc ag_61 (g2.ext e7.kn) rfl rfl rfl (rcs 0 ag_51 rfl rfl rfl rfl rc0)) (go_sop rfl rfl ?_)
 obtain ⟨x10, hx10, hF⟩ := obind hF
 refine kcX EE_fr w7 (.cons (.s (.s (.s (.z)))) .nil) rfl of (ops_t rfl (ops_t rfl os0)) hb_79 (s_mem_Mem_Load w7 x7.2.2 x7.1 f9z2 hx10) ?_
 rintro _ _ h10 e10 w10 ⟨z10_y0, rfl, rfl, f10_0⟩
 simp only [ca_, na_]
 refine go_nil (go_sop rfl rfl (gM rfl rfl (go_nil (go_sop rfl rfl (gE rfl rfl rfl (go_nil (go_sop rfl rfl (gE rfl rfl rfl (go_nil (go_sop rfl rfl (gA rfl rfl (go_nil (go_sop rfl rfl (gA rfl rfl (go_nil (go_snil (go_seq (go_seq (go_region (gM rfl rfl (gr rfl (r_conv (ot rfl) rfl) (gF (fa_155_2 _ _) rfl rfl (glc ag_3 ((g3.ext e7.kn).ext e10.kn) rfl rfl rfl ?_)))))))))))))))))))))))
 refine gr rfl (r_bin (ot rfl) (ot rfl) rfl) (go_nil ?_)
 refine g_cond (b := ((IntKind.i64.wrap x10.1) != p3.leaf)) (ot rfl) (fun hc11 => ?_) (fun hc11 => ?_)
 ·
  replace hF := ifT hc11 hF
  refine go_seq (go_region (glc ag_210 ((g4.ext e7.kn).ext e10.kn) rfl rfl rfl (gM rfl rfl (gs_pack (fun s => Zbst_Tree h10 bp0 bp0_1 s x7.2.1 x10.2.2) (.cons (.s (.z)) (.cons (.s (.z)) (.cons (.s (.z)) (.cons .z .nil)))) ⟨_, _, _, _, _, rfl, (f9z0.ext e10.kn), (f9z1.ext e10.kn), f10_0⟩ fun z13p y13p => ?_))))
  obtain ⟨x12, hx12, hF⟩ := obind hF
  refine gs_calld EE_fr w10 (.cons .z (.cons .z (.emp .nil))) (fun _ h => by cases h; rfl) (ot rfl) (os1 (ot rfl) os0) (by exact hrc w10 x7.2.1 x10.2.2 p1 y13p ((y1.ext e7.kn).ext e10.kn) p4 (Arg.w x10.1) [] ((c4.ext e7.kn).ext e10.kn) hx12) ?_
  rintro _ _ h12 e12 w12 ⟨z12_y0, z12_y1, v12_r, t12_r, rfl, rfl, f12_0, f12_1, f12_2⟩
  simp only [ca_, na_]
  refine gA rfl rfl (go_nil ?_)
  obtain rfl := someI hF
  exact g_retO (rst rfl rs0) (.cons .z (.cons .z (.cons .z .nil))) (e7.trans (e10.trans e12)) w12 (nd1 f12_0.nd (nd1 f12_1.nd (ndc f12_2 nd0))) ⟨_, _, _, _, rfl, rfl, f12_0, f12_1, f12_2⟩
 ·
  replace hF := ifF hc11 hF
  refine go_skip (go_seq (go_region (gr rfl (r_func os0 (os1 (ot rfl) (os1 (ot rfl) (os1 (ot rfl) os0)))) (gA rfl rfl (go_nil ?_)))))
  have co14 : CO h10 bp0 bp1 [] (Clo.c_goes_2_1 p3 p4) (.func (.func 158) #[] #[pt b2, pt b3, pt b4]) := CO.c_goes_2_1 ((g2.ext e7.kn).ext e10.kn) ((g3.ext e7.kn).ext e10.kn) ((g4.ext e7.kn).ext e10.kn) ((c4.ext e7.kn).ext e10.kn)
  refine gs_pack (fun s => Zbst_Tree h10 bp0 bp0_1 s x7.2.1 x10.2.2) (.cons (.s (.z)) (.cons (.s (.z)) (.cons (.s (.z)) (.cons .z .nil)))) ⟨_, _, _, _, _, rfl, (f9z0.ext e10.kn), (f9z1.ext e10.kn), f10_0⟩ fun z15p y15p => ?_
  obtain rfl := someI hF
  exact g_retO (rst rfl rs0) (.cons .z (.cons .z (.emp .nil))) (e7.trans e10) w10 (nd1 y15p.nd (nd1 ((y1.ext e7.kn).ext e10.kn).nd (nde nd0))) ⟨_, _, _, _, rfl, rfl, y15p, ((y1.ext e7.kn).ext e10.kn), (OC.some co14)⟩
theorem s_bst_Tree_goes_2_1 {rc : RC} (hrc : RCok rc) {h : Heap} (hw : Wf h) (p0 : Obst_Tree) (p0o0 : Omem_Mem) (p1 : Obst_Call) (p3 : Tbst_info) (p4 : Clo) {bp0 bp0_1 : Nat} {z0 : List Blk} {bp1 : Nat} {z1 : List Blk} {b2 : Nat} {b3 : Nat} {b4 : Nat} {v4 : Value} (y0 : Zbst_Tree h bp0 bp0_1 z0 p0 p0o0) (y1 : Zbst_Call h bp1 z1 p1) (g2 : BK h b2 [pt bp0] 61) (g3 : BK h b3 [.int .i64 p3.grand, .int .i64 p3.parent, .int .i64 p3.leaf, .int .i64 p3.next, .int .u64 p3.was] 155) (g4 : BK h b4 [v4] 210) (c4 : CO h bp0 bp1 [] p4 v4) {r : _} (hF : F_bst_Tree_goes_2_1 rc p0 p0o0 p1 p3 p4 = some r) :
 EvO EE 158 [pt b2, pt b3, pt b4] [z0, z1] h (fun v S h1 => ∃ zy0 zy1 vr tr, v = vr ∧ S = [zy0, zy1, tr] ∧ Zbst_Tree h1 bp0 bp0_1 zy0 r.2.1 r.2.2.1 ∧ Zbst_Call h1 bp1 zy1 r.2.2.2 ∧ OC h1 bp0 bp1 tr r.1 vr) := by
 unfold F_bst_Tree_goes_2_1 at hF
 refine evo_of rfl at_158 rfl rfl ?_
 refine go_seq (go_region (gAc rfl rfl (go_nil (go_seq (go_regions (L := sq 0 7 ++ [(7, [0, 3])] ++ sq 8 6) (by kernel_rfl) (by kernel_rfl) (fun _ => rfl) (go_sop rfl rfl (glc ag_61 g2 rfl rfl rfl (go_nil (go_sop rfl rfl (gN rfl rfl (go_nil (go_sop rfl rfl (gF (fa_131_0 _ _) rfl rfl (go_nil (go_sop rfl rfl ?_)))))))))))))))
 obtain ⟨q6z_1, t6z_1, q6z_2, t6z_2, z6z_0, rfl, f6z0, f6z1, f6z2⟩ := y0
 refine gs_unz ?_
 simp only [ca_, na_]
 refine gls 0 ag_51 rfl rfl rfl rfl (go_nil (go_sop rfl rfl (glc ag_61 g2 rfl rfl rfl (go_nil (go_sop rfl rfl (gF (fa_155_1 _ _) rfl rfl (go_nil (go_sop rfl rfl (glc ag_3 g3 rfl rfl rfl (go_nil (go_sopc [(0, pt bp0), (3, pt bp0_1)] rfl rfl rfl (rc1 rfl (r_load (ot rfl) (v := pt bp0) (lo_e (fun hf kn => ld_cell ag_61 (g2.ext kn) rfl))) (rc1 rfl (r_load (ot rfl) (lm_s (mem_seg 0 rfl) ag_51 rfl)) rc0)) (vq1 (veq_ptr _ _) (vq1 (veq_ptr _ _) vq0)) rfl (gs_pack (fun s => Zbst_Tree h bp0 bp0_1 s p0 p0o0) (.cons .z (.cons .z (.cons .z (.cons .z .nil)))) ⟨_, _, _, _, _, rfl, f6z0, f6z1, f6z2⟩ fun z8p y8p => ?_))))))))))))
 obtain ⟨x7, hx7, hF⟩ := obind hF
 refine kcX EE_fr hw (.cons .z .nil) rfl of (ops_t rfl (ops_t rfl (ops_c rfl os0))) hb_114 (s_bst_Tree_cell hw p0 p0o0 p3.parent 1 y8p hx7) ?_
 rintro _ _ h7 e7 w7 ⟨z7_y0, rfl, rfl, f7_0⟩
 simp only [ca_, na_]
 refine go_nil ?_
 obtain ⟨q9z_1, t9z_1, q9z_2, t9z_2, z9z_0, rfl, f9z0, f9z1, f9z2⟩ := f7_0
 refine gs_unz ?_
 simp only [ca_, na_]
 refine go_rck (rcc ag_61 (g2.ext e7.kn) rfl rfl rfl (rcs 0 ag_51 rfl rfl rfl rfl rc0)) (go_sop rfl rfl ?_)
 obtain ⟨x10, hx10, hF⟩ := obind hF
 refine kcX EE_fr w7 (.cons (.s (.s (.s (.z)))) .nil) rfl of (ops_t rfl (ops_t rfl os0)) hb_79 (s_mem_Mem_Load w7 x7.2.2 x7.1 f9z2 hx10) ?_
 rintro _ _ h10 e10 w10 ⟨z10_y0, rfl, rfl, f10_0⟩
 simp only [ca_, na_]
 refine go_nil (go_sop rfl rfl (gM rfl rfl (go_nil (go_sop rfl rfl (gE rfl rfl rfl (go_nil (go_sop rfl rfl (gE rfl rfl rfl (go_nil (go_sop rfl rfl (gA rfl rfl (go_nil (go_sop rfl rfl (gA rfl rfl (go_nil (go_snil (go_seq (go_region (glc ag_210 ((g4.ext e7.kn).ext e10.kn) rfl rfl rfl (gM rfl rfl (gs_pack (fun s => Zbst_Tree h10 bp0 bp0_1 s x7.2.1 x10.2.2) (.cons (.s (.z)) (.cons (.s (.z)) (.cons (.s (.z)) (.cons .z .nil)))) ⟨_, _, _, _, _, rfl, (f9z0.ext e10.kn), (f9z1.ext e10.kn), f10_0⟩ fun z12p y12p => ?_)))))))))))))))))))))
 obtain ⟨x11, hx11, hF⟩ := obind hF
 refine gs_calld EE_fr w10 (.cons .z (.cons .z (.emp .nil))) (fun _ h => by cases h; rfl) (ot rfl) (os1 (ot rfl) os0) (by exact hrc w10 x7.2.1 x10.2.2 p1 y12p ((y1.ext e7.kn).ext e10.kn) p4 (Arg.w x10.1) [] ((c4.ext e7.kn).ext e10.kn) hx11) ?_
 rintro _ _ h11 e11 w11 ⟨z11_y0, z11_y1, v11_r, t11_r, rfl, rfl, f11_0, f11_1, f11_2⟩
 simp only [ca_, na_]
 refine gA rfl rfl (go_nil ?_)
 obtain rfl := someI hF
 exact g_retO (rst rfl rs0) (.cons .z (.cons .z (.cons .z .nil))) (e7.trans (e10.trans e11)) w11 (nd1 f11_0.nd (nd1 f11_1.nd (ndc f11_2 nd0))) ⟨_, _, _, _, rfl, rfl, f11_0, f11_1, f11_2⟩
theorem s_bst_Tree_clean_1 {rc : RC} (hrc : RCok rc) {h : Heap} (hw : Wf h) (p0 : Obst_Tree) (p0o0 : Omem_Mem) (p1 : Obst_Call) (p3 : Int) (p4 : Int) (p5 : Int) (p6 : Clo) {bp0 bp0_1 : Nat} {z0 : List Blk} {bp1 : Nat} {z1 : List Blk} {b2 : Nat} {b3 : Nat} {b4 : Nat} {b5 : Nat} {b6 : Nat} {v6 : Value} (y0 : Zbst_Tree h bp0 bp0_1 z0 p0 p0o0) (y1 : Zbst_Call h bp1 z1 p1) (g2 : BK h b2 [pt bp0] 61) (g3 : BK h b3 [.int .i64 p3] 3) (g4 : BK h b4 [.int .i64 p4] 3) (g5 : BK h b5 [.int .i64 p5] 3) (g6 : BK h b6 [v6] 134) (c6 : CO h bp0 bp1 [] p6 v6) {r : _} (hF : F_bst_Tree_clean_1 rc p0 p0o0 p1 p3 p4 p5 p6 = some r) :
 EvO EE 159 [pt b2, pt b3, pt b4, pt b5, pt b6] [z0, z1] h (fun v S h1 => ∃ zy0 zy1 vr tr, v = vr ∧ S = [zy0, zy1, tr] ∧ Zbst_Tree h1 bp0 bp0_1 zy0 r.2.1 r.2.2.1 ∧ Zbst_Call h1 bp1 zy1 r.2.2.2 ∧ OC h1 bp0 bp1 tr r.1 vr) := by
 unfold F_bst_Tree_clean_1 at hF
 refine evo_of rfl at_159 rfl rfl ?_
 refine go_seq (go_region (gAc rfl rfl (go_nil (go_seq (go_regions (L := sq 0 6 ++ [(7, []), (8, []), (10, []), (6, [0, 3, 7, 8, 10]), (9, [0, 3, 10]), (11, [0, 3]), (12, [])]) (by kernel_rfl) (by kernel_rfl) (fun _ => rfl) (go_sop rfl rfl (glc ag_61 g2 rfl rfl rfl (go_nil (go_sop rfl rfl (gN rfl rfl (go_nil (go_sop rfl rfl (gF (fa_131_0 _ _) rfl rfl (go_nil (go_sop rfl rfl ?_)))))))))))))))
 obtain ⟨q8z_1, t8z_1, q8z_2, t8z_2, z8z_0, rfl, f8z0, f8z1, f8z2⟩ := y0
 refine gs_unz ?_
 simp only [ca_, na_]
 refine gls 0 ag_51 rfl rfl rfl rfl (go_nil (go_sop rfl rfl (glc ag_61 g2 rfl rfl rfl (go_nil (go_sop rfl rfl (glc ag_3 g3 rfl rfl rfl (go_nil (go_sop rfl rfl (glc ag_3 g4 rfl rfl rfl (go_nil (go_sop rfl rfl (glc ag_3 g5 rfl rfl rfl (go_nil (go_sop rfl rfl (glc ag_3 g5 rfl rfl rfl (go_nil (go_sopc [(0, pt bp0), (3, pt bp0_1), (7, .int .i64 p4), (8, .int .i64 p5), (10, .int .i64 p5)] rfl rfl rfl (rc1 rfl (r_load (ot rfl) (v := pt bp0) (lo_e (fun hf kn => ld_cell ag_61 (g2.ext kn) rfl))) (rc1 rfl (r_load (ot rfl) (lm_s (mem_seg 0 rfl) ag_51 rfl)) (rc1 rfl (r_load (ot rfl) (v := .int .i64 p4) (lo_e (fun hf kn => ld_cell ag_3 (g4.ext kn) rfl))) (rc1 rfl (r_load (ot rfl) (v := .int .i64 p5) (lo_e (fun hf kn => ld_cell ag_3 (g5.ext kn) rfl))) (rc1 rfl (r_load (ot rfl) (v := .int .i64 p5) (lo_e (fun hf kn => ld_cell ag_3 (g5.ext kn) rfl))) rc0))))) (vq1 (veq_ptr _ _) (vq1 (veq_ptr _ _) (vq1 (veq_int _ _ _) (vq1 (veq_int _ _ _) (vq1 (veq_int _ _ _) vq0))))) rfl (gs_pack (fun s => Zbst_Tree h bp0 bp0_1 s p0 p0o0) (.cons .z (.cons .z (.cons .z (.cons .z .nil)))) ⟨_, _, _, _, _, rfl, f8z0, f8z1, f8z2⟩ fun z10p y10p => ?_))))))))))))))))))
 obtain ⟨x9, hx9, hF⟩ := obind hF
 refine kcX EE_fr hw (.cons .z .nil) rfl of (ops_t rfl (ops_t rfl (ops_c rfl os0))) hb_114 (s_bst_Tree_cell hw p0 p0o0 p3 0 y10p hx9) ?_
 rintro _ _ h9 e9 w9 ⟨z9_y0, rfl, rfl, f9_0⟩
 simp only [ca_, na_]
 refine go_nil ?_
 obtain ⟨q11z_1, t11z_1, q11z_2, t11z_2, z11z_0, rfl, f11z0, f11z1, f11z2⟩ := f9_0
 refine gs_unz ?_
 simp only [ca_, na_]
 refine go_rck (rcc ag_61 (g2.ext e9.kn) rfl rfl rfl (rcs 0 ag_51 rfl rfl rfl rfl (rcc ag_3 (g4.ext e9.kn) rfl rfl rfl (rcc ag_3 (g5.ext e9.kn) rfl rfl rfl (rcc ag_3 (g5.ext e9.kn) rfl rfl rfl rc0))))) (go_sopc [(0, pt bp0), (3, pt bp0_1), (10, .int .i64 p5)] rfl rfl rfl (rc1 rfl (r_load (ot rfl) (v := pt bp0) (lo_e (fun hf kn => ld_cell ag_61 ((g2.ext e9.kn).ext kn) rfl))) (rc1 rfl (r_load (ot rfl) (lm_s (mem_seg 0 rfl) ag_51 rfl)) (rc1 rfl (r_load (ot rfl) (v := .int .i64 p5) (lo_e (fun hf kn => ld_cell ag_3 ((g5.ext e9.kn).ext kn) rfl))) rc0))) (vq1 (veq_ptr _ _) (vq1 (veq_ptr _ _) (vq1 (veq_int _ _ _) vq0))) rfl ?_)
 obtain ⟨x12, hx12, hF⟩ := obind hF
 refine g_callp (v := .int .u64 x12) EE_fr rfl of (os1 (ot rfl) (os1 (ot rfl) os0)) hb_130 (fun _ => rfl) (fun hf kn w => by exact s_word_Pack w p4 p5  hx12) (go_nil (go_rck (rcc ag_61 (g2.ext e9.kn) rfl rfl rfl (rcs 0 ag_51 rfl rfl rfl rfl (rcc ag_3 (g5.ext e9.kn) rfl rfl rfl rc0))) (go_sopc [(0, pt bp0), (3, pt bp0_1)] rfl rfl rfl (rc1 rfl (r_load (ot rfl) (v := pt bp0) (lo_e (fun hf kn => ld_cell ag_61 ((g2.ext e9.kn).ext kn) rfl))) (rc1 rfl (r_load (ot rfl) (lm_s (mem_seg 0 rfl) ag_51 rfl)) rc0)) (vq1 (veq_ptr _ _) (vq1 (veq_ptr _ _) vq0)) rfl ?_)))
 obtain ⟨x13, hx13, hF⟩ := obind hF
 refine g_callp (v := .int .u64 x13) EE_fr rfl of (os1 (oc rfl) (os1 (ot rfl) os0)) hb_130 (fun _ => rfl) (fun hf kn w => by exact s_word_Pack w 0 p5  hx13) (go_nil (go_rck (rcc ag_61 (g2.ext e9.kn) rfl rfl rfl (rcs 0 ag_51 rfl rfl rfl rfl rc0)) (go_sop rfl rfl ?_)))
 obtain ⟨x14, hx14, hF⟩ := obind hF
 refine kcX EE_fr w9 (.cons (.s (.s (.s (.z)))) .nil) rfl of (ops_t rfl (ops_t rfl (ops_t rfl (ops_t rfl os0)))) hb_129 (s_mem_Mem_CAS w9 x9.2.2 x9.1 x12 x13 f11z2 hx14) ?_
 rintro _ _ h14 e14 w14 ⟨z14_y0, rfl, rfl, f14_0⟩
 simp only [ca_, na_]
 refine go_nil (go_snil (go_seq (go_region (glc ag_134 ((g6.ext e9.kn).ext e14.kn) rfl rfl rfl (gs_pack (fun s => Zbst_Tree h14 bp0 bp0_1 s x9.2.1 x14.2.2) (.cons (.s (.z)) (.cons (.s (.z)) (.cons (.s (.z)) (.cons .z .nil)))) ⟨_, _, _, _, _, rfl, (f11z0.ext e14.kn), (f11z1.ext e14.kn), f14_0⟩ fun z16p y16p => ?_)))))
 obtain ⟨x15, hx15, hF⟩ := obind hF
 refine gs_calld EE_fr w14 (.cons .z (.cons .z (.emp .nil))) (fun _ h => by cases h; rfl) (ot rfl) os0 (by exact hrc w14 x9.2.1 x14.2.2 p1 y16p ((y1.ext e9.kn).ext e14.kn) p6 Arg.u [] ((c6.ext e9.kn).ext e14.kn) hx15) ?_
 rintro _ _ h15 e15 w15 ⟨z15_y0, z15_y1, v15_r, t15_r, rfl, rfl, f15_0, f15_1, f15_2⟩
 simp only [ca_, na_]
 refine gA rfl rfl (go_nil ?_)
 obtain rfl := someI hF
 exact g_retO (rst rfl rs0) (.cons .z (.cons .z (.cons .z .nil))) (e9.trans (e14.trans e15)) w15 (nd1 f15_0.nd (nd1 f15_1.nd (ndc f15_2 nd0))) ⟨_, _, _, _, rfl, rfl, f15_0, f15_1, f15_2⟩
theorem s_bst_Tree_turn_1 {rc : RC} (hrc : RCok rc) {h : Heap} (hw : Wf h) (p0 : Obst_Tree) (p0o0 : Omem_Mem) (p1 : Obst_Call) (p3 : Int) (p4 : Int) (p5 : Int) (p6 : Clo) {bp0 bp0_1 : Nat} {z0 : List Blk} {bp1 : Nat} {z1 : List Blk} {b2 : Nat} {b3 : Nat} {b4 : Nat} {b5 : Nat} {b6 : Nat} {v6 : Value} (y0 : Zbst_Tree h bp0 bp0_1 z0 p0 p0o0) (y1 : Zbst_Call h bp1 z1 p1) (g2 : BK h b2 [pt bp0] 61) (g3 : BK h b3 [.int .i64 p3] 3) (g4 : BK h b4 [.int .i64 p4] 3) (g5 : BK h b5 [.int .i64 p5] 3) (g6 : BK h b6 [v6] 134) (c6 : CO h bp0 bp1 [] p6 v6) {r : _} (hF : F_bst_Tree_turn_1 rc p0 p0o0 p1 p3 p4 p5 p6 = some r) :
 EvO EE 160 [pt b2, pt b3, pt b4, pt b5, pt b6] [z0, z1] h (fun v S h1 => ∃ zy0 zy1 vr tr, v = vr ∧ S = [zy0, zy1, tr] ∧ Zbst_Tree h1 bp0 bp0_1 zy0 r.2.1 r.2.2.1 ∧ Zbst_Call h1 bp1 zy1 r.2.2.2 ∧ OC h1 bp0 bp1 tr r.1 vr) := by
 unfold F_bst_Tree_turn_1 at hF
 refine evo_of rfl at_160 rfl rfl ?_
 refine go_seq (go_region (gAc rfl rfl (go_nil (go_seq (go_regions (L := sq 0 13 ++ sq 14 4 ++ [(13, [0, 3, 14, 15, 16, 17]), (18, [])]) (by kernel_rfl) (by kernel_rfl) (fun _ => rfl) (go_sop rfl rfl (glc ag_61 g2 rfl rfl rfl (go_nil (go_sop rfl rfl (gN rfl rfl (go_nil (go_sop rfl rfl (gF (fa_131_0 _ _) rfl rfl (go_nil (go_sop rfl rfl ?_)))))))))))))))
 obtain ⟨q8z_1, t8z_1, q8z_2, t8z_2, z8z_0, rfl, f8z0, f8z1, f8z2⟩ := y0
 refine gs_unz ?_
 simp only [ca_, na_]
 refine gls 0 ag_51 rfl rfl rfl rfl (go_nil (go_sop rfl rfl (glc ag_61 g2 rfl rfl rfl (go_nil (go_sop rfl rfl (glc ag_3 g3 rfl rfl rfl (go_nil (go_sop rfl rfl (glc ag_61 g2 rfl rfl rfl (go_nil (go_sop rfl rfl (gN rfl rfl (go_nil (go_sop rfl rfl (gF (fa_131_1 _ _) rfl rfl (go_nil (go_sop rfl rfl (gls 0 ag_128 rfl rfl rfl rfl (go_nil (go_sop rfl rfl (glc ag_3 g4 rfl rfl rfl (go_nil (go_sop rfl rfl ?_)))))))))))))))))))))))
 obtain ⟨x9, hx9, hF⟩ := obind hF
 obtain ⟨bb9, rw9, row9, hp9, ht9, hR9, hw9, rc9, hz9, hi9, hd9, hb9, hl9⟩ := AccR.at_ f8z0 hx9
 have hF9_ := hF
 subst hp9; subst ht9
 replace hF := hF9_
 obtain rfl := rc9
 refine gr rfl (r_ia (ot rfl) (ot rfl) (ia_acc (k := 4) ut_128 sz_127 hz9 hi9)) (go_nil (go_sop rfl rfl (gr rfl (r_load (ot rfl) (lm_a (vs := [.string x9.key, .int .i64 x9.top, .int .u64 x9.val, .int .i64 x9.cell]) (mem_seg 1 rfl) ag_127 sz_127 (Nat.ble_eq_true_of_le hb9) hd9)) (go_nil (go_sop rfl rfl (glc ag_3 g5 rfl rfl rfl (go_nil (go_sop rfl rfl (gr rfl (r_conv (ot rfl) rfl) (go_nil (go_sop rfl rfl (glc ag_3 g4 rfl rfl rfl (go_nil (go_sop rfl rfl (gr rfl (r_conv (ot rfl) rfl) (go_nil (go_sopc [(0, pt bp0), (3, pt bp0_1), (14, .int .i64 p5), (15, .int .u64 (IntKind.u64.wrap p5)), (16, .int .i64 p4), (17, .int .u64 (IntKind.u64.wrap p4))] rfl rfl rfl (rc1 rfl (r_load (ot rfl) (v := pt bp0) (lo_e (fun hf kn => ld_cell ag_61 (g2.ext kn) rfl))) (rc1 rfl (r_load (ot rfl) (lm_s (mem_seg 0 rfl) ag_51 rfl)) (rc1 rfl (r_load (ot rfl) (v := .int .i64 p5) (lo_e (fun hf kn => ld_cell ag_3 (g5.ext kn) rfl))) (rc1 rfl (r_conv (ot rfl) rfl) (rc1 rfl (r_load (ot rfl) (v := .int .i64 p4) (lo_e (fun hf kn => ld_cell ag_3 (g4.ext kn) rfl))) (rc1 rfl (r_conv (ot rfl) rfl) rc0)))))) (vq1 (veq_ptr _ _) (vq1 (veq_ptr _ _) (vq1 (veq_int _ _ _) (vq1 (veq_int _ _ _) (vq1 (veq_int _ _ _) (vq1 (veq_int _ _ _) vq0)))))) rfl (gs_pack (fun s => Zbst_Tree h bp0 bp0_1 s p0 p0o0) (.cons .z (.cons .z (.cons .z (.cons .z .nil)))) ⟨_, _, _, _, _, rfl, f8z0, f8z1, f8z2⟩ fun z11p y11p => ?_))))))))))))))))))
 obtain ⟨x10, hx10, hF⟩ := obind hF
 refine kcX EE_fr hw (.cons .z .nil) rfl of (ops_t rfl (ops_t rfl (ops_t rfl os0))) hb_135 (s_bst_Tree_side hw p0 p0o0 p3 x9 y11p hx10) ?_
 rintro _ _ h10 e10 w10 ⟨z10_y0, rfl, rfl, f10_0⟩
 simp only [ca_, na_]
 refine go_nil ?_
 obtain ⟨q12z_1, t12z_1, q12z_2, t12z_2, z12z_0, rfl, f12z0, f12z1, f12z2⟩ := f10_0
 refine gs_unz ?_
 simp only [ca_, na_]
 refine go_rck (rcc ag_61 (g2.ext e10.kn) rfl rfl rfl (rcs 0 ag_51 rfl rfl rfl rfl (rcc ag_3 (g5.ext e10.kn) rfl rfl rfl (rc1 rfl (r_conv (ot rfl) rfl) (rcc ag_3 (g4.ext e10.kn) rfl rfl rfl (rc1 rfl (r_conv (ot rfl) rfl) rc0)))))) (go_sop rfl rfl ?_)
 obtain ⟨x13, hx13, hF⟩ := obind hF
 refine kcX EE_fr w10 (.cons (.s (.s (.s (.z)))) .nil) rfl of (ops_t rfl (ops_t rfl (ops_t rfl (ops_t rfl os0)))) hb_129 (s_mem_Mem_CAS w10 x10.2.2 x10.1 (IntKind.u64.wrap p5) (IntKind.u64.wrap p4) f12z2 hx13) ?_
 rintro _ _ h13 e13 w13 ⟨z13_y0, rfl, rfl, f13_0⟩
 simp only [ca_, na_]
 refine go_nil (go_snil (go_seq (go_region (glc ag_134 ((g6.ext e10.kn).ext e13.kn) rfl rfl rfl (gs_pack (fun s => Zbst_Tree h13 bp0 bp0_1 s x10.2.1 x13.2.2) (.cons (.s (.z)) (.cons (.s (.z)) (.cons (.s (.z)) (.cons .z .nil)))) ⟨_, _, _, _, _, rfl, (f12z0.ext e13.kn), (f12z1.ext e13.kn), f13_0⟩ fun z15p y15p => ?_)))))
 obtain ⟨x14, hx14, hF⟩ := obind hF
 refine gs_calld EE_fr w13 (.cons .z (.cons .z (.emp .nil))) (fun _ h => by cases h; rfl) (ot rfl) os0 (by exact hrc w13 x10.2.1 x13.2.2 p1 y15p ((y1.ext e10.kn).ext e13.kn) p6 Arg.u [] ((c6.ext e10.kn).ext e13.kn) hx14) ?_
 rintro _ _ h14 e14 w14 ⟨z14_y0, z14_y1, v14_r, t14_r, rfl, rfl, f14_0, f14_1, f14_2⟩
 simp only [ca_, na_]
 refine gA rfl rfl (go_nil ?_)
 obtain rfl := someI hF
 exact g_retO (rst rfl rs0) (.cons .z (.cons .z (.cons .z .nil))) (e10.trans (e13.trans e14)) w14 (nd1 f14_0.nd (nd1 f14_1.nd (ndc f14_2 nd0))) ⟨_, _, _, _, rfl, rfl, f14_0, f14_1, f14_2⟩
end Go.Proofs.YtndhbaidibioeaaGreat.V
