/- Walks.
   No condition: these are laws of the clean machine and of this program. -/
import Derived.Test.YtndhbaidibioeaaGreatCQ
import Derived.Test.YtndhbaidibioeaaGreatWQ
namespace Go.Proofs.YtndhbaidibioeaaGreat.V
open Go
set_option linter.unusedVariables false
set_option linter.unusedSimpArgs false
set_option maxRecDepth 100000
set_option maxHeartbeats 4000000
theorem s_index_Work_look {rc : RCi} (hrc : RCiok rc) {h : Heap} (hw : Wf h) (p0 : Obst_Tree) (p0o0 : Omem_Mem) (p0o1 : Ochain_Store) (p1 : Oindex_Work) (p3 : Int) (p4 : Int) (p5 : Cli) {bp0 bp0_1 bp0_2 bp0_3 : Nat} {z0 : List Blk} {bp1 : Nat} {z1 : List Blk} {v5 : Value} (y0 : Zindex_Index h bp0 bp0_1 bp0_2 bp0_3 z0 p0 p0o0 p0o1) (y1 : Zindex_Work h bp0 bp1 z1 p1) (c5 : COi h bp0 bp0_1 bp0_2 bp0_3 bp1 none [] p5 v5) {r : _} (hF : F_index_Work_look rc p0 p0o0 p0o1 p1 p3 p4 p5 = some r) :
 EvO EE 45 [pt bp1, .int .u64 p3, .int .i64 p4, v5] [z0, z1] h (fun v S h1 => ∃ zy0 zy1 vr tr, v = vr ∧ S = [zy0, zy1, tr] ∧ Zindex_Index h1 bp0 bp0_1 bp0_2 bp0_3 zy0 r.2.1 r.2.2.1 r.2.2.2.1 ∧ Zindex_Work h1 bp0 bp1 zy1 r.2.2.2.2 ∧ OCi h1 bp0 bp0_1 bp0_2 bp0_3 bp1 tr r.1 vr) := by
 unfold F_index_Work_look at hF
 refine evo_of rfl at_45 rfl rfl ?_
 refine go_seq (go_region (gs_box rfl (ot rfl) rfl (fun b4_7 => gs_box rfl (ot rfl) rfl (fun b5_8 => gs_box rfl (ot rfl) rfl (fun b6_9 => gs_box rfl (ot rfl) (COi.one c5) (fun b7_10 => gAc rfl rfl (go_nil (go_seq (go_region (gr rfl (r_func os0 (os1 (ot rfl) (os1 (ot rfl) (os1 (ot rfl) (os1 (ot rfl) os0))))) (gA rfl rfl (go_nil (gs_pub (.s (.s (.s (.z)))) (fun h11 e11 w11 hb11 => ?_))))))))))))))
 have g11_ : BK h11 b4_7 [pt bp1] 32 := hb11
 refine gs_pub (.s (.s (.z))) (fun h12 e12 w12 hb12 => ?_)
 have g12_ : BK h12 b5_8 [.int .u64 p3] 93 := hb12
 refine gs_pub (.s (.z)) (fun h13 e13 w13 hb13 => ?_)
 have g13_ : BK h13 b6_9 [.int .i64 p4] 3 := hb13
 refine gs_pub .z (fun h14 e14 w14 hb14 => ?_)
 have g14_ : BK h14 b7_10 [v5] 83 := hb14
 have co15 : COi h14 bp0 bp0_1 bp0_2 bp0_3 bp1 none [] (Cli.c_Work_look_1 p3 p4 p5) (.func (.func 78) #[] #[pt b4_7, pt b5_8, pt b6_9, pt b7_10]) := COi.c_Work_look_1 (((g11_.ext e12.kn).ext e13.kn).ext e14.kn) ((g12_.ext e13.kn).ext e14.kn) (g13_.ext e14.kn) g14_ ((((c5.ext e11.kn).ext e12.kn).ext e13.kn).ext e14.kn)
 obtain rfl := someI hF
 exact g_retO (rst rfl rs0) (.cons .z (.cons .z (.emp .nil))) (e11.trans (e12.trans (e13.trans e14))) w14 (nd1 ((((y0.ext e11.kn).ext e12.kn).ext e13.kn).ext e14.kn).nd (nd1 ((((y1.ext e11.kn).ext e12.kn).ext e13.kn).ext e14.kn).nd (nde nd0))) ⟨_, _, _, _, rfl, rfl, ((((y0.ext e11.kn).ext e12.kn).ext e13.kn).ext e14.kn), ((((y1.ext e11.kn).ext e12.kn).ext e13.kn).ext e14.kn), (OCi.some co15)⟩
theorem s_index_Index_Get_1_1 {rc : RCi} (hrc : RCiok rc) {h : Heap} (hw : Wf h) (p0 : Obst_Tree) (p0o0 : Omem_Mem) (p0o1 : Ochain_Store) (p1 : Oindex_Work) (p2 : Obst_Call_2) (p4 : Int) {bp0 bp0_1 bp0_2 bp0_3 : Nat} {z0 : List Blk} {bp1 : Nat} {z1 : List Blk} {bp2 : Nat} {z2 : List Blk} {b2c : Nat} {b3 : Nat} {b4 : Nat} (y0 : Zindex_Index h bp0 bp0_1 bp0_2 bp0_3 z0 p0 p0o0 p0o1) (y1 : Zindex_Work h bp0 bp1 z1 p1) (y2 : Zbst_Call_2 h bp0_1 bp2 z2 p2) (g2 : BK h b2c [pt bp2] 85) (g3 : BK h b3 [pt bp1] 32) (g4 : BK h b4 [.int .i64 p4] 3) {r : _} (hF : F_index_Index_Get_1_1 rc p0 p0o0 p0o1 p1 p2 p4 = some r) :
 EvO EE 43 [pt b2c, pt b3, pt b4] [z0, z1, z2] h (fun v S h1 => ∃ zy0 zy1 vr tr, v = vr ∧ S = [zy0, zy1, tr] ∧ Zindex_Index h1 bp0 bp0_1 bp0_2 bp0_3 zy0 r.2.1 r.2.2.1 r.2.2.2.1 ∧ Zindex_Work h1 bp0 bp1 zy1 r.2.2.2.2 ∧ OCi h1 bp0 bp0_1 bp0_2 bp0_3 bp1 tr r.1 vr) := by
 unfold F_index_Index_Get_1_1 at hF
 refine evo_of rfl at_43 rfl rfl ?_
 refine go_seq (go_region (gAc rfl rfl (go_nil (go_seq (go_region (glc ag_85 g2 rfl rfl rfl ?_))))))
 obtain ⟨z7z_0, z7z_1, rfl, f7z0, f7z1⟩ := y0
 refine gs_unz ?_
 simp only [ca_, na_]
 refine gs_front (.s (.z)) ?_
 obtain ⟨q8z_1, t8z_1, q8z_2, t8z_2, z8z_0, rfl, f8z0, f8z1, f8z2⟩ := f7z0
 refine gs_unz ?_
 simp only [ca_, na_]
 refine gs_pack (fun s => Zbst_Tree h bp0_1 bp0_2 s p0 p0o0) (.cons .z (.cons .z (.cons .z (.cons .z .nil)))) ⟨_, _, _, _, _, rfl, f8z0, f8z1, f8z2⟩ fun z9p y9p => ?_
 obtain ⟨x6, hx6, hF⟩ := obind hF
 refine kcX EE_fr hw (.cons .z (.cons (.s (.s (.s (.z)))) .nil)) rfl of (ops_t rfl os0) hb_44 (s_bst_Call_Answer hw p0 p0o0 p2 y9p y2 hx6) ?_
 rintro _ _ h6 e6 w6 ⟨z6_y0, z6_y1, rfl, rfl, f6_0, f6_1⟩
 simp only [ca_, na_]
 refine gM rfl rfl (gE rfl rfl rfl (gE rfl rfl rfl (gs_alloc rfl zo_95 rfl (fun b4_10 => gs_store (ot rfl) (ot rfl) sz_95 rfl rfl rfl rfl rfl .z (gA rfl rfl (go_nil (go_seq (go_seq (go_region (gF (fa_95_0 _ _) rfl rfl (gls 0 ag_4 rfl rfl rfl rfl (gr rfl (r_un (ot rfl) rfl) (go_nil ?_)))))))))))))
 refine g_cond (b := (!x6.1.Ok)) (ot rfl) (fun hc11 => ?_) (fun hc11 => ?_)
 ·
  replace hF := ifT hc11 hF
  refine go_seq (go_region (gAc rfl rfl (go_nil (gs_pack (fun s => Zindex_Index h6 bp0 bp0_1 bp0_2 bp0_3 s x6.2.2.1 x6.2.2.2.1 p0o1) (.cons (.s (.s (.s (.z)))) (.cons (.s (.z)) (.cons (.s (.s (.z))) .nil))) ⟨_, _, rfl, f6_0, (f7z1.ext e6.kn)⟩ fun z12p y12p => ?_))))
  obtain rfl := someI hF
  exact g_retO (rst rfl rs0) (.cons .z (.cons (.s (.s (.z))) (.emp .nil))) e6 w6 (nd1 y12p.nd (nd1 (y1.ext e6.kn).nd (nde nd0))) ⟨_, _, _, _, rfl, rfl, y12p, (y1.ext e6.kn), OCi.none⟩
 ·
  replace hF := ifF hc11 hF
  refine go_skip (go_seq (go_region (glc ag_32 (g3.ext e6.kn) rfl rfl rfl (gF (fa_95_2 _ _) rfl rfl (gls 0 ag_93 rfl rfl rfl rfl (glc ag_3 (g4.ext e6.kn) rfl rfl rfl ?_))))))
  have co14 : COi h6 bp0 bp0_1 bp0_2 bp0_3 bp1 none [] (Cli.c_end) (.func (.func 46) #[] #[]) := COi.c_end
  refine gs_pack (fun s => Zindex_Index h6 bp0 bp0_1 bp0_2 bp0_3 s x6.2.2.1 x6.2.2.2.1 p0o1) (.cons (.s (.s (.s (.z)))) (.cons (.s (.z)) (.cons (.s (.s (.z))) .nil))) ⟨_, _, rfl, f6_0, (f7z1.ext e6.kn)⟩ fun z15p y15p => ?_
  obtain ⟨x13, hx13, hF⟩ := obind hF
  refine kcX EE_fr w6 (.cons .z (.cons (.s (.s (.z))) .nil)) rfl of (ops_t rfl (ops_t rfl (ops_t rfl (os1 of os0)))) hb_45 (s_index_Work_look hrc w6 x6.2.2.1 x6.2.2.2.1 p0o1 p1 x6.1.Val p4 (Cli.c_end) y15p (y1.ext e6.kn) co14 hx13) ?_
  rintro _ _ h13 e13 w13 ⟨z13_y0, z13_y1, v13_r, t13_r, rfl, rfl, f13_0, f13_1, f13_2⟩
  simp only [ca_, na_]
  refine gA rfl rfl (go_nil ?_)
  obtain rfl := someI hF
  exact g_retO (rst rfl rs0) (.cons .z (.cons .z (.cons .z .nil))) (e6.trans e13) w13 (nd1 f13_0.nd (nd1 f13_1.nd (ndci f13_2 nd0))) ⟨_, _, _, _, rfl, rfl, f13_0, f13_1, f13_2⟩
theorem s_index_end {rc : RCi} (hrc : RCiok rc) {h : Heap} (hw : Wf h) (p0 : Obst_Tree) (p0o0 : Omem_Mem) (p0o1 : Ochain_Store) (p1 : Oindex_Work) {bp0 bp0_1 bp0_2 bp0_3 : Nat} {z0 : List Blk} {bp1 : Nat} {z1 : List Blk} (y0 : Zindex_Index h bp0 bp0_1 bp0_2 bp0_3 z0 p0 p0o0 p0o1) (y1 : Zindex_Work h bp0 bp1 z1 p1) {r : _} (hF : F_index_end rc p0 p0o0 p0o1 p1 = some r) :
 EvO EE 46 [] [z0, z1] h (fun v S h1 => ∃ zy0 zy1 vr tr, v = vr ∧ S = [zy0, zy1, tr] ∧ Zindex_Index h1 bp0 bp0_1 bp0_2 bp0_3 zy0 r.2.1 r.2.2.1 r.2.2.2.1 ∧ Zindex_Work h1 bp0 bp1 zy1 r.2.2.2.2 ∧ OCi h1 bp0 bp0_1 bp0_2 bp0_3 bp1 tr r.1 vr) := by
 unfold F_index_end at hF
 refine evo_of rfl at_46 rfl rfl ?_
 refine go_seq (go_region (gAc rfl rfl (go_nil (go_seq (go_region (gAc rfl rfl (go_nil ?_)))))))
 obtain rfl := someI hF
 exact g_retO (rst rfl rs0) (.cons .z (.cons .z (.emp .nil))) (HExt.refl _) hw (nd1 y0.nd (nd1 y1.nd (nde nd0))) ⟨_, _, _, _, rfl, rfl, y0, y1, OCi.none⟩
theorem s_chain_Store_Put {h : Heap} (hw : Wf h) (p0 : Ochain_Store) (p1 : Int) (p2 : TEvent) {bp0 : Nat} {z0 : List Blk} {bW107 : Nat} (y0 : Zchain_Store h bW107 bp0 z0 p0) {r : Ochain_Put × Ochain_Store} (hF : F_chain_Store_Put p0 p1 p2 = some r) :
 EvO EE 56 [pt bp0, .int .i64 p1, .agg #[.int .i64 p2.Rev, .string p2.Key, .string p2.Val, .bool p2.Del]] [z0] h (fun v S h1 => ∃ zy0 bw0 zw0, v = pt bw0 ∧ S = [zy0, zw0] ∧ Zchain_Store h1 bW107 bp0 zy0 r.2 ∧ Zchain_Put h1 bp0 bw0 zw0 r.1) := by
 unfold F_chain_Store_Put at hF
 refine evo_of rfl at_56 rfl rfl ?_
 refine go_seq (go_region (gs_box rfl (ot rfl) rfl (fun b5_4 => gAc rfl rfl (go_nil (go_seq (go_seq (go_region (gM rfl rfl (gr rfl (r_bin (v := .bool false) (ot rfl) (oc rfl) (by first | rfl | kernel_rfl)) (go_nil ?_))))))))))
 refine g_cond (b := false) (ot rfl) (fun hc5 => ?_) (fun hc5 => ?_)
 ·
  cases hc5
 refine go_skip (go_seq (go_region (gM rfl rfl (gM rfl rfl (glw 0 ag_36 sz_36 rfl rfl rfl rfl (gr rfl (r_build (op1 (ot rfl) (op1 (ot rfl) (op1 (ot rfl) op0))) rfl) (gs_box rfl (ot rfl) rfl (fun b13_6 => gA rfl rfl (go_nil (gs_pack (fun s => Zchain_Put h bp0 b13_6 s (⟨p1, p2.Rev, p2.Key, p2.Val, p2.Del, 0, false, false⟩ : Ochain_Put)) (.cons .z .nil) rfl fun z7p y7p => ?_))))))))))
 obtain rfl := someI hF
 exact g_retO (rst rfl rs0) (.cons (.s (.s (.z))) (.cons .z .nil)) (HExt.refl _) hw (nd1 y0.nd (nd1 y7p.nd nd0)) ⟨_, _, _, rfl, rfl, y0, y7p⟩
theorem s_index_after {rc : RCi} (hrc : RCiok rc) {h : Heap} (hw : Wf h) (p0 : Obst_Tree) (p0o0 : Omem_Mem) (p0o1 : Ochain_Store) (p1 : Oindex_Work) (p2 : Ochain_Put) (p3 : Cli) {bp0 bp0_1 bp0_2 bp0_3 : Nat} {z0 : List Blk} {bp1 : Nat} {z1 : List Blk} {bp2 : Nat} {z2 : List Blk} {v3 : Value} (y0 : Zindex_Index h bp0 bp0_1 bp0_2 bp0_3 z0 p0 p0o0 p0o1) (y1 : Zindex_Work h bp0 bp1 z1 p1) (y2 : Zchain_Put h bp0_3 bp2 z2 p2) (c3 : COi h bp0 bp0_1 bp0_2 bp0_3 bp1 none [] p3 v3) {r : _} (hF : F_index_after rc p0 p0o0 p0o1 p1 p2 p3 = some r) :
 EvO EE 42 [.iface 108 (pt bp2), v3] [z0, z1, z2] h (fun v S h1 => ∃ zy0 zy1 vr tr, v = vr ∧ S = [zy0, zy1, tr] ∧ Zindex_Index h1 bp0 bp0_1 bp0_2 bp0_3 zy0 r.2.1 r.2.2.1 r.2.2.2.1 ∧ Zindex_Work h1 bp0 bp1 zy1 r.2.2.2.2 ∧ OCi h1 bp0 bp0_1 bp0_2 bp0_3 bp1 tr r.1 vr) := by
 unfold F_index_after at hF
 refine evo_of rfl at_42 rfl rfl ?_
 refine go_seq (go_region (gs_box rfl (ot rfl) rfl (fun b2_5 => gs_box rfl (ot rfl) (COi.one c3) (fun b3_6 => gAc rfl rfl (go_nil (go_seq (go_region (gs_alloc rfl zo_84 rfl (fun b5_7 => go_nil (go_seq (go_region (gr rfl (r_func os0 (os1 (ot rfl) (os1 (ot rfl) (os1 (ot rfl) os0)))) (gs_store (ot rfl) (ot rfl) sz_84 rfl rfl rfl rfl rfl .z (go_nil (go_seq (go_region (gls 0 ag_84 rfl rfl rfl rfl (gA rfl rfl (go_nil (gs_pub (.s (.s (.z))) (fun h8 e8 w8 hb8 => ?_)))))))))))))))))))))
 have g8_ : BK h8 b2_5 [.iface 108 (pt bp2)] 144 := hb8
 refine gs_pub (.s (.z)) (fun h9 e9 w9 hb9 => ?_)
 have g9_ : BK h9 b3_6 [v3] 83 := hb9
 refine gs_pub .z (fun h10 e10 w10 hb10 => ?_)
 have g10_ : BK h10 b5_7 [.func (.func 77) #[] #[pt b2_5, pt b3_6, pt b5_7]] 84 := hb10
 have co11 : COi h10 bp0 bp0_1 bp0_2 bp0_3 bp1 none z2 (Cli.c_after_1_v1 p2 p3) (.func (.func 77) #[] #[pt b2_5, pt b3_6, pt b5_7]) := COi.c_after_1_v1 ((g8_.ext e9.kn).ext e10.kn) (g9_.ext e10.kn) (((c3.ext e8.kn).ext e9.kn).ext e10.kn) g10_ (((y2.ext e8.kn).ext e9.kn).ext e10.kn)
 obtain rfl := someI hF
 exact g_retO (rst rfl rs0) (.cons .z (.cons .z (.cons .z .nil))) (e8.trans (e9.trans e10)) w10 (nd1 (((y0.ext e8.kn).ext e9.kn).ext e10.kn).nd (nd1 (((y1.ext e8.kn).ext e9.kn).ext e10.kn).nd (nd1 (((y2.ext e8.kn).ext e9.kn).ext e10.kn).nd nd0))) ⟨_, _, _, _, rfl, rfl, (((y0.ext e8.kn).ext e9.kn).ext e10.kn), (((y1.ext e8.kn).ext e9.kn).ext e10.kn), (OCi.some co11)⟩
theorem s_index_Index_Put_1_1 {rc : RCi} (hrc : RCiok rc) {h : Heap} (hw : Wf h) (p0 : Obst_Tree) (p0o0 : Omem_Mem) (p0o1 : Ochain_Store) (p1 : Oindex_Work) (p4 : TEvent) {bp0 bp0_1 bp0_2 bp0_3 : Nat} {z0 : List Blk} {bp1 : Nat} {z1 : List Blk} {b2 : Nat} {b3 : Nat} {b4 : Nat} (y0 : Zindex_Index h bp0 bp0_1 bp0_2 bp0_3 z0 p0 p0o0 p0o1) (y1 : Zindex_Work h bp0 bp1 z1 p1) (g2 : BK h b2 [pt bp0] 27) (g3 : BK h b3 [pt bp1] 32) (g4 : BK h b4 [.int .i64 p4.Rev, .string p4.Key, .string p4.Val, .bool p4.Del] 36) {r : _} (hF : F_index_Index_Put_1_1 rc p0 p0o0 p0o1 p1 p4 = some r) :
 EvO EE 55 [pt b2, pt b3, pt b4] [z0, z1] h (fun v S h1 => ∃ zy0 zy1 vr tr, v = vr ∧ S = [zy0, zy1, tr] ∧ Zindex_Index h1 bp0 bp0_1 bp0_2 bp0_3 zy0 r.2.1 r.2.2.1 r.2.2.2.1 ∧ Zindex_Work h1 bp0 bp1 zy1 r.2.2.2.2 ∧ OCi h1 bp0 bp0_1 bp0_2 bp0_3 bp1 tr r.1 vr) := by
 unfold F_index_Index_Put_1_1 at hF
 refine evo_of rfl at_55 rfl rfl ?_
 refine go_seq (go_region (gAc rfl rfl (go_nil (go_seq (go_regions (L := sq 0 13) (by kernel_rfl) (by kernel_rfl) (fun _ => rfl) (go_sop rfl rfl (glc ag_27 g2 rfl rfl rfl (go_nil (go_sop rfl rfl (gN rfl rfl (go_nil (go_sop rfl rfl (gF (fa_91_1 _ _) rfl rfl (go_nil (go_sop rfl rfl ?_)))))))))))))))
 obtain ⟨z6z_0, z6z_1, rfl, f6z0, f6z1⟩ := y0
 refine gs_unz ?_
 simp only [ca_, na_]
 refine gls 0 ag_89 rfl rfl rfl rfl (go_nil (go_sop rfl rfl (glc ag_32 g3 rfl rfl rfl (go_nil (go_sop rfl rfl (gN rfl rfl (go_nil (go_sop rfl rfl (gF (fa_88_2 _ _) rfl rfl (go_nil (go_sop rfl rfl (gs_front (.s (.s (.s (.z)))) ?_))))))))))))
 obtain ⟨v7z_1, q7z_4, t7z_4, rfl, f7z0⟩ := y1
 refine gs_unz ?_
 simp only [ca_, na_]
 refine gls 0 ag_3 rfl rfl rfl rfl (go_nil (go_sop rfl rfl (glb ag_36 sz_36 g4 rfl rfl rfl (go_nil (go_sop rfl rfl ?_)))))
 obtain ⟨x8, hx8, hF⟩ := obind hF
 refine kcX EE_fr hw (.cons (.s (.s (.s (.s (.z))))) .nil) rfl of (ops_t rfl (ops_t rfl (ops_t rfl os0))) hb_56 (s_chain_Store_Put (bW107 := bp0_2) hw p0o1 p1.cell p4 f6z1 hx8) ?_
 rintro _ _ h8 e8 w8 ⟨z8_y0, b8_w0, z8_w0, rfl, rfl, f8_0, f8_1⟩
 simp only [ca_, na_]
 refine go_nil (go_sop rfl rfl (gr rfl (r_iface (ot rfl) (by kernel_rfl)) (go_nil (go_sop rfl rfl ?_))))
 have co10 : COi h8 bp0 bp0_1 bp0_2 bp0_3 bp1 none [] (Cli.c_end) (.func (.func 46) #[] #[]) := COi.c_end
 refine gs_pack (fun s => Zindex_Index h8 bp0 bp0_1 bp0_2 bp0_3 s p0 p0o0 x8.2) (.cons (.s (.s (.s (.s (.z))))) (.cons (.s (.s (.s (.s (.z))))) (.cons .z .nil))) ⟨_, _, rfl, (f6z0.ext e8.kn), f8_0⟩ fun z11p y11p => (gs_pack (fun s => Zindex_Work h8 bp0 bp1 s p1) (.cons (.s (.s (.z))) (.cons (.s (.s (.z))) .nil)) ⟨_, _, _, rfl, (f7z0.ext e8.kn)⟩ fun z12p y12p => ?_)
 obtain ⟨x9, hx9, hF⟩ := obind hF
 refine kcX EE_fr w8 (.cons (.s (.z)) (.cons .z (.cons .z .nil))) rfl of (ops_t rfl (os1 of os0)) hb_42 (s_index_after hrc w8 p0 p0o0 x8.2 p1 x8.1 (Cli.c_end) y11p y12p f8_1 co10 hx9) ?_
 rintro _ _ h9 e9 w9 ⟨z9_y0, z9_y1, v9_r, t9_r, rfl, rfl, f9_0, f9_1, f9_2⟩
 simp only [ca_, na_]
 refine go_nil (go_sop rfl rfl (gA rfl rfl (go_nil (go_snil ?_))))
 obtain rfl := someI hF
 exact g_retO (rst rfl rs0) (.cons .z (.cons .z (.cons .z .nil))) (e8.trans e9) w9 (nd1 f9_0.nd (nd1 f9_1.nd (ndci f9_2 nd0))) ⟨_, _, _, _, rfl, rfl, f9_0, f9_1, f9_2⟩
theorem s_index_after_1 (n : Nat) {rc : RCi} (hrc : RCiok rc) {h : Heap} (hw : Wf h) (p0 : Obst_Tree) (p0o0 : Omem_Mem) (p0o1 : Ochain_Store) (p1 : Oindex_Work) (p2 : Obst_Call_2) (p3 : Cli) {bp0 bp0_1 bp0_2 bp0_3 : Nat} {z0 : List Blk} {bp1 : Nat} {z1 : List Blk} {bp2 : Nat} {z2 : List Blk} {b2c : Nat} {b3 : Nat} {v3 : Value} {b4 : Nat} (y0 : Zindex_Index h bp0 bp0_1 bp0_2 bp0_3 z0 p0 p0o0 p0o1) (y1 : Zindex_Work h bp0 bp1 z1 p1) (y2 : Zbst_Call_2 h bp0_1 bp2 z2 p2) (g2 : BK h b2c [.iface 85 (pt bp2)] 144) (g3 : BK h b3 [v3] 83) (c3 : COi h bp0 bp0_1 bp0_2 bp0_3 bp1 (some bp2) [] p3 v3) (g4 : BK h b4 [.func (.func 77) #[] #[pt b2c, pt b3, pt b4]] 84) {r : _} (hF : F_index_after_1 n rc p0 p0o0 p0o1 p1 p2 p3 = some r) :
 EvO EE 77 [pt b2c, pt b3, pt b4] [z0, z1, z2] h (fun v S h1 => ∃ zy0 zy1 vr tr, v = vr ∧ S = [zy0, zy1, tr] ∧ Zindex_Index h1 bp0 bp0_1 bp0_2 bp0_3 zy0 r.2.1 r.2.2.1 r.2.2.2.1 ∧ Zindex_Work h1 bp0 bp1 zy1 r.2.2.2.2 ∧ OCi h1 bp0 bp0_1 bp0_2 bp0_3 bp1 tr r.1 vr) := by
 unfold F_index_after_1 at hF
 refine evo_of rfl at_77 rfl rfl ?_
 refine go_seq (go_region (gAc rfl rfl (go_nil (go_seq (go_seq (go_region (glc ag_144 g2 rfl rfl rfl ?_)))))))
 obtain ⟨z7z_0, z7z_1, rfl, f7z0, f7z1⟩ := y0
 refine gs_unz ?_
 simp only [ca_, na_]
 refine gs_front (.s (.z)) ?_
 obtain ⟨q8z_1, t8z_1, q8z_2, t8z_2, z8z_0, rfl, f8z0, f8z1, f8z2⟩ := f7z0
 refine gs_unz ?_
 simp only [ca_, na_]
 refine gs_pack (fun s => Zbst_Tree h bp0_1 bp0_2 s p0 p0o0) (.cons .z (.cons .z (.cons .z (.cons .z .nil)))) ⟨_, _, _, _, _, rfl, f8z0, f8z1, f8z2⟩ fun z9p y9p => ?_
 obtain ⟨x6, hx6, hF⟩ := obind hF
 refine gs_calli EE_fr hw (.cons .z (.cons (.s (.s (.s (.z)))) .nil)) (fun _ h => by cases h; rfl) (ot rfl) me_85_Step os0 hb_65 (by exact s_bst_Call_Step n hw p0 p0o0 p2 y9p y2 hx6) ?_
 rintro _ _ h6 e6 w6 ⟨z6_y0, z6_y1, rfl, rfl, f6_0, f6_1⟩
 simp only [ca_, na_]
 refine go_nil ?_
 refine g_cond (b := x6.1) (ot rfl) (fun hc10 => ?_) (fun hc10 => ?_)
 ·
  replace hF := ifT hc10 hF
  refine go_seq (go_region (glc ag_83 (g3.ext e6.kn) rfl rfl rfl (gs_pack (fun s => Zindex_Index h6 bp0 bp0_1 bp0_2 bp0_3 s x6.2.1 x6.2.2.1 p0o1) (.cons (.s (.s (.z))) (.cons .z (.cons (.s (.z)) .nil))) ⟨_, _, rfl, f6_0, (f7z1.ext e6.kn)⟩ fun z12p y12p => ?_)))
  have cw11 := COi.w146 (c3.ext e6.kn) f6_1
  obtain ⟨x11, hx11, hF⟩ := obind hF
  refine gs_calld EE_fr w6 (.cons .z (.cons (.s (.z)) (.cons .z .nil))) (fun _ h => by cases h; rfl) (ot rfl) os0 (by exact hrc w6 x6.2.1 x6.2.2.1 p0o1 p1 y12p (y1.ext e6.kn) (Cli.w146 x6.2.2.2 p3) Argi.u _ cw11 hx11) ?_
  rintro _ _ h11 e11 w11 ⟨z11_y0, z11_y1, v11_r, t11_r, rfl, rfl, f11_0, f11_1, f11_2⟩
  simp only [ca_, na_]
  refine gA rfl rfl (go_nil ?_)
  obtain rfl := someI hF
  exact g_retO (rst rfl rs0) (.cons .z (.cons .z (.cons .z .nil))) (e6.trans e11) w11 (nd1 f11_0.nd (nd1 f11_1.nd (ndci f11_2 nd0))) ⟨_, _, _, _, rfl, rfl, f11_0, f11_1, f11_2⟩
 ·
  replace hF := ifF hc10 hF
  refine go_skip (go_seq (go_region (glc ag_84 (g4.ext e6.kn) rfl rfl rfl (gA rfl rfl (go_nil ?_)))))
  have co13 : COi h6 bp0 bp0_1 bp0_2 bp0_3 bp1 none z6_y1 (Cli.c_after_1 x6.2.2.2 p3) (.func (.func 77) #[] #[pt b2c, pt b3, pt b4]) := COi.c_after_1 (g2.ext e6.kn) (g3.ext e6.kn) (c3.ext e6.kn) (g4.ext e6.kn) f6_1
  refine gs_pack (fun s => Zindex_Index h6 bp0 bp0_1 bp0_2 bp0_3 s x6.2.1 x6.2.2.1 p0o1) (.cons (.s (.s (.z))) (.cons .z (.cons (.s (.z)) .nil))) ⟨_, _, rfl, f6_0, (f7z1.ext e6.kn)⟩ fun z14p y14p => ?_
  obtain rfl := someI hF
  exact g_retO (rst rfl rs0) (.cons .z (.cons (.s (.z)) (.cons .z .nil))) e6 w6 (nd1 y14p.nd (nd1 (y1.ext e6.kn).nd (nd1 f6_1.nd nd0))) ⟨_, _, _, _, rfl, rfl, y14p, (y1.ext e6.kn), (OCi.some co13)⟩
theorem s_chain_Store_of {h : Heap} (hw : Wf h) (p0 : Ochain_Store) (p1 : Int) {bp0 : Nat} {z0 : List Blk} {bW107 : Nat} (y0 : Zchain_Store h bW107 bp0 z0 p0) {r : Tchain_version × Bool × Ochain_Store} (hF : F_chain_Store_of p0 p1 = some r) :
 EvO EE 108 [pt bp0, .int .u64 p1] [z0] h (fun v S h1 => ∃ zy0, v = .tuple #[.agg #[.int .i64 r.1.Event.Rev, .string r.1.Event.Key, .string r.1.Event.Val, .bool r.1.Event.Del, .int .u64 r.1.ahead], .bool r.2.1] ∧ S = [zy0] ∧ Zchain_Store h1 bW107 bp0 zy0 r.2.2) := by
 unfold F_chain_Store_of at hF
 refine evo_of rfl at_108 rfl rfl ?_
 refine go_seq (go_region (gs_alloc rfl zo_175 rfl (fun b4_3 => gAc rfl rfl (go_nil (go_seq (go_seq (go_region (gM rfl rfl (gr rfl (r_bin (v := .bool false) (ot rfl) (oc rfl) (by first | rfl | kernel_rfl)) (gM rfl rfl (g_do rfl rfl rfl (gM rfl rfl (g_do rfl rfl rfl (gr rfl (r_bin (ot rfl) (oc rfl) rfl) (gr rfl (r_pkF (ot rfl) (ot rfl)) (gM rfl rfl ?_))))))))))))))))
 obtain ⟨s5, hF, hK5⟩ := obind hF
 refine go_joinr 9 (β := List Blk) (fun s h' => Zchain_Store h' bW107 bp0 s p0) (fun s => [(0, true, pt bp0), (1, true, .int .u64 p1), (4, true, pt b4_3), (5, true, .bool false), (21, true, .bool s5)]) (fun s => (List.flatten [[⟨b4_3, .cells [.int .i64 0, .string ByteArray.empty, .string ByteArray.empty, .bool false, .int .u64 0] 175⟩], s] : List Blk)) ?_ (fun J5 => ?_)
 ·
  rintro a5_0 h5 e5 w5 f5_z0
  try dsimp only at f5_z0
  replace hF := hK5
  refine go_nil ?_
  refine g_cond (b := s5) (ot rfl) (fun hc6 => ?_) (fun hc6 => ?_)
  ·
   replace hF := ifT hc6 hF
   refine go_seq (go_region (gr rfl (r_build op0 rfl) (gs_store (ot rfl) (ot rfl) sz_175 rfl rfl rfl rfl rfl .z (gAc rfl rfl (go_nil ?_)))))
   obtain rfl := someI hF
   exact g_retO (rsc rfl (lm_w (mem_seg 0 rfl) ag_175 sz_175 rfl) (rst rfl rs0)) (.cons (.s (.z)) .nil) e5 w5 (nd1 f5_z0.nd nd0) ⟨_, rfl, rfl, f5_z0⟩
  ·
   replace hF := ifF hc6 hF
   refine go_skip (go_seq (go_region (gM rfl rfl (gN rfl rfl (gF (fa_161_1 _ _) rfl rfl (gs_front (.s (.z)) ?_))))))
   obtain ⟨q7z_1, t7z_1, rfl, f7z0⟩ := f5_z0
   refine gs_unz ?_
   simp only [ca_, na_]
   refine gls 0 ag_159 rfl rfl rfl rfl (gM rfl rfl (gr rfl (r_bin (ot rfl) (oc rfl) rfl) ?_))
   obtain ⟨x8, hx8, hF⟩ := obind hF
   obtain ⟨bb8, rw8, row8, hp8, ht8, hR8, hw8, rc8, hz8, hi8, hd8, hb8, hl8⟩ := AccR.at_ f7z0 hx8
   have hF8_ := hF
   subst hp8; subst ht8
   replace hF := hF8_
   obtain rfl := rc8
   refine gr rfl (r_ia (ot rfl) (ot rfl) (ia_acc (k := 5) ut_159 sz_175 hz8 hi8)) (gr rfl (r_load (ot rfl) (lm_a (vs := [.int .i64 x8.Event.Rev, .string x8.Event.Key, .string x8.Event.Val, .bool x8.Event.Del, .int .u64 x8.ahead]) (mem_seg 1 rfl) ag_175 sz_175 (Nat.ble_eq_true_of_le hb8) hd8)) (gs_store (ot rfl) (ot rfl) sz_175 rfl rfl rfl rfl rfl (.s (.s (.z))) (gAc rfl rfl (go_nil (gs_pack (fun s => Zchain_Store h5 bW107 bp0 s p0) (.cons .z (.cons .z .nil)) ⟨_, _, rfl, f7z0⟩ fun z9p y9p => ?_)))))
   obtain rfl := someI hF
   exact g_retO (rsc rfl (lm_w (mem_seg 1 rfl) ag_175 sz_175 rfl) (rst rfl rs0)) (.cons .z .nil) e5 w5 (nd1 y9p.nd nd0) ⟨_, rfl, rfl, y9p⟩
 ·
  rcases Bool.eq_false_or_eq_true (decide (p1 < 1)) with hb4 | hb4
  ·
   replace hF := ifT hb4 hF
   refine go_re 12 (v2 := .bool true) rfl (congrArg Value.bool hb4) (g_no rfl rfl rfl rfl rfl (g_no rfl rfl rfl rfl rfl (g_no rfl rfl rfl rfl rfl (g_no rfl rfl rfl rfl rfl (g_no rfl rfl rfl rfl rfl (g_no rfl rfl rfl rfl rfl (g_no rfl rfl rfl rfl rfl (g_no rfl rfl rfl rfl rfl (gr rfl (r_pkT (ot rfl) (oc rfl)) ?_)))))))))
   obtain rfl := someI hF
   exact Goes.weak (J5 z0 _ (HExt.refl _) hw y0) (Sub.cons (Sub.cons (Sub.cons (Sub.cons (Sub.cons (Sub.nil _) rfl) rfl) rfl) rfl) rfl)
  ·
   replace hF := ifF hb4 hF
   refine go_re 12 (v2 := .bool false) rfl (congrArg Value.bool hb4) (g_do rfl rfl rfl (gM rfl rfl (g_do rfl rfl rfl (gM rfl rfl (g_do rfl rfl rfl (gN rfl rfl (g_do rfl rfl rfl (gF (fa_161_1 _ _) rfl rfl (g_do rfl rfl rfl (gs_front (.s (.z)) ?_))))))))))
   obtain ⟨q10z_1, t10z_1, rfl, f10z0⟩ := y0
   refine gs_unz ?_
   simp only [ca_, na_]
   refine gls 0 ag_159 rfl rfl rfl rfl (g_do rfl rfl rfl (gr rfl (r_len rfl (os1 (ot rfl) os0) (fun _ _ => ln_159)) (g_do rfl rfl rfl (gr rfl (r_conv (ot rfl) rfl) (g_do rfl rfl rfl (gr rfl (r_bin (ot rfl) (ot rfl) rfl) (gr rfl (r_pkF (ot rfl) (ot rfl)) (gs_pack (fun s => Zchain_Store h bW107 bp0 s p0) (.cons .z (.cons .z .nil)) ⟨_, _, rfl, f10z0⟩ fun z11p y11p => ?_))))))))
   obtain rfl := someI hF
   refine gs_perm (perm_of (d := []) _ [1, 0] rfl) ?_
   exact Goes.weak (J5 z11p _ (HExt.refl _) hw y11p) (Sub.cons (Sub.cons (Sub.cons (Sub.cons (Sub.cons (Sub.nil _) rfl) rfl) rfl) rfl) rfl)
theorem s_chain_Store_Rev {h : Heap} (hw : Wf h) (p0 : Ochain_Store) (p1 : Int) {bp0 : Nat} {z0 : List Blk} {bW107 : Nat} (y0 : Zchain_Store h bW107 bp0 z0 p0) {r : Int × Ochain_Store} (hF : F_chain_Store_Rev p0 p1 = some r) :
 EvO EE 177 [pt bp0, .int .u64 p1] [z0] h (fun v S h1 => ∃ zy0, v = .int .i64 r.1 ∧ S = [zy0] ∧ Zchain_Store h1 bW107 bp0 zy0 r.2) := by
 unfold F_chain_Store_Rev at hF
 refine evo_of rfl at_177 rfl rfl ?_
 refine go_seq (go_region (gAc rfl rfl (go_nil (go_seq (go_region (gM rfl rfl (gM rfl rfl ?_)))))))
 obtain ⟨x3, hx3, hF⟩ := obind hF
 refine kcX EE_fr hw (.cons .z .nil) rfl of (ops_t rfl (ops_t rfl os0)) hb_108 (s_chain_Store_of (bW107 := bW107) hw p0 p1 y0 hx3) ?_
 rintro _ _ h3 e3 w3 ⟨z3_y0, rfl, rfl, f3_0⟩
 simp only [ca_, na_]
 refine gM rfl rfl (gE rfl rfl rfl (gE rfl rfl rfl (gs_alloc rfl zo_175 rfl (fun b5_4 => gs_store (ot rfl) (ot rfl) sz_175 rfl rfl rfl rfl rfl .z (gA rfl rfl (go_nil (go_seq (go_region (gF (fa_175_0 _ _) rfl rfl (gF (fa_36_0 _ _) rfl rfl (gls 0 ag_3 rfl rfl rfl rfl (gA rfl rfl (go_nil ?_)))))))))))))
 obtain rfl := someI hF
 exact g_retO (rst rfl rs0) (.cons (.s (.z)) .nil) e3 w3 (nd1 f3_0.nd nd0) ⟨_, rfl, rfl, f3_0⟩
theorem s_chain_Store_add {h : Heap} (hw : Wf h) (p0 : Ochain_Store) (p1 : (List Tchain_version)) {bp0 : Nat} {z0 : List Blk} {a1_0 : Option Addr} {c1_0 : Nat} {bW107 : Nat} (y0 : Zchain_Store h bW107 bp0 z0 p0) (f1_0 : RL R_Tchain_version h a1_0 c1_0 p1) {r : Int × Ochain_Store} (hF : F_chain_Store_add p0 p1 = some r) :
 EvO EE 178 [pt bp0, .slice a1_0 p1.length c1_0] [z0] h (fun v S h1 => ∃ zy0, v = .int .u64 r.1 ∧ S = [zy0] ∧ Zchain_Store h1 bW107 bp0 zy0 r.2) := by
 unfold F_chain_Store_add at hF
 refine evo_of rfl at_178 rfl rfl ?_
 refine go_seq (go_region (gAc rfl rfl (go_nil (go_seq (go_region (gM rfl rfl (gM rfl rfl (gN rfl rfl (gF (fa_161_1 _ _) rfl rfl ?_)))))))))
 obtain ⟨q3z_1, t3z_1, rfl, f3z0⟩ := y0
 refine gs_unz ?_
 simp only [ca_, na_]
 refine gls 0 ag_159 rfl rfl rfl rfl (gM rfl rfl ?_)
 obtain ⟨x4, hx4, hF⟩ := obind hF
 obtain ⟨hr4, hz4_⟩ := appL_some hx4; subst x4
 refine gs_front (.s (.z)) ?_
 obtain ⟨rw4, hw4, hq4⟩ := RL.first f1_0 (by decide)
 refine gs_app (rows2 := rw4) (R := R_Tchain_version) rfl (os1 (ot rfl) (os1 (ot rfl) os0)) rfl ut_159 sz_175 rfl (by decide) by_175 zo_175 rfl zs_159_159 rfl rfl (first_e hq4 (fun h' kn => kn.firstV hq4)) hw4 f3z0 hr4 (fun p4_ tl4 f4_ => gN rfl rfl (gF (fa_161_1 _ _) rfl rfl (gs_store (ot rfl) (ot rfl) sz_159 rfl rfl rfl rfl rfl (.s (.z)) (go_nil (go_seq (go_region (gM rfl rfl (gN rfl rfl (gF (fa_161_1 _ _) rfl rfl (gls 1 ag_159 rfl rfl rfl rfl (gr rfl (r_len rfl (os1 (ot rfl) os0) (fun _ _ => ln_159)) (gr rfl (r_conv (ot rfl) rfl) (gA rfl rfl (go_nil (gs_pack (fun s => Zchain_Store h bW107 bp0 s (⟨(p0.all ++ p1)⟩ : Ochain_Store)) (.cons (.s (.z)) (.cons .z .nil)) ⟨_, _, rfl, f4_⟩ fun z5p y5p => ?_)))))))))))))))
 obtain rfl := someI hF
 exact g_retO (rst rfl rs0) (.cons .z .nil) (HExt.refl _) hw (nd1 y5p.nd nd0) ⟨_, rfl, rfl, y5p⟩
theorem s_chain_Put_Step {h : Heap} (hw : Wf h) (p0 : Obst_Tree) (p0o0 : Omem_Mem) (p0o1 : Ochain_Store) (p1 : Ochain_Put) {bp0 bp0_1 bp0_2 bp0_3 : Nat} {z0 : List Blk} {bp1 : Nat} {z1 : List Blk} (y0 : Zindex_Index h bp0 bp0_1 bp0_2 bp0_3 z0 p0 p0o0 p0o1) (y1 : Zchain_Put h bp0_3 bp1 z1 p1) {r : Bool × Obst_Tree × Omem_Mem × Ochain_Store × Ochain_Put} (hF : F_chain_Put_Step p0 p0o0 p0o1 p1 = some r) :
 EvO EE 176 [pt bp1] [z0, z1] h (fun v S h1 => ∃ zy0 zy1, v = .bool r.1 ∧ S = [zy0, zy1] ∧ Zindex_Index h1 bp0 bp0_1 bp0_2 bp0_3 zy0 r.2.1 r.2.2.1 r.2.2.2.1 ∧ Zchain_Put h1 bp0_3 bp1 zy1 r.2.2.2.2) := by
 unfold F_chain_Put_Step at hF
 refine evo_of rfl at_176 rfl rfl ?_
 refine go_seq (go_region (gAc rfl rfl (go_nil (go_seq (go_block (go_seq (go_region (gM rfl rfl (gr rfl (r_bin (v := .bool false) (ot rfl) (oc rfl) (by first | rfl | kernel_rfl)) (gM rfl rfl (g_do rfl rfl rfl (gM rfl rfl (g_do rfl rfl rfl (gN rfl rfl (g_do rfl rfl rfl (gF (fa_163_5 _ _) rfl rfl (g_do rfl rfl rfl (gs_front (.s (.z)) ?_))))))))))))))))))
 obtain rfl := y1
 refine gs_unz ?_
 simp only [ca_, na_]
 refine gls 0 ag_4 rfl rfl rfl rfl (gr rfl (r_pkF (ot rfl) (ot rfl)) (gA rfl rfl (go_nil ?_)))
 refine g_cond (b := p1.done) (ot rfl) (fun hc4 => ?_) (fun hc4 => ?_)
 ·
  replace hF := ifT hc4 hF
  refine go_seq (go_region (gAc rfl rfl (go_nil (gs_pack (fun s => Zchain_Put h bp0_3 bp1 s p1) (.cons .z .nil) rfl fun z5p y5p => ?_))))
  obtain rfl := someI hF
  exact g_retO (rst rfl rs0) (.cons (.s (.z)) (.cons .z .nil)) (HExt.refl _) hw (nd1 y0.nd (nd1 y5p.nd nd0)) ⟨_, _, rfl, rfl, y0, y5p⟩
 ·
  replace hF := ifF hc4 hF
  refine go_seq (go_region (gM rfl rfl (gN rfl rfl (gF (fa_163_4 _ _) rfl rfl (gls 0 ag_4 rfl rfl rfl rfl (gr rfl (r_un (ot rfl) rfl) (gA rfl rfl (go_nil ?_))))))))
  obtain ⟨s7, hF, hK7⟩ := obind hF
  refine go_joinc (β := List Blk) (fun s h' => Zindex_Index h' bp0 bp0_1 bp0_2 bp0_3 s s7.2.2.2.1 s7.2.2.2.2.1 s7.2.2.2.2.2) (fun s => [(0, true, pt bp1), (2, true, .bool false)]) (fun s => (List.flatten [[⟨bp1, .cells [pt bp0_3, .int .i64 p1.cell, .int .i64 p1.e_Rev, .string p1.e_Key, .string p1.e_Val, .bool p1.e_Del, .int .u64 s7.1, .bool s7.2.1, .bool s7.2.2.1] 163⟩], s] : List Blk)) ?_ (fun J7 => ?_)
  ·
   rintro a7_0 h7 e7 w7 f7_3
   try dsimp only at f7_3
   replace hF := hK7
   refine go_endb (go_seq (go_region (gM rfl rfl (gN rfl rfl (gF (fa_163_5 _ _) rfl rfl (gls 0 ag_4 rfl rfl rfl rfl (gA rfl rfl (go_nil (gs_pack (fun s => Zchain_Put h7 bp0_3 bp1 s (⟨p1.cell, p1.e_Rev, p1.e_Key, p1.e_Val, p1.e_Del, s7.1, s7.2.1, s7.2.2.1⟩ : Ochain_Put)) (.cons .z .nil) rfl fun z8p y8p => ?_)))))))))
   obtain rfl := someI hF
   exact g_retO (rst rfl rs0) (.cons (.s (.z)) (.cons .z .nil)) e7 w7 (nd1 f7_3.nd (nd1 y8p.nd nd0)) ⟨_, _, rfl, rfl, f7_3, y8p⟩
  ·
   refine g_cond (b := (!p1.seen)) (ot rfl) (fun hc6 => ?_) (fun hc6 => ?_)
   ·
    replace hF := ifT hc6 hF
    refine go_seq (go_regions (L := sq 0 19) (by kernel_rfl) (by kernel_rfl) (fun _ => rfl) (go_sop rfl rfl (gM rfl rfl (go_nil (go_sop rfl rfl (gM rfl rfl (go_nil (go_sop rfl rfl (gN rfl rfl (go_nil (go_sop rfl rfl (gF (fa_163_0 _ _) rfl rfl (go_nil (go_sop rfl rfl (gls 0 ag_89 rfl rfl rfl rfl (go_nil (go_sop rfl rfl (gN rfl rfl (go_nil (go_sop rfl rfl (gF (fa_161_0 _ _) rfl rfl (go_nil (go_sop rfl rfl ?_)))))))))))))))))))))))
    refine gs_front (.s (.z)) ?_
    obtain ⟨z9z_0, z9z_1, rfl, f9z0, f9z1⟩ := y0
    refine gs_unz ?_
    simp only [ca_, na_]
    refine gs_front (.s (.s (.z))) ?_
    obtain ⟨q10z_1, t10z_1, rfl, f10z0⟩ := f9z1
    refine gs_unz ?_
    simp only [ca_, na_]
    refine gls 0 ag_51 rfl rfl rfl rfl (go_nil (go_sop rfl rfl (gM rfl rfl (go_nil (go_sop rfl rfl (gN rfl rfl (go_nil (go_sop rfl rfl (gF (fa_163_1 _ _) rfl rfl (go_nil (go_sop rfl rfl (gls 4 ag_3 rfl rfl rfl rfl (go_nil (go_sop rfl rfl (gs_front (.s (.s (.s (.z)))) ?_)))))))))))))))
    obtain ⟨q12z_1, t12z_1, q12z_2, t12z_2, z12z_0, rfl, f12z0, f12z1, f12z2⟩ := f9z0
    refine gs_unz ?_
    simp only [ca_, na_]
    refine gs_front (.s (.s (.s (.z)))) ?_
    obtain ⟨q13z_0, t13z_0, rfl, f13z0⟩ := f12z2
    refine gs_unz ?_
    simp only [ca_, na_]
    refine gs_pack (fun s => Zmem_Mem h bp0_2 s p0o0) (.cons .z (.cons .z .nil)) ⟨_, _, rfl, f13z0⟩ fun z14p y14p => ?_
    obtain ⟨x11, hx11, hF⟩ := obind hF
    refine kcX EE_fr hw (.cons .z .nil) rfl of (ops_t rfl (ops_t rfl os0)) hb_79 (s_mem_Mem_Load hw p0o0 p1.cell y14p hx11) ?_
    rintro _ _ h11 e11 w11 ⟨z11_y0, rfl, rfl, f11_0⟩
    simp only [ca_, na_]
    refine go_nil (go_sop rfl rfl (gM rfl rfl (go_nil (go_sop rfl rfl (gE rfl rfl rfl (go_nil (go_sop rfl rfl (gE rfl rfl rfl (go_nil (go_sop rfl rfl (gN rfl rfl (go_nil (go_sop rfl rfl (gF (fa_163_3 _ _) rfl rfl (go_nil (go_sop rfl rfl (gs_store (ot rfl) (ot rfl) sz_93 rfl rfl rfl rfl rfl (.s (.s (.s (.s (.s (.s (.s (.z)))))))) (go_nil (go_snil (go_seq (go_region (gM rfl rfl (gN rfl rfl ?_)))))))))))))))))))))))
    refine gF (fa_163_4 _ _) rfl rfl (gs_store (ot rfl) (oc rfl) sz_4 rfl rfl rfl rfl rfl (.s (.s (.s (.s (.s (.s (.s (.z)))))))) (go_nil (go_regions (L := sq 0 9 ++ sq 10 5 ++ [(9, [14])] ++ sq 15 4) (by kernel_rfl) (by kernel_rfl) (fun _ => rfl) (go_sop rfl rfl (gM rfl rfl (go_nil (go_sop rfl rfl (gM rfl rfl (go_nil (go_sop rfl rfl (gN rfl rfl (go_nil (go_sop rfl rfl (gF (fa_163_0 _ _) rfl rfl (go_nil (go_sop rfl rfl (gls 7 ag_89 rfl rfl rfl rfl (go_nil (go_sop rfl rfl (gM rfl rfl (go_nil (go_sop rfl rfl (gN rfl rfl ?_)))))))))))))))))))))))
    refine go_nil (go_sop rfl rfl (gF (fa_163_3 _ _) rfl rfl (go_nil (go_sop rfl rfl (gls 7 ag_93 rfl rfl rfl rfl (go_nil (go_sop rfl rfl (gM rfl rfl (go_nil (go_sop rfl rfl (gN rfl rfl (go_nil (go_sop rfl rfl (gF (fa_163_2 _ _) rfl rfl (go_nil (go_sop rfl rfl (gF (fa_36_0 _ _) rfl rfl (go_nil (go_sop rfl rfl (gls 7 ag_3 rfl rfl rfl rfl (go_nil (go_sopc [(14, .int .i64 p1.e_Rev)] rfl rfl rfl (rc1 rfl (r_load (ot rfl) (lm_s (mem_seg 7 rfl) ag_3 rfl)) rc0) (vq1 (veq_int _ _ _) vq0) rfl (gs_pack (fun s => Zchain_Store h11 bp0_2 bp0_3 s p0o1) (.cons (.s (.s (.s (.s (.z))))) (.cons (.s (.s (.s (.s (.z))))) .nil)) ⟨_, _, rfl, (f10z0.ext e11.kn)⟩ fun z16p y16p => ?_)))))))))))))))))))))))
    obtain ⟨x15, hx15, hF⟩ := obind hF
    refine kcX EE_fr w11 (.cons .z .nil) rfl of (ops_t rfl (ops_t rfl os0)) hb_177 (s_chain_Store_Rev (bW107 := bp0_2) w11 p0o1 x11.1 y16p hx15) ?_
    rintro _ _ h15 e15 w15 ⟨z15_y0, rfl, rfl, f15_0⟩
    simp only [ca_, na_]
    refine go_nil (go_rck (rcs 6 ag_3 rfl rfl rfl rfl rc0) (go_sop rfl rfl (gr rfl (r_bin (ot rfl) (ot rfl) rfl) (go_nil (go_sop rfl rfl (gN rfl rfl (go_nil (go_sop rfl rfl (gF (fa_163_5 _ _) rfl rfl (go_nil (go_sop rfl rfl (gs_store (ot rfl) (ot rfl) sz_4 rfl rfl rfl rfl rfl (.s (.s (.s (.s (.s (.s (.z))))))) (go_nil (go_snil (gs_pack (fun s => Zbst_Tree h15 bp0_1 bp0_2 s p0 x11.2.2) (.cons (.s (.s (.z))) (.cons (.s (.s (.z))) (.cons (.s (.s (.z))) (.cons (.s (.z)) .nil)))) ⟨_, _, _, _, _, rfl, ((f12z0.ext e11.kn).ext e15.kn), ((f12z1.ext e11.kn).ext e15.kn), (f11_0.ext e15.kn)⟩ fun z17p y17p => (gs_pack (fun s => Zindex_Index h15 bp0 bp0_1 bp0_2 bp0_3 s p0 x11.2.2 x15.2) (.cons (.s (.s (.z))) (.cons .z (.cons .z .nil))) ⟨_, _, rfl, y17p, f15_0⟩ fun z18p y18p => ?_))))))))))))))))
    obtain rfl := someI hF
    refine gs_perm (perm_of (d := []) _ [1, 0] rfl) ?_
    exact Goes.weak (J7 z18p _ (e11.trans e15) w15 y18p) (Sub.cons (Sub.cons (Sub.nil _) rfl) rfl)
   ·
    replace hF := ifF hc6 hF
    refine go_seq (go_regA1 (L := sq 0 30 ++ [(30, [4, 7, 11, 15])] ++ sq 31 7) (by kernel_rfl) (by kernel_rfl) (fun _ => rfl) (fun b33_19 => go_sop rfl rfl (gM rfl rfl (go_nil (go_sop rfl rfl (gM rfl rfl (go_nil (go_sop rfl rfl (gN rfl rfl (go_nil (go_sop rfl rfl (gF (fa_163_0 _ _) rfl rfl (go_nil (go_sop rfl rfl (gls 1 ag_89 rfl rfl rfl rfl (go_nil (go_sop rfl rfl (gN rfl rfl (go_nil (go_sop rfl rfl (gF (fa_161_0 _ _) rfl rfl (go_nil (go_sop rfl rfl ?_)))))))))))))))))))))))
    refine gs_front (.s (.s (.z))) ?_
    obtain ⟨z20z_0, z20z_1, rfl, f20z0, f20z1⟩ := y0
    refine gs_unz ?_
    simp only [ca_, na_]
    refine gs_front (.s (.s (.z))) ?_
    obtain ⟨q21z_1, t21z_1, rfl, f21z0⟩ := f20z1
    refine gs_unz ?_
    simp only [ca_, na_]
    refine gls 0 ag_51 rfl rfl rfl rfl (go_nil (go_sop rfl rfl (gM rfl rfl (go_nil (go_sop rfl rfl (gN rfl rfl (go_nil (go_sop rfl rfl (gF (fa_163_1 _ _) rfl rfl (go_nil (go_sop rfl rfl (gls 5 ag_3 rfl rfl rfl rfl (go_nil (go_sop rfl rfl (gM rfl rfl (go_nil (go_sop rfl rfl (gN rfl rfl (go_nil (go_sop rfl rfl (gF (fa_163_3 _ _) rfl rfl (go_nil (go_sop rfl rfl ?_)))))))))))))))))))))))
    refine gls 5 ag_93 rfl rfl rfl rfl (go_nil (go_sop rfl rfl (gM rfl rfl (go_nil (go_sop rfl rfl (gN rfl rfl (go_nil (go_sop rfl rfl (gF (fa_163_0 _ _) rfl rfl (go_nil (go_sop rfl rfl (gls 5 ag_89 rfl rfl rfl rfl (go_nil (go_sop rfl rfl (gM rfl rfl (go_nil (go_sop rfl rfl (gN rfl rfl (go_nil (go_sop rfl rfl (gF (fa_163_2 _ _) rfl rfl (go_nil (go_sop rfl rfl ?_)))))))))))))))))))))))
    refine gr rfl (r_load (ot rfl) (lm_a (vs := [_, _, _, _]) (mem_seg 5 rfl) ag_36 sz_36 rfl rfl)) (go_nil (go_sop rfl rfl (gM rfl rfl (go_nil (go_sop rfl rfl (gN rfl rfl (go_nil (go_sop rfl rfl (gF (fa_163_3 _ _) rfl rfl (go_nil (go_sop rfl rfl (gls 5 ag_93 rfl rfl rfl rfl (go_nil (go_sop rfl rfl (gr rfl (r_build (op1 (ot rfl) (op1 (ot rfl) op0)) rfl) (go_nil (go_sbslice (cs := [.int .i64 p1.e_Rev, .string p1.e_Key, .string p1.e_Val, .bool p1.e_Del, .int .u64 p1.last]) rfl rfl rfl (op1 (ot rfl) op0) ut_159 sz_175 zo_175 rfl rfl (.s (.s (.s (.s (.z))))) (go_sopc [(4, pt bp0_3), (7, pt bp0_2), (11, .int .i64 p1.cell), (15, .int .u64 p1.last)] rfl rfl rfl (rc1 rfl (r_load (ot rfl) (lm_s (mem_seg 5 rfl) ag_89 rfl)) (rc1 rfl (r_load (ot rfl) (lm_s (mem_seg 0 rfl) ag_51 rfl)) (rc1 rfl (r_load (ot rfl) (lm_s (mem_seg 5 rfl) ag_3 rfl)) (rc1 rfl (r_load (ot rfl) (lm_s (mem_seg 5 rfl) ag_93 rfl)) rc0)))) (vq1 (veq_ptr _ _) (vq1 (veq_ptr _ _) (vq1 (veq_int _ _ _) (vq1 (veq_int _ _ _) vq0)))) rfl (gs_pub (.s (.s (.s (.s (.z))))) (fun h23 e23 w23 hb23 => ?_))))))))))))))))))))
    have f23_ : RL R_Tchain_version h23 (some ⟨b33_19, 0, none⟩) 1 ([(⟨(⟨p1.e_Rev, p1.e_Key, p1.e_Val, p1.e_Del⟩ : TEvent), p1.last⟩ : Tchain_version)] : List Tchain_version) := RL.of_blk (R := R_Tchain_version) (rows := [[.int .i64 p1.e_Rev, .string p1.e_Key, .string p1.e_Val, .bool p1.e_Del, .int .u64 p1.last]]) (.inl rfl) hb23 rfl (Rws.cons (x := (⟨(⟨p1.e_Rev, p1.e_Key, p1.e_Val, p1.e_Del⟩ : TEvent), p1.last⟩ : Tchain_version)) rfl Rws.nil) (by simp) (by simp) rfl
    refine gs_pack (fun s => Zchain_Store h23 bp0_2 bp0_3 s p0o1) (.cons .z (.cons .z .nil)) ⟨_, _, rfl, (f21z0.ext e23.kn)⟩ fun z24p y24p => ?_
    obtain ⟨x22, hx22, hF⟩ := obind hF
    refine kcX EE_fr w23 (.cons .z .nil) rfl of (ops_t rfl (ops_t rfl os0)) hb_178 (s_chain_Store_add (bW107 := bp0_2) w23 p0o1 ([(⟨(⟨p1.e_Rev, p1.e_Key, p1.e_Val, p1.e_Del⟩ : TEvent), p1.last⟩ : Tchain_version)] : List Tchain_version) y24p f23_ hx22) ?_
    rintro _ _ h22 e22 w22 ⟨z22_y0, rfl, rfl, f22_0⟩
    simp only [ca_, na_]
    refine go_nil ?_
    obtain ⟨q25z_1, t25z_1, rfl, f25z0⟩ := f22_0
    refine gs_unz ?_
    simp only [ca_, na_]
    refine go_rck (rcs 4 ag_89 rfl rfl rfl rfl (rcs 0 ag_51 rfl rfl rfl rfl (rcs 4 ag_3 rfl rfl rfl rfl (rcs 4 ag_93 rfl rfl rfl rfl rc0)))) (go_sop rfl rfl (gs_front (.s (.s (.s (.z)))) ?_))
    obtain ⟨q27z_1, t27z_1, q27z_2, t27z_2, z27z_0, rfl, f27z0, f27z1, f27z2⟩ := ((f20z0.ext e23.kn).ext e22.kn)
    refine gs_unz ?_
    simp only [ca_, na_]
    refine gs_front (.s (.s (.s (.z)))) ?_
    obtain ⟨q28z_0, t28z_0, rfl, f28z0⟩ := f27z2
    refine gs_unz ?_
    simp only [ca_, na_]
    refine gs_pack (fun s => Zmem_Mem h22 bp0_2 s p0o0) (.cons .z (.cons .z .nil)) ⟨_, _, rfl, f28z0⟩ fun z29p y29p => ?_
    obtain ⟨x26, hx26, hF⟩ := obind hF
    refine kcX EE_fr w22 (.cons .z .nil) rfl of (ops_t rfl (ops_t rfl (ops_t rfl (ops_t rfl os0)))) hb_129 (s_mem_Mem_CAS w22 p0o0 p1.cell p1.last x22.1 y29p hx26) ?_
    rintro _ _ h26 e26 w26 ⟨z26_y0, rfl, rfl, f26_0⟩
    simp only [ca_, na_]
    refine go_nil (go_sop rfl rfl (gM rfl rfl (go_nil (go_sop rfl rfl (gE rfl rfl rfl (go_nil (go_sop rfl rfl (gE rfl rfl rfl (go_nil (go_sop rfl rfl (gN rfl rfl (go_nil (go_sop rfl rfl (gF (fa_163_5 _ _) rfl rfl (go_nil (go_sop rfl rfl (gs_store (ot rfl) (ot rfl) sz_4 rfl rfl rfl rfl rfl (.s (.s (.s (.s (.s (.s (.s (.z)))))))) (go_nil (go_snil (go_region (gM rfl rfl (gN rfl rfl (gF (fa_163_4 _ _) rfl rfl ?_)))))))))))))))))))))))
    refine gs_store (ot rfl) (oc rfl) sz_4 rfl rfl rfl rfl rfl (.s (.s (.s (.s (.s (.s (.s (.z)))))))) (go_nil (gs_pack (fun s => Zbst_Tree h26 bp0_1 bp0_2 s p0 x26.2.2) (.cons (.s (.z)) (.cons (.s (.z)) (.cons (.s (.z)) (.cons .z .nil)))) ⟨_, _, _, _, _, rfl, (f27z0.ext e26.kn), (f27z1.ext e26.kn), f26_0⟩ fun z30p y30p => (gs_pack (fun s => Zchain_Store h26 bp0_2 bp0_3 s x22.2) (.cons (.s (.z)) (.cons (.s (.z)) .nil)) ⟨_, _, rfl, (f25z0.ext e26.kn)⟩ fun z31p y31p => (gs_pack (fun s => Zindex_Index h26 bp0 bp0_1 bp0_2 bp0_3 s p0 x26.2.2 x22.2) (.cons (.s (.s (.z))) (.cons (.s (.z)) (.cons .z .nil))) ⟨_, _, rfl, y30p, y31p⟩ fun z32p y32p => ?_))))
    obtain rfl := someI hF
    refine gs_perm (perm_of (d := []) _ [1, 0] rfl) ?_
    exact Goes.weak (J7 z32p _ (e23.trans (e22.trans e26)) w26 y32p) (Sub.cons (Sub.cons (Sub.nil _) rfl) rfl)
theorem s_index_after_1_ {rc : RCi} (hrc : RCiok rc) {h : Heap} (hw : Wf h) (p0 : Obst_Tree) (p0o0 : Omem_Mem) (p0o1 : Ochain_Store) (p1 : Oindex_Work) (p2 : Ochain_Put) (p3 : Cli) {bp0 bp0_1 bp0_2 bp0_3 : Nat} {z0 : List Blk} {bp1 : Nat} {z1 : List Blk} {bp2 : Nat} {z2 : List Blk} {b2c : Nat} {b3 : Nat} {v3 : Value} {b4 : Nat} (y0 : Zindex_Index h bp0 bp0_1 bp0_2 bp0_3 z0 p0 p0o0 p0o1) (y1 : Zindex_Work h bp0 bp1 z1 p1) (y2 : Zchain_Put h bp0_3 bp2 z2 p2) (g2 : BK h b2c [.iface 108 (pt bp2)] 144) (g3 : BK h b3 [v3] 83) (c3 : COi h bp0 bp0_1 bp0_2 bp0_3 bp1 none [] p3 v3) (g4 : BK h b4 [.func (.func 77) #[] #[pt b2c, pt b3, pt b4]] 84) {r : _} (hF : F_index_after_1_ rc p0 p0o0 p0o1 p1 p2 p3 = some r) :
 EvO EE 77 [pt b2c, pt b3, pt b4] [z0, z1, z2] h (fun v S h1 => ∃ zy0 zy1 vr tr, v = vr ∧ S = [zy0, zy1, tr] ∧ Zindex_Index h1 bp0 bp0_1 bp0_2 bp0_3 zy0 r.2.1 r.2.2.1 r.2.2.2.1 ∧ Zindex_Work h1 bp0 bp1 zy1 r.2.2.2.2 ∧ OCi h1 bp0 bp0_1 bp0_2 bp0_3 bp1 tr r.1 vr) := by
 unfold F_index_after_1_ at hF
 refine evo_of rfl at_77 rfl rfl ?_
 refine go_seq (go_region (gAc rfl rfl (go_nil (go_seq (go_seq (go_region (glc ag_144 g2 rfl rfl rfl ?_)))))))
 obtain ⟨x6, hx6, hF⟩ := obind hF
 refine gs_calli EE_fr hw (.cons .z (.cons (.s (.z)) .nil)) (fun _ h => by cases h; rfl) (ot rfl) me_108_Step os0 hb_176 (by exact s_chain_Put_Step hw p0 p0o0 p0o1 p2 y0 y2 hx6) ?_
 rintro _ _ h6 e6 w6 ⟨z6_y0, z6_y1, rfl, rfl, f6_0, f6_1⟩
 simp only [ca_, na_]
 refine go_nil ?_
 refine g_cond (b := x6.1) (ot rfl) (fun hc7 => ?_) (fun hc7 => ?_)
 ·
  replace hF := ifT hc7 hF
  refine go_seq (go_region (glc ag_83 (g3.ext e6.kn) rfl rfl rfl ?_))
  obtain ⟨x8, hx8, hF⟩ := obind hF
  refine gs_calld EE_fr w6 (.cons .z (.cons (.s (.z)) (.emp .nil))) (fun _ h => by cases h; rfl) (ot rfl) os0 (by exact hrc w6 x6.2.1 x6.2.2.1 x6.2.2.2.1 p1 f6_0 (y1.ext e6.kn) p3 Argi.u [] (c3.ext e6.kn) hx8) ?_
  rintro _ _ h8 e8 w8 ⟨z8_y0, z8_y1, v8_r, t8_r, rfl, rfl, f8_0, f8_1, f8_2⟩
  simp only [ca_, na_]
  refine gA rfl rfl (go_nil ?_)
  obtain rfl := someI hF
  exact g_retO (rst rfl rs0) (.cons .z (.cons .z (.cons .z .nil))) (e6.trans e8) w8 (nd1 f8_0.nd (nd1 f8_1.nd (ndci f8_2 nd0))) ⟨_, _, _, _, rfl, rfl, f8_0, f8_1, f8_2⟩
 ·
  replace hF := ifF hc7 hF
  refine go_skip (go_seq (go_region (glc ag_84 (g4.ext e6.kn) rfl rfl rfl (gA rfl rfl (go_nil ?_)))))
  have co9 : COi h6 bp0 bp0_1 bp0_2 bp0_3 bp1 none z6_y1 (Cli.c_after_1_v1 x6.2.2.2.2 p3) (.func (.func 77) #[] #[pt b2c, pt b3, pt b4]) := COi.c_after_1_v1 (g2.ext e6.kn) (g3.ext e6.kn) (c3.ext e6.kn) (g4.ext e6.kn) f6_1
  obtain rfl := someI hF
  exact g_retO (rst rfl rs0) (.cons .z (.cons (.s (.z)) (.cons .z .nil))) e6 w6 (nd1 f6_0.nd (nd1 (y1.ext e6.kn).nd (nd1 f6_1.nd nd0))) ⟨_, _, _, _, rfl, rfl, f6_0, (y1.ext e6.kn), (OCi.some co9)⟩
theorem s_chain_Store_At (n : Nat) {h : Heap} (hw : Wf h) (p0 : Ochain_Store) (p1 : Int) (p2 : Int) {bp0 : Nat} {z0 : List Blk} {bW107 : Nat} (y0 : Zchain_Store h bW107 bp0 z0 p0) {r : TKV × Bool × Ochain_Store} (hF : F_chain_Store_At n p0 p1 p2 = some r) :
 EvO EE 80 [pt bp0, .int .u64 p1, .int .i64 p2] [z0] h (fun v S h1 => ∃ zy0, v = .tuple #[.agg #[.string r.1.Key, .string r.1.Val, .int .i64 r.1.Rev], .bool r.2.1] ∧ S = [zy0] ∧ Zchain_Store h1 bW107 bp0 zy0 r.2.2) := by
 unfold F_chain_Store_At at hF
 refine evo_of rfl at_80 rfl rfl ?_
 refine go_seq (go_region (gs_alloc rfl zo_56 rfl (fun b6_4 => gAc rfl rfl (go_nil (go_seq (go_seq (go_region (gM rfl rfl (gM rfl rfl ?_)))))))))
 obtain ⟨x5, hx5, hF⟩ := obind hF
 refine kcX EE_fr hw (.cons (.s (.z)) .nil) rfl of (ops_t rfl (ops_t rfl os0)) hb_108 (s_chain_Store_of (bW107 := bW107) hw p0 p1 y0 hx5) ?_
 rintro _ _ h5 e5 w5 ⟨z5_y0, rfl, rfl, f5_0⟩
 simp only [ca_, na_]
 refine gM rfl rfl (gE rfl rfl rfl (gE rfl rfl rfl (gs_alloc rfl zo_175 rfl (fun b8_6 => gs_store (ot rfl) (ot rfl) sz_175 rfl rfl rfl rfl rfl .z (gA rfl rfl (go_nil ?_))))))
 obtain ⟨s7, hF, hK7⟩ := obind hF
 refine go_joinc (β := ((Ochain_Store)) × List Blk) (fun s h' => s7 = .go s.1 ∧ Zchain_Store h' bW107 bp0 s.2 s.1) (fun s => [(6, true, pt b6_4), (7, true, .bool false)]) (fun s => (List.flatten [s.2, [⟨b6_4, .cells [.string ByteArray.empty, .string ByteArray.empty, .int .i64 0] 56⟩]] : List Blk)) ?_ (fun J7 => ?_)
 ·
  rintro ⟨x7_0, a7_0⟩ h7 e7 w7 ⟨hs7, f7_0⟩
  subst hs7
  try dsimp only at f7_0
  replace hF := lpgo hK7
  refine go_seq (go_region (gr rfl (r_build op0 rfl) (gs_store (ot rfl) (ot rfl) sz_56 rfl rfl rfl rfl rfl (.s (.z)) (gAc rfl rfl (go_nil ?_)))))
  obtain rfl := someI hF
  exact g_retO (rsc rfl (lm_w (mem_seg 1 rfl) ag_56 sz_56 rfl) (rst rfl rs0)) (.cons .z .nil) (e5.trans e7) w7 (nd1 f7_0.nd nd0) ⟨_, rfl, rfl, f7_0⟩
 ·
  refine go_block ?_
  refine go_loop (α := Nat × Bool × Tchain_version × (Ochain_Store) × Nat × List Blk × Heap) (fun a => HExt h5 a.2.2.2.2.2.2 ∧ Wf a.2.2.2.2.2.2 ∧ F_chain_Store_At_L1 p2 a.1 a.2.1 a.2.2.1 a.2.2.2.1 = some s7 ∧ Zchain_Store a.2.2.2.2.2.2 bW107 bp0 a.2.2.2.2.2.1 a.2.2.2.1) (fun a => a.1) (fun a => [(0, true, pt bp0), (2, true, .int .i64 p2), (6, true, pt b6_4), (7, true, .bool false), (8, true, .pointer (some ⟨a.2.2.2.2.1, 0, none⟩)), (9, true, .bool a.2.1)]) (fun a => (List.flatten [[⟨a.2.2.2.2.1, .cells [.int .i64 a.2.2.1.Event.Rev, .string a.2.2.1.Event.Key, .string a.2.2.1.Event.Val, .bool a.2.2.1.Event.Del, .int .u64 a.2.2.1.ahead] 175⟩], a.2.2.2.2.2.1, [⟨b6_4, .cells [.string ByteArray.empty, .string ByteArray.empty, .int .i64 0] 56⟩]] : List Blk)) (fun a => a.2.2.2.2.2.2) ?_ (n, x5.2.1, x5.1, x5.2.2, b8_6, z5_y0, h5) ⟨HExt.refl _, w5, hF, f5_0⟩ (Sub.cons (Sub.cons (Sub.cons (Sub.cons (Sub.cons (Sub.cons (Sub.nil _) rfl) rfl) rfl) rfl) rfl) rfl) rfl rfl
  rintro ⟨m8, y8_0, y8_1, y8_2, bL8_1, a8_1, h8⟩ ⟨e8, w8, hF, f8_2⟩ ih8
  try dsimp only at f8_2
  rcases m8 with _ | m8
  ·
   rw [F_chain_Store_At_L1.eq_1] at hF; cases hF
  ·
   rw [F_chain_Store_At_L1.eq_2] at hF
   refine go_seq (go_seq (go_region (gM rfl rfl (go_nil ?_))))
   refine g_cond (b := y8_0) (ot rfl) (fun hc9 => ?_) (fun hc9 => ?_)
   ·
    replace hF := ifT hc9 hF
    refine go_skip (go_seq (go_block (go_block (go_seq (go_region (gF (fa_175_0 _ _) rfl rfl (gF (fa_36_0 _ _) rfl rfl (gls 0 ag_3 rfl rfl rfl rfl (gM rfl rfl (gr rfl (r_bin (ot rfl) (ot rfl) rfl) (gA rfl rfl (go_nil ?_))))))))))))
    refine g_cond (b := (decide (y8_1.Event.Rev > p2))) (ot rfl) (fun hc10 => ?_) (fun hc10 => ?_)
    ·
     replace hF := ifT hc10 hF
     refine go_skip (go_endb (go_endb (go_seq (go_seq (go_region (glw 0 ag_175 sz_175 rfl rfl rfl rfl (go_nil (go_region (gs_alloc rfl zo_175 rfl (fun b8_11 => gs_store (ot rfl) (ot rfl) sz_175 rfl rfl rfl rfl rfl .z (go_nil (go_region (gM rfl rfl (gF (fa_175_1 _ _) rfl rfl (gls 0 ag_93 rfl rfl rfl rfl ?_)))))))))))))))
     obtain ⟨x12, hx12, hF⟩ := obind hF
     refine kcX EE_fr w8 (.cons (.s (.s (.z))) .nil) rfl of (ops_t rfl (ops_t rfl os0)) hb_108 (s_chain_Store_of (bW107 := bW107) w8 y8_2 y8_1.ahead f8_2 hx12) ?_
     rintro _ _ h12 e12 w12 ⟨z12_y0, rfl, rfl, f12_0⟩
     simp only [ca_, na_]
     refine gM rfl rfl (gE rfl rfl rfl (gE rfl rfl rfl (gs_store (ot rfl) (ot rfl) sz_175 rfl rfl rfl rfl rfl (.s (.z)) (gA rfl rfl (go_nil (gs_sub (.cons_cons _ (.cons_cons _ (.cons _ (.cons_cons _ (.refl _))))) (gs_perm (perm_of (d := []) _ [1, 0, 2] rfl) ?_)))))))
     exact Goes.weak (ih8 (m8, x12.2.1, x12.1, x12.2.2, b8_11, z12_y0, h12) ⟨(e8.trans e12), w12, hF, f12_0⟩ (Nat.lt_succ_self _)) (Sub.cons (Sub.cons (Sub.cons (Sub.cons (Sub.cons (Sub.cons (Sub.nil _) rfl) rfl) rfl) rfl) rfl) rfl)
    ·
     replace hF := ifF hc10 hF
     refine go_seq (go_region (gF (fa_175_0 _ _) rfl rfl (gF (fa_36_3 _ _) rfl rfl (gls 0 ag_4 rfl rfl rfl rfl (gA rfl rfl (go_nil ?_))))))
     refine g_cond (b := y8_1.Event.Del) (ot rfl) (fun hc13 => ?_) (fun hc13 => ?_)
     ·
      replace hF := ifT hc13 hF
      refine go_seq (go_region (gr rfl (r_build op0 rfl) (gs_store (ot rfl) (ot rfl) sz_56 rfl rfl rfl rfl rfl (.s (.s (.z))) (gAc rfl rfl (go_nil ?_)))))
      obtain rfl := someI hF
      obtain rfl := someI hK7
      exact g_retO (rsc rfl (lm_w (mem_seg 2 rfl) ag_56 sz_56 rfl) (rst rfl rs0)) (.cons (.s (.z)) .nil) (e5.trans e8) w8 (nd1 f8_2.nd nd0) ⟨_, rfl, rfl, f8_2⟩
     ·
      replace hF := ifF hc13 hF
      refine go_seq (go_region (gF (fa_175_0 _ _) rfl rfl (gF (fa_36_1 _ _) rfl rfl (gls 0 ag_9 rfl rfl rfl rfl (gF (fa_175_0 _ _) rfl rfl (gF (fa_36_2 _ _) rfl rfl (gls 0 ag_9 rfl rfl rfl rfl (gF (fa_175_0 _ _) rfl rfl (gF (fa_36_0 _ _) rfl rfl (gls 0 ag_3 rfl rfl rfl rfl (gr rfl (r_build (op1 (ot rfl) (op1 (ot rfl) (op1 (ot rfl) op0))) rfl) (gs_store (ot rfl) (ot rfl) sz_56 rfl rfl rfl rfl rfl (.s (.s (.z))) (gAc rfl rfl (go_nil ?_))))))))))))))
      obtain rfl := someI hF
      obtain rfl := someI hK7
      exact g_retO (rsc rfl (lm_w (mem_seg 2 rfl) ag_56 sz_56 rfl) (rst rfl rs0)) (.cons (.s (.z)) .nil) (e5.trans e8) w8 (nd1 f8_2.nd nd0) ⟨_, rfl, rfl, f8_2⟩
   ·
    replace hF := ifF hc9 hF
    refine go_exit rfl ?_
    obtain rfl := someI hF
    refine gs_sub (.cons _ (.cons_cons _ (.cons_cons _ (.refl _)))) ?_
    exact Goes.weak (J7 (y8_2, a8_1) _ e8 w8 ⟨rfl, f8_2⟩) (Sub.cons (Sub.cons (Sub.nil _) rfl) rfl)
theorem s_index_Work_look_1 (n : Nat) {rc : RCi} (hrc : RCiok rc) {h : Heap} (hw : Wf h) (p0 : Obst_Tree) (p0o0 : Omem_Mem) (p0o1 : Ochain_Store) (p1 : Oindex_Work) (p3 : Int) (p4 : Int) (p5 : Cli) {bp0 bp0_1 bp0_2 bp0_3 : Nat} {z0 : List Blk} {bp1 : Nat} {z1 : List Blk} {b2 : Nat} {b3 : Nat} {b4 : Nat} {b5 : Nat} {v5 : Value} (y0 : Zindex_Index h bp0 bp0_1 bp0_2 bp0_3 z0 p0 p0o0 p0o1) (y1 : Zindex_Work h bp0 bp1 z1 p1) (g2 : BK h b2 [pt bp1] 32) (g3 : BK h b3 [.int .u64 p3] 93) (g4 : BK h b4 [.int .i64 p4] 3) (g5 : BK h b5 [v5] 83) (c5 : COi h bp0 bp0_1 bp0_2 bp0_3 bp1 none [] p5 v5) {r : _} (hF : F_index_Work_look_1 n rc p0 p0o0 p0o1 p1 p3 p4 p5 = some r) :
 EvO EE 78 [pt b2, pt b3, pt b4, pt b5] [z0, z1] h (fun v S h1 => ∃ zy0 zy1 vr tr, v = vr ∧ S = [zy0, zy1, tr] ∧ Zindex_Index h1 bp0 bp0_1 bp0_2 bp0_3 zy0 r.2.1 r.2.2.1 r.2.2.2.1 ∧ Zindex_Work h1 bp0 bp1 zy1 r.2.2.2.2 ∧ OCi h1 bp0 bp0_1 bp0_2 bp0_3 bp1 tr r.1 vr) := by
 unfold F_index_Work_look_1 at hF
 refine evo_of rfl at_78 rfl rfl ?_
 refine go_seq (go_region (gAc rfl rfl (go_nil (go_seq (go_regions (L := sq 0 15) (by kernel_rfl) (by kernel_rfl) (fun _ => rfl) (go_sop rfl rfl (glc ag_32 g2 rfl rfl rfl (go_nil (go_sop rfl rfl (gN rfl rfl (go_nil (go_sop rfl rfl (gF (fa_88_0 _ _) rfl rfl (go_nil (go_sop rfl rfl (gs_front (.s (.z)) ?_))))))))))))))))
 obtain ⟨v7z_1, q7z_4, t7z_4, rfl, f7z0⟩ := y1
 refine gs_unz ?_
 simp only [ca_, na_]
 refine gls 0 ag_27 rfl rfl rfl rfl (go_nil (go_sop rfl rfl (gN rfl rfl (go_nil (go_sop rfl rfl (gF (fa_91_2 _ _) rfl rfl (go_nil (go_sop rfl rfl (gs_front (.s (.s (.z))) ?_)))))))))
 obtain ⟨z8z_0, z8z_1, rfl, f8z0, f8z1⟩ := y0
 refine gs_unz ?_
 simp only [ca_, na_]
 refine gls 0 ag_51 rfl rfl rfl rfl (go_nil (go_sop rfl rfl (glc ag_93 g3 rfl rfl rfl (go_nil (go_sop rfl rfl (gr rfl (r_conv (ot rfl) rfl) (go_nil (go_sop rfl rfl (gs_front (.s (.z)) ?_)))))))))
 obtain ⟨q10z_1, t10z_1, q10z_2, t10z_2, z10z_0, rfl, f10z0, f10z1, f10z2⟩ := f8z0
 refine gs_unz ?_
 simp only [ca_, na_]
 refine gs_front (.s (.s (.s (.z)))) ?_
 obtain ⟨q11z_0, t11z_0, rfl, f11z0⟩ := f10z2
 refine gs_unz ?_
 simp only [ca_, na_]
 refine gs_pack (fun s => Zmem_Mem h bp0_2 s p0o0) (.cons .z (.cons .z .nil)) ⟨_, _, rfl, f11z0⟩ fun z12p y12p => ?_
 obtain ⟨x9, hx9, hF⟩ := obind hF
 refine kcX EE_fr hw (.cons .z .nil) rfl of (ops_t rfl (ops_t rfl os0)) hb_79 (s_mem_Mem_Load hw p0o0 (IntKind.i64.wrap p3) y12p hx9) ?_
 rintro _ _ h9 e9 w9 ⟨z9_y0, rfl, rfl, f9_0⟩
 simp only [ca_, na_]
 refine go_nil (go_sop rfl rfl (gM rfl rfl (go_nil (go_sop rfl rfl (gE rfl rfl rfl (go_nil (go_sop rfl rfl (gE rfl rfl rfl (go_nil (go_sop rfl rfl (gA rfl rfl (go_nil (go_sop rfl rfl (gA rfl rfl (go_nil (go_snil (go_seq (go_seq (go_regA1 (L := sq 0 16) (by kernel_rfl) (by kernel_rfl) (fun _ => rfl) (fun b7_13 => go_sop rfl rfl (glc ag_32 (g2.ext e9.kn) rfl rfl rfl (go_nil (go_sop rfl rfl ?_)))))))))))))))))))))))
 refine gN rfl rfl (go_nil (go_sop rfl rfl (gF (fa_88_0 _ _) rfl rfl (go_nil (go_sop rfl rfl (gls 7 ag_27 rfl rfl rfl rfl (go_nil (go_sop rfl rfl (gN rfl rfl (go_nil (go_sop rfl rfl (gF (fa_91_1 _ _) rfl rfl (go_nil (go_sop rfl rfl (gls 5 ag_89 rfl rfl rfl rfl (go_nil (go_sop rfl rfl (gM rfl rfl (go_nil (go_sop rfl rfl (glc ag_3 (g4.ext e9.kn) rfl rfl rfl (go_nil (go_sop rfl rfl ?_)))))))))))))))))))))))
 obtain ⟨x14, hx14, hF⟩ := obind hF
 refine kcX EE_fr w9 (.cons (.s (.s (.s (.s (.s (.s (.z))))))) .nil) rfl of (ops_t rfl (ops_t rfl (ops_t rfl os0))) hb_80 (s_chain_Store_At n (bW107 := bp0_2) w9 p0o1 x9.1 p4 (f8z1.ext e9.kn) hx14) ?_
 rintro _ _ h14 e14 w14 ⟨z14_y0, rfl, rfl, f14_0⟩
 simp only [ca_, na_]
 refine go_nil (go_sop rfl rfl (gM rfl rfl (go_nil (go_sop rfl rfl (gE rfl rfl rfl (go_nil (go_sop rfl rfl (gE rfl rfl rfl (go_nil (go_salloc rfl rfl rfl zo_56 rfl (.s (.z)) (go_sop rfl rfl (gs_store (ot rfl) (ot rfl) sz_56 rfl rfl rfl rfl rfl (.s (.z)) (go_nil (go_sop rfl rfl (gA rfl rfl (go_nil (go_snil (go_seq (go_region (gM rfl rfl (go_nil ?_)))))))))))))))))))))
 refine g_cond (b := x14.2.1) (ot rfl) (fun hc15 => ?_) (fun hc15 => ?_)
 ·
  replace hF := ifT hc15 hF
  refine go_regA1 (L := sq 0 7 ++ [(7, [0])] ++ sq 8 3) (by kernel_rfl) (by kernel_rfl) (fun _ => rfl) (fun b42_16 => go_sop rfl rfl (glc ag_32 ((g2.ext e9.kn).ext e14.kn) rfl rfl rfl (go_nil (go_sop rfl rfl (glc ag_32 ((g2.ext e9.kn).ext e14.kn) rfl rfl rfl (go_nil (go_sop rfl rfl (gN rfl rfl (go_nil (go_sop rfl rfl (gF (fa_88_4 _ _) rfl rfl (go_nil (go_sop rfl rfl (gls 8 ag_29 rfl rfl rfl rfl (go_nil (go_sop rfl rfl (glw 2 ag_56 sz_56 rfl rfl rfl rfl (go_nil (go_sbslice (cs := [.string x14.1.Key, .string x14.1.Val, .int .i64 x14.1.Rev]) rfl rfl rfl (op1 (ot rfl) op0) ut_29 sz_56 zo_56 rfl rfl .z (go_sopc [(0, pt bp1)] rfl rfl rfl (rc1 rfl (r_load (ot rfl) (v := pt bp1) (lo_e (fun hf kn => ld_cell ag_32 (((g2.ext e9.kn).ext e14.kn).ext kn) rfl))) rc0) (vq1 (veq_ptr _ _) vq0) rfl ?_))))))))))))))))))))
  obtain ⟨x17, hx17, hF⟩ := obind hF
  obtain ⟨hr17, hz17_⟩ := appL_some hx17; subst x17
  refine gs_front (.s (.s (.s (.s (.s (.s (.s (.s (.s (.z)))))))))) (gs_app (rows2 := [[.string x14.1.Key, .string x14.1.Val, .int .i64 x14.1.Rev]]) (R := R_TKV) rfl (os1 (ot rfl) (os1 (ot rfl) os0)) rfl ut_29 sz_56 rfl (by decide) by_56 zo_56 rfl zs_29_29 rfl rfl (first_m (mem_seg 1 rfl) rfl (by decide)) (Rws.one (x := x14.1) rfl) ((f7z0.ext e9.kn).ext e14.kn) hr17 (fun p17_ tl17 f17_ => go_nil (go_rck (rcc ag_32 ((g2.ext e9.kn).ext e14.kn) rfl rfl rfl rc0) (go_sop rfl rfl (gN rfl rfl (go_nil (go_sop rfl rfl (gF (fa_88_4 _ _) rfl rfl (go_nil (go_sop rfl rfl (gs_store (ot rfl) (ot rfl) sz_29 rfl rfl rfl rfl rfl (.s (.s (.s (.s (.s (.s (.s (.s (.s (.z)))))))))) (go_nil (go_snil (go_seq (go_region (glc ag_83 ((g5.ext e9.kn).ext e14.kn) rfl rfl rfl (gs_pack (fun s => Zbst_Tree h14 bp0_1 bp0_2 s p0 x9.2.2) (.cons (.s (.s (.s (.s (.s (.z)))))) (.cons (.s (.s (.s (.s (.s (.z)))))) (.cons (.s (.s (.s (.s (.s (.z)))))) (.cons (.s (.s (.s (.s (.z))))) .nil)))) ⟨_, _, _, _, _, rfl, ((f10z0.ext e9.kn).ext e14.kn), ((f10z1.ext e9.kn).ext e14.kn), (f9_0.ext e14.kn)⟩ fun z19p y19p => (gs_pack (fun s => Zindex_Index h14 bp0 bp0_1 bp0_2 bp0_3 s p0 x9.2.2 x14.2.2) (.cons (.s (.s (.s (.s (.s (.z)))))) (.cons .z (.cons (.s (.s (.z))) .nil))) ⟨_, _, rfl, y19p, f14_0⟩ fun z20p y20p => (gs_pack (fun s => Zindex_Work h14 bp0 bp1 s (⟨p1.cell, p1.bad, (p1.found ++ ([x14.1] : List TKV))⟩ : Oindex_Work)) (.cons (.s (.s (.s (.s (.z))))) (.cons (.s (.z)) .nil)) ⟨_, _, _, rfl, f17_⟩ fun z21p y21p => ?_)))))))))))))))))))
  obtain ⟨x18, hx18, hF⟩ := obind hF
  refine gs_calld EE_fr w14 (.cons (.s (.z)) (.cons .z (.emp .nil))) (fun _ h => by cases h; rfl) (ot rfl) os0 (by exact hrc w14 p0 x9.2.2 x14.2.2 (⟨p1.cell, p1.bad, (p1.found ++ ([x14.1] : List TKV))⟩ : Oindex_Work) y20p y21p p5 Argi.u [] ((c5.ext e9.kn).ext e14.kn) hx18) ?_
  rintro _ _ h18 e18 w18 ⟨z18_y0, z18_y1, v18_r, t18_r, rfl, rfl, f18_0, f18_1, f18_2⟩
  simp only [ca_, na_]
  refine gA rfl rfl (go_nil ?_)
  obtain rfl := someI hF
  exact g_retO (rst rfl rs0) (.cons .z (.cons .z (.cons .z .nil))) (e9.trans (e14.trans e18)) w18 (nd1 f18_0.nd (nd1 f18_1.nd (ndci f18_2 nd0))) ⟨_, _, _, _, rfl, rfl, f18_0, f18_1, f18_2⟩
 ·
  replace hF := ifF hc15 hF
  refine go_skip (go_seq (go_region (glc ag_83 ((g5.ext e9.kn).ext e14.kn) rfl rfl rfl (gs_pack (fun s => Zbst_Tree h14 bp0_1 bp0_2 s p0 x9.2.2) (.cons (.s (.s (.s (.z)))) (.cons (.s (.s (.s (.z)))) (.cons (.s (.s (.s (.z)))) (.cons (.s (.s (.z))) .nil)))) ⟨_, _, _, _, _, rfl, ((f10z0.ext e9.kn).ext e14.kn), ((f10z1.ext e9.kn).ext e14.kn), (f9_0.ext e14.kn)⟩ fun z23p y23p => (gs_pack (fun s => Zindex_Index h14 bp0 bp0_1 bp0_2 bp0_3 s p0 x9.2.2 x14.2.2) (.cons (.s (.s (.s (.z)))) (.cons .z (.cons .z .nil))) ⟨_, _, rfl, y23p, f14_0⟩ fun z24p y24p => (gs_pack (fun s => Zindex_Work h14 bp0 bp1 s p1) (.cons (.s (.s (.z))) (.cons (.s (.s (.z))) .nil)) ⟨_, _, _, rfl, ((f7z0.ext e9.kn).ext e14.kn)⟩ fun z25p y25p => ?_))))))
  obtain ⟨x22, hx22, hF⟩ := obind hF
  refine gs_calld EE_fr w14 (.cons (.s (.z)) (.cons .z (.emp .nil))) (fun _ h => by cases h; rfl) (ot rfl) os0 (by exact hrc w14 p0 x9.2.2 x14.2.2 p1 y24p y25p p5 Argi.u [] ((c5.ext e9.kn).ext e14.kn) hx22) ?_
  rintro _ _ h22 e22 w22 ⟨z22_y0, z22_y1, v22_r, t22_r, rfl, rfl, f22_0, f22_1, f22_2⟩
  simp only [ca_, na_]
  refine gA rfl rfl (go_nil ?_)
  obtain rfl := someI hF
  exact g_retO (rst rfl rs0) (.cons .z (.cons .z (.cons .z .nil))) (e9.trans (e14.trans e22)) w22 (nd1 f22_0.nd (nd1 f22_1.nd (ndci f22_2 nd0))) ⟨_, _, _, _, rfl, rfl, f22_0, f22_1, f22_2⟩
theorem s_key_In {h : Heap} (hw : Wf h) (p0 : TRange) (p1 : ByteArray)   {r : Bool} (hF : F_key_In p0 p1 = some r) :
 Ev EE 83 [.agg #[.string p0.From, .string p0.To], .string p1] h (fun v _ => v = .bool r) := by
 unfold F_key_In at hF
 refine ev_of hw rfl at_83 rfl rfl (go_seg0 ?_)
 refine go_seq (go_region (gs_box rfl (ot rfl) rfl (fun b2_3 => gAc rfl rfl (go_nil (go_seq (go_region (gF (fa_24_0 _ _) rfl rfl (gls 0 ag_9 rfl rfl rfl rfl (gM rfl rfl (gr rfl (r_bin (ot rfl) (ot rfl) rfl) (gM rfl rfl (grt rfl rfl rfl rfl (r_fa (ot rfl) (fa_24_1 _ _)) (grt rfl rfl rfl rfl (r_load (og rfl id) (lm_s (mem_seg 0 rfl) ag_9 rfl)) (grt rfl rfl rfl rfl (r_bin (og rfl id) (oc rfl) rfl) (grt rfl rfl rfl rfl (r_move (og rfl id)) (grf' rfl rfl rfl rfl (r_move (ot rfl)) (grf' rfl rfl rfl rfl (r_fa (ot rfl) (fa_24_1 _ _)) (grf' rfl rfl rfl rfl (r_load (og rfl id) (lm_s (mem_seg 0 rfl) ag_9 rfl)) (grf' rfl rfl rfl rfl (r_bin (og rfl id) (og rfl id) rfl) (grt rfl rfl rfl rfl (r_pickb (og rfl id) (oc rfl) (og rfl id)) (gr rfl (r_pickb (ot rfl) (og rfl id) (oc rfl)) (gA rfl rfl (go_nil ?_)))))))))))))))))))))))
 obtain rfl := someI hF
 exact g_ret (rst rfl rs0) (fun h1 hf hs => ⟨hs.hext, rfl⟩)
theorem s_index_Work_walk_1 {rc : RCi} (hrc : RCiok rc) {h : Heap} (hw : Wf h) (p0 : Obst_Tree) (p0o0 : Omem_Mem) (p0o1 : Ochain_Store) (p1 : Oindex_Work) (p2 : Obst_Call_2) (p3 : TRange) (p5 : Int) {bp0 bp0_1 bp0_2 bp0_3 : Nat} {z0 : List Blk} {bp1 : Nat} {z1 : List Blk} {bp2 : Nat} {z2 : List Blk} {b2c : Nat} {b3 : Nat} {b4 : Nat} {b5 : Nat} (y0 : Zindex_Index h bp0 bp0_1 bp0_2 bp0_3 z0 p0 p0o0 p0o1) (y1 : Zindex_Work h bp0 bp1 z1 p1) (y2 : Zbst_Call_2 h bp0_1 bp2 z2 p2) (g2 : BK h b2c [pt bp2] 85) (g3 : BK h b3 [.string p3.From, .string p3.To] 24) (g4 : BK h b4 [pt bp1] 32) (g5 : BK h b5 [.int .i64 p5] 3) {r : _} (hF : F_index_Work_walk_1 rc p0 p0o0 p0o1 p1 p2 p3 p5 = some r) :
 EvO EE 82 [pt b2c, pt b3, pt b4, pt b5] [z0, z1, z2] h (fun v S h1 => ∃ zy0 zy1 vr tr, v = vr ∧ S = [zy0, zy1, tr] ∧ Zindex_Index h1 bp0 bp0_1 bp0_2 bp0_3 zy0 r.2.1 r.2.2.1 r.2.2.2.1 ∧ Zindex_Work h1 bp0 bp1 zy1 r.2.2.2.2 ∧ OCi h1 bp0 bp0_1 bp0_2 bp0_3 bp1 tr r.1 vr) := by
 unfold F_index_Work_walk_1 at hF
 refine evo_of rfl at_82 rfl rfl ?_
 refine go_seq (go_region (gAc rfl rfl (go_nil (go_seq (go_region (glc ag_85 g2 rfl rfl rfl ?_))))))
 obtain ⟨z8z_0, z8z_1, rfl, f8z0, f8z1⟩ := y0
 refine gs_unz ?_
 simp only [ca_, na_]
 refine gs_front (.s (.z)) ?_
 obtain ⟨q9z_1, t9z_1, q9z_2, t9z_2, z9z_0, rfl, f9z0, f9z1, f9z2⟩ := f8z0
 refine gs_unz ?_
 simp only [ca_, na_]
 refine gs_pack (fun s => Zbst_Tree h bp0_1 bp0_2 s p0 p0o0) (.cons .z (.cons .z (.cons .z (.cons .z .nil)))) ⟨_, _, _, _, _, rfl, f9z0, f9z1, f9z2⟩ fun z10p y10p => ?_
 obtain ⟨x7, hx7, hF⟩ := obind hF
 refine kcX EE_fr hw (.cons .z (.cons (.s (.s (.s (.z)))) .nil)) rfl of (ops_t rfl os0) hb_44 (s_bst_Call_Answer hw p0 p0o0 p2 y10p y2 hx7) ?_
 rintro _ _ h7 e7 w7 ⟨z7_y0, z7_y1, rfl, rfl, f7_0, f7_1⟩
 simp only [ca_, na_]
 refine gM rfl rfl (gE rfl rfl rfl (gE rfl rfl rfl (gs_alloc rfl zo_95 rfl (fun b5_11 => gs_store (ot rfl) (ot rfl) sz_95 rfl rfl rfl rfl rfl .z (gA rfl rfl (go_nil (go_seq (go_seq (go_region (gF (fa_95_0 _ _) rfl rfl (gls 0 ag_4 rfl rfl rfl rfl (gr rfl (r_un (ot rfl) rfl) (gM rfl rfl ?_)))))))))))))
 obtain ⟨s13, hF, hK13⟩ := obind hF
 refine go_joinr 6 (β := Unit) (fun s h' => True) (fun s => [(1, true, pt b3), (2, true, pt b4), (3, true, pt b5), (4, true, .nilFunc), (5, true, pt b5_11), (21, true, .bool s13)]) (fun s => (List.flatten [[⟨b5_11, .cells [.bool x7.1.Ok, .string x7.1.Key, .int .u64 x7.1.Val, .int .i64 x7.1.Err] 95⟩], z7_y0, z7_y1, [⟨bp0, .cells [pt bp0_1, pt bp0_3, pt bp0_2] 91⟩], z8z_1, z1] : List Blk)) ?_ (fun J13 => ?_)
 ·
  rintro _ h13 e13 w13 _
  replace hF := hK13
  refine go_nil ?_
  refine g_cond (b := s13) (ot rfl) (fun hc14 => ?_) (fun hc14 => ?_)
  ·
   replace hF := ifT hc14 hF
   refine go_seq (go_region (gAc rfl rfl (go_nil (gs_pack (fun s => Zindex_Index h13 bp0 bp0_1 bp0_2 bp0_3 s x7.2.2.1 x7.2.2.2.1 p0o1) (.cons (.s (.s (.s (.z)))) (.cons (.s (.z)) (.cons (.s (.s (.z))) .nil))) ⟨_, _, rfl, (f7_0.ext e13.kn), ((f8z1.ext e7.kn).ext e13.kn)⟩ fun z15p y15p => ?_))))
   obtain rfl := someI hF
   exact g_retO (rst rfl rs0) (.cons .z (.cons (.s (.s (.z))) (.emp .nil))) (e7.trans e13) w13 (nd1 y15p.nd (nd1 ((y1.ext e7.kn).ext e13.kn).nd (nde nd0))) ⟨_, _, _, _, rfl, rfl, y15p, ((y1.ext e7.kn).ext e13.kn), OCi.none⟩
  ·
   replace hF := ifF hc14 hF
   refine go_skip (go_seq (go_region (glc ag_32 ((g4.ext e7.kn).ext e13.kn) rfl rfl rfl (gF (fa_95_2 _ _) rfl rfl (gls 0 ag_93 rfl rfl rfl rfl (glc ag_3 ((g5.ext e7.kn).ext e13.kn) rfl rfl rfl (gr rfl (r_func os0 (os1 (ot rfl) (os1 (ot rfl) (os1 (ot rfl) (os1 (ot rfl) os0))))) (gs_pub .z (fun h17 e17 w17 hb17 => ?_)))))))))
   have g17_ : BK h17 b5_11 [.bool x7.1.Ok, .string x7.1.Key, .int .u64 x7.1.Val, .int .i64 x7.1.Err] 95 := hb17
   have co18 : COi h17 bp0 bp0_1 bp0_2 bp0_3 bp1 none [] (Cli.c_Work_walk_1_1 p3 x7.1 p5) (.func (.func 84) #[] #[pt b4, pt b3, pt b5_11, pt b5]) := COi.c_Work_walk_1_1 (((g4.ext e7.kn).ext e13.kn).ext e17.kn) (((g3.ext e7.kn).ext e13.kn).ext e17.kn) g17_ (((g5.ext e7.kn).ext e13.kn).ext e17.kn)
   refine gs_pack (fun s => Zindex_Index h17 bp0 bp0_1 bp0_2 bp0_3 s x7.2.2.1 x7.2.2.2.1 p0o1) (.cons (.s (.s (.z))) (.cons .z (.cons (.s (.z)) .nil))) ⟨_, _, rfl, ((f7_0.ext e13.kn).ext e17.kn), (((f8z1.ext e7.kn).ext e13.kn).ext e17.kn)⟩ fun z19p y19p => ?_
   obtain ⟨x16, hx16, hF⟩ := obind hF
   refine kcX EE_fr w17 (.cons .z (.cons (.s (.z)) .nil)) rfl of (ops_t rfl (ops_t rfl (ops_t rfl (ops_t rfl os0)))) hb_45 (s_index_Work_look hrc w17 x7.2.2.1 x7.2.2.2.1 p0o1 p1 x7.1.Val p5 (Cli.c_Work_walk_1_1 p3 x7.1 p5) y19p (((y1.ext e7.kn).ext e13.kn).ext e17.kn) co18 hx16) ?_
   rintro _ _ h16 e16 w16 ⟨z16_y0, z16_y1, v16_r, t16_r, rfl, rfl, f16_0, f16_1, f16_2⟩
   simp only [ca_, na_]
   refine gA rfl rfl (go_nil ?_)
   obtain rfl := someI hF
   exact g_retO (rst rfl rs0) (.cons .z (.cons .z (.cons .z .nil))) (e7.trans (e13.trans (e17.trans e16))) w16 (nd1 f16_0.nd (nd1 f16_1.nd (ndci f16_2 nd0))) ⟨_, _, _, _, rfl, rfl, f16_0, f16_1, f16_2⟩
 ·
  rcases Bool.eq_false_or_eq_true (!x7.1.Ok) with hb12 | hb12
  ·
   replace hF := ifT hb12 hF
   refine go_re 15 (v2 := .bool true) rfl (congrArg Value.bool hb12) (g_no rfl rfl rfl rfl rfl (g_no rfl rfl rfl rfl rfl (g_no rfl rfl rfl rfl rfl (g_no rfl rfl rfl rfl rfl (g_no rfl rfl rfl rfl rfl (gr rfl (r_pkT (ot rfl) (oc rfl)) ?_))))))
   obtain rfl := someI hF
   exact Goes.weak (J13 () _ (HExt.refl _) w7 trivial) (Sub.cons (Sub.cons (Sub.cons (Sub.cons (Sub.cons (Sub.cons (Sub.nil _) rfl) rfl) rfl) rfl) rfl) rfl)
  ·
   replace hF := ifF hb12 hF
   refine go_re 15 (v2 := .bool false) rfl (congrArg Value.bool hb12) (g_do rfl rfl rfl (glb ag_24 sz_24 (g3.ext e7.kn) rfl rfl rfl (g_do rfl rfl rfl (gF (fa_95_1 _ _) rfl rfl (g_do rfl rfl rfl (gls 0 ag_9 rfl rfl rfl rfl (g_do rfl rfl rfl ?_)))))))
   obtain ⟨x20, hx20, hF⟩ := obind hF
   refine g_callp (v := .bool x20) EE_fr rfl of (os1 (ot rfl) (os1 (ot rfl) os0)) hb_83 (fun _ => rfl) (fun hf kn w => by exact s_key_In w p3 x7.1.Key  hx20) (g_do rfl rfl rfl (gr rfl (r_un (ot rfl) rfl) (gr rfl (r_pkF (ot rfl) (ot rfl)) ?_)))
   obtain rfl := someI hF
   exact Goes.weak (J13 () _ (HExt.refl _) w7 trivial) (Sub.cons (Sub.cons (Sub.cons (Sub.cons (Sub.cons (Sub.cons (Sub.nil _) rfl) rfl) rfl) rfl) rfl) rfl)
theorem s_key_One {h : Heap} (hw : Wf h) (p0 : ByteArray)   {r : TRange} (hF : F_key_One p0 = some r) :
 Ev EE 85 [.string p0] h (fun v _ => v = .agg #[.string r.From, .string r.To]) := by
 unfold F_key_One at hF
 refine ev_of hw rfl at_85 rfl rfl (go_seg0 ?_)
 refine go_seq (go_region (gs_alloc rfl zo_24 rfl (fun b2_2 => go_nil (go_seq (go_region (gM rfl rfl (gM rfl rfl ?_)))))))
 obtain ⟨x3, hx3, hF⟩ := obind hF
 obtain ⟨hz3, rfl⟩ := addS_some hx3
 refine gr rfl (r_bin (ot rfl) (oc rfl) (addS_bin hz3)) (gr rfl (r_build (op1 (ot rfl) (op1 (ot rfl) op0)) rfl) (gs_store (ot rfl) (ot rfl) sz_24 rfl rfl rfl rfl rfl .z (go_nil ?_)))
 obtain rfl := someI hF
 exact g_ret (rsc rfl (lm_w (mem_seg 0 rfl) ag_24 sz_24 rfl) rs0) (fun h1 hf hs => ⟨hs.hext, rfl⟩)
theorem s_index_after_ {rc : RCi} (hrc : RCiok rc) {h : Heap} (hw : Wf h) (p0 : Obst_Tree) (p0o0 : Omem_Mem) (p0o1 : Ochain_Store) (p1 : Oindex_Work) (p2 : Obst_Call_2) (p3 : Cli) {bp0 bp0_1 bp0_2 bp0_3 : Nat} {z0 : List Blk} {bp1 : Nat} {z1 : List Blk} {bp2 : Nat} {z2 : List Blk} {v3 : Value} (y0 : Zindex_Index h bp0 bp0_1 bp0_2 bp0_3 z0 p0 p0o0 p0o1) (y1 : Zindex_Work h bp0 bp1 z1 p1) (y2 : Zbst_Call_2 h bp0_1 bp2 z2 p2) (c3 : COi h bp0 bp0_1 bp0_2 bp0_3 bp1 (some bp2) [] p3 v3) {r : _} (hF : F_index_after_ rc p0 p0o0 p0o1 p1 p2 p3 = some r) :
 EvO EE 42 [.iface 85 (pt bp2), v3] [z0, z1, z2] h (fun v S h1 => ∃ zy0 zy1 vr tr, v = vr ∧ S = [zy0, zy1, tr] ∧ Zindex_Index h1 bp0 bp0_1 bp0_2 bp0_3 zy0 r.2.1 r.2.2.1 r.2.2.2.1 ∧ Zindex_Work h1 bp0 bp1 zy1 r.2.2.2.2 ∧ OCi h1 bp0 bp0_1 bp0_2 bp0_3 bp1 tr r.1 vr) := by
 unfold F_index_after_ at hF
 refine evo_of rfl at_42 rfl rfl ?_
 refine go_seq (go_region (gs_box rfl (ot rfl) rfl (fun b2_5 => gs_box rfl (ot rfl) (COi.one c3) (fun b3_6 => gAc rfl rfl (go_nil (go_seq (go_region (gs_alloc rfl zo_84 rfl (fun b5_7 => go_nil (go_seq (go_region (gr rfl (r_func os0 (os1 (ot rfl) (os1 (ot rfl) (os1 (ot rfl) os0)))) (gs_store (ot rfl) (ot rfl) sz_84 rfl rfl rfl rfl rfl .z (go_nil (go_seq (go_region (gls 0 ag_84 rfl rfl rfl rfl (gA rfl rfl (go_nil (gs_pub (.s (.s (.z))) (fun h8 e8 w8 hb8 => ?_)))))))))))))))))))))
 have g8_ : BK h8 b2_5 [.iface 85 (pt bp2)] 144 := hb8
 refine gs_pub (.s (.z)) (fun h9 e9 w9 hb9 => ?_)
 have g9_ : BK h9 b3_6 [v3] 83 := hb9
 refine gs_pub .z (fun h10 e10 w10 hb10 => ?_)
 have g10_ : BK h10 b5_7 [.func (.func 77) #[] #[pt b2_5, pt b3_6, pt b5_7]] 84 := hb10
 have co11 : COi h10 bp0 bp0_1 bp0_2 bp0_3 bp1 none z2 (Cli.c_after_1 p2 p3) (.func (.func 77) #[] #[pt b2_5, pt b3_6, pt b5_7]) := COi.c_after_1 ((g8_.ext e9.kn).ext e10.kn) (g9_.ext e10.kn) (((c3.ext e8.kn).ext e9.kn).ext e10.kn) g10_ (((y2.ext e8.kn).ext e9.kn).ext e10.kn)
 obtain rfl := someI hF
 exact g_retO (rst rfl rs0) (.cons .z (.cons .z (.cons .z .nil))) (e8.trans (e9.trans e10)) w10 (nd1 (((y0.ext e8.kn).ext e9.kn).ext e10.kn).nd (nd1 (((y1.ext e8.kn).ext e9.kn).ext e10.kn).nd (nd1 (((y2.ext e8.kn).ext e9.kn).ext e10.kn).nd nd0))) ⟨_, _, _, _, rfl, rfl, (((y0.ext e8.kn).ext e9.kn).ext e10.kn), (((y1.ext e8.kn).ext e9.kn).ext e10.kn), (OCi.some co11)⟩
theorem s_index_Work_walk (n : Nat) {rc : RCi} (hrc : RCiok rc) {h : Heap} (hw : Wf h) (p0 : Obst_Tree) (p0o0 : Omem_Mem) (p0o1 : Ochain_Store) (p1 : Oindex_Work) (p3 : TRange) (p4 : ByteArray) (p5 : Int) {bp0 bp0_1 bp0_2 bp0_3 : Nat} {z0 : List Blk} {bp1 : Nat} {z1 : List Blk} (y0 : Zindex_Index h bp0 bp0_1 bp0_2 bp0_3 z0 p0 p0o0 p0o1) (y1 : Zindex_Work h bp0 bp1 z1 p1) {r : _} (hF : F_index_Work_walk n rc p0 p0o0 p0o1 p1 p3 p4 p5 = some r) :
 EvO EE 48 [pt bp1, .agg #[.string p3.From, .string p3.To], .string p4, .int .i64 p5] [z0, z1] h (fun v S h1 => ∃ zy0 zy1 vr tr, v = vr ∧ S = [zy0, zy1, tr] ∧ Zindex_Index h1 bp0 bp0_1 bp0_2 bp0_3 zy0 r.2.1 r.2.2.1 r.2.2.2.1 ∧ Zindex_Work h1 bp0 bp1 zy1 r.2.2.2.2 ∧ OCi h1 bp0 bp0_1 bp0_2 bp0_3 bp1 tr r.1 vr) := by
 unfold F_index_Work_walk at hF
 refine evo_of rfl at_48 rfl rfl ?_
 refine go_seq (go_region (gs_box rfl (ot rfl) rfl (fun b4_7 => gs_box rfl (ot rfl) rfl (fun b5_8 => gs_box rfl (ot rfl) rfl (fun b7_9 => gAc rfl rfl (go_nil (go_seq (go_region (gls 2 ag_32 rfl rfl rfl rfl (gN rfl rfl (gF (fa_88_0 _ _) rfl rfl (gs_front (.s (.s (.s (.s (.z))))) ?_))))))))))))
 obtain ⟨v10z_1, q10z_4, t10z_4, rfl, f10z0⟩ := y1
 refine gs_unz ?_
 simp only [ca_, na_]
 refine gls 0 ag_27 rfl rfl rfl rfl (gN rfl rfl (gF (fa_91_0 _ _) rfl rfl (gs_front (.s (.s (.s (.s (.s (.z)))))) ?_)))
 obtain ⟨z11z_0, z11z_1, rfl, f11z0, f11z1⟩ := y0
 refine gs_unz ?_
 simp only [ca_, na_]
 refine gls 0 ag_61 rfl rfl rfl rfl (gM rfl rfl ?_)
 obtain ⟨x12, hx12, hF⟩ := obind hF
 refine kcX EE_fr hw (.cons (.s (.z)) .nil) rfl of (ops_t rfl (ops_t rfl os0)) hb_81 (s_bst_Tree_Seek n hw p0 p0o0 p4 f11z0 hx12) ?_
 rintro _ _ h12 e12 w12 ⟨z12_y0, b12_w0, z12_w0, rfl, rfl, f12_0, f12_1⟩
 simp only [ca_, na_]
 refine gs_alloc rfl zo_85 rfl (fun b9_13 => gs_store (ot rfl) (ot rfl) sz_85 rfl rfl rfl rfl rfl .z (go_nil (go_seq (go_region (gls 0 ag_85 rfl rfl rfl rfl (gr rfl (r_iface (ot rfl) (by kernel_rfl)) (gr rfl (r_func os0 (os1 (ot rfl) (os1 (ot rfl) (os1 (ot rfl) (os1 (ot rfl) os0))))) (gs_pub .z (fun h15 e15 w15 hb15 => ?_)))))))))
 have g15_ : BK h15 b9_13 [pt b12_w0] 85 := hb15
 refine gs_pub (.s (.s (.s (.s (.s (.s (.s (.z)))))))) (fun h16 e16 w16 hb16 => ?_)
 have g16_ : BK h16 b5_8 [.string p3.From, .string p3.To] 24 := hb16
 refine gs_pub (.s (.s (.s (.s (.s (.s (.s (.z)))))))) (fun h17 e17 w17 hb17 => ?_)
 have g17_ : BK h17 b4_7 [pt bp1] 32 := hb17
 refine gs_pub (.s (.s (.s (.s (.s (.s (.z))))))) (fun h18 e18 w18 hb18 => ?_)
 have g18_ : BK h18 b7_9 [.int .i64 p5] 3 := hb18
 have co19 : COi h18 bp0 bp0_1 bp0_2 bp0_3 bp1 (some b12_w0) [] (Cli.c_Work_walk_1 p3 p5) (.func (.func 82) #[] #[pt b9_13, pt b5_8, pt b4_7, pt b7_9]) := COi.c_Work_walk_1 (((g15_.ext e16.kn).ext e17.kn).ext e18.kn) ((g16_.ext e17.kn).ext e18.kn) (g17_.ext e18.kn) g18_
 refine gs_pack (fun s => Zindex_Index h18 bp0 bp0_1 bp0_2 bp0_3 s x12.2.1 x12.2.2 p0o1) (.cons (.s (.s (.z))) (.cons .z (.cons (.s (.z)) .nil))) ⟨_, _, rfl, ((((f12_0.ext e15.kn).ext e16.kn).ext e17.kn).ext e18.kn), (((((f11z1.ext e12.kn).ext e15.kn).ext e16.kn).ext e17.kn).ext e18.kn)⟩ fun z20p y20p => (gs_pack (fun s => Zindex_Work h18 bp0 bp1 s p1) (.cons (.s (.s (.z))) (.cons (.s (.s (.z))) .nil)) ⟨_, _, _, rfl, (((((f10z0.ext e12.kn).ext e15.kn).ext e16.kn).ext e17.kn).ext e18.kn)⟩ fun z21p y21p => ?_)
 obtain ⟨x14, hx14, hF⟩ := obind hF
 refine kcX EE_fr w18 (.cons (.s (.z)) (.cons .z (.cons .z .nil))) rfl of (ops_t rfl (ops_t rfl os0)) hb_42 (s_index_after_ hrc w18 x12.2.1 x12.2.2 p0o1 p1 x12.1 (Cli.c_Work_walk_1 p3 p5) y20p y21p ((((f12_1.ext e15.kn).ext e16.kn).ext e17.kn).ext e18.kn) co19 hx14) ?_
 rintro _ _ h14 e14 w14 ⟨z14_y0, z14_y1, v14_r, t14_r, rfl, rfl, f14_0, f14_1, f14_2⟩
 simp only [ca_, na_]
 refine gA rfl rfl (go_nil ?_)
 obtain rfl := someI hF
 exact g_retO (rst rfl rs0) (.cons .z (.cons .z (.cons .z .nil))) (e12.trans (e15.trans (e16.trans (e17.trans (e18.trans e14))))) w14 (nd1 f14_0.nd (nd1 f14_1.nd (ndci f14_2 nd0))) ⟨_, _, _, _, rfl, rfl, f14_0, f14_1, f14_2⟩
theorem s_index_Work_walk_1_1 (n : Nat) {rc : RCi} (hrc : RCiok rc) {h : Heap} (hw : Wf h) (p0 : Obst_Tree) (p0o0 : Omem_Mem) (p0o1 : Ochain_Store) (p1 : Oindex_Work) (p3 : TRange) (p4 : Tbst_Answer) (p5 : Int) {bp0 bp0_1 bp0_2 bp0_3 : Nat} {z0 : List Blk} {bp1 : Nat} {z1 : List Blk} {b2 : Nat} {b3 : Nat} {b4 : Nat} {b5 : Nat} (y0 : Zindex_Index h bp0 bp0_1 bp0_2 bp0_3 z0 p0 p0o0 p0o1) (y1 : Zindex_Work h bp0 bp1 z1 p1) (g2 : BK h b2 [pt bp1] 32) (g3 : BK h b3 [.string p3.From, .string p3.To] 24) (g4 : BK h b4 [.bool p4.Ok, .string p4.Key, .int .u64 p4.Val, .int .i64 p4.Err] 95) (g5 : BK h b5 [.int .i64 p5] 3) {r : _} (hF : F_index_Work_walk_1_1 n rc p0 p0o0 p0o1 p1 p3 p4 p5 = some r) :
 EvO EE 84 [pt b2, pt b3, pt b4, pt b5] [z0, z1] h (fun v S h1 => ∃ zy0 zy1 vr tr, v = vr ∧ S = [zy0, zy1, tr] ∧ Zindex_Index h1 bp0 bp0_1 bp0_2 bp0_3 zy0 r.2.1 r.2.2.1 r.2.2.2.1 ∧ Zindex_Work h1 bp0 bp1 zy1 r.2.2.2.2 ∧ OCi h1 bp0 bp0_1 bp0_2 bp0_3 bp1 tr r.1 vr) := by
 unfold F_index_Work_walk_1_1 at hF
 refine evo_of rfl at_84 rfl rfl ?_
 refine go_seq (go_region (gAc rfl rfl (go_nil (go_seq (go_regions (L := sq 0 4 ++ [(6, []), (4, [0, 1, 6]), (5, []), (7, []), (8, [])]) (by kernel_rfl) (by kernel_rfl) (fun _ => rfl) (go_sop rfl rfl (glc ag_32 g2 rfl rfl rfl (go_nil (go_sop rfl rfl (glb ag_24 sz_24 g3 rfl rfl rfl (go_nil (go_sop rfl rfl (gF (fa_95_1 _ _) rfl rfl (go_nil (go_sop rfl rfl (glc ag_9 g4 rfl rfl rfl (go_nil (go_sop rfl rfl (glc ag_3 g5 rfl rfl rfl (go_nil (go_sopc [(0, pt bp1), (1, .agg #[.string p3.From, .string p3.To]), (6, .int .i64 p5)] rfl rfl rfl (rc1 rfl (r_load (ot rfl) (v := pt bp1) (lo_e (fun hf kn => ld_cell ag_32 (g2.ext kn) rfl))) (rc1 rfl (r_load (ot rfl) (v := .agg #[.string p3.From, .string p3.To]) (lo_e (fun hf kn => ld_bkw ag_24 sz_24 (g3.ext kn) rfl))) (rc1 rfl (r_load (ot rfl) (v := .int .i64 p5) (lo_e (fun hf kn => ld_cell ag_3 (g5.ext kn) rfl))) rc0))) (vq1 (veq_ptr _ _) (vq1 (veq_agg _ _ (va1 (veq_str _ _) (va1 (veq_str _ _) (va0 _)))) (vq1 (veq_int _ _ _) vq0))) rfl ?_)))))))))))))))))))))
 obtain ⟨x7, hx7, hF⟩ := obind hF
 refine g_callp (v := .agg #[.string x7.From, .string x7.To]) EE_fr rfl of (os1 (ot rfl) os0) hb_85 (fun _ => rfl) (fun hf kn w => by exact s_key_One w p4.Key  hx7) (go_nil (go_rck (rcc ag_32 g2 rfl rfl rfl (rc1 rfl (r_load (ot rfl) (v := .agg #[.string p3.From, .string p3.To]) (lo_e (fun hf kn => ld_bkw ag_24 sz_24 (g3.ext kn) rfl))) (rcc ag_3 g5 rfl rfl rfl rc0))) (go_sop rfl rfl (gr rfl (r_field (v := .string x7.To) (ot rfl) (by first | rfl | kernel_rfl)) (go_nil (go_sop rfl rfl ?_))))))
 obtain ⟨x8, hx8, hF⟩ := obind hF
 refine kcX EE_fr hw (.cons .z (.cons .z .nil)) rfl of (ops_t rfl (ops_t rfl (ops_t rfl (ops_t rfl os0)))) hb_48 (s_index_Work_walk n hrc hw p0 p0o0 p0o1 p1 p3 x7.To p5 y0 y1 hx8) ?_
 rintro _ _ h8 e8 w8 ⟨z8_y0, z8_y1, v8_r, t8_r, rfl, rfl, f8_0, f8_1, f8_2⟩
 simp only [ca_, na_]
 refine go_nil (go_sop rfl rfl (gA rfl rfl (go_nil (go_snil ?_))))
 obtain rfl := someI hF
 exact g_retO (rst rfl rs0) (.cons .z (.cons .z (.cons .z .nil))) e8 w8 (nd1 f8_0.nd (nd1 f8_1.nd (ndci f8_2 nd0))) ⟨_, _, _, _, rfl, rfl, f8_0, f8_1, f8_2⟩
theorem s_chain_Store_Cell {h : Heap} (hw : Wf h) (p0 : Omem_Mem) (p1 : Ochain_Store) {bp0 : Nat} {z0 : List Blk} {bp1 : Nat} {z1 : List Blk} (y0 : Zmem_Mem h bp0 z0 p0) (y1 : Zchain_Store h bp0 bp1 z1 p1) {r : Int × Int × Omem_Mem × Ochain_Store} (hF : F_chain_Store_Cell p0 p1 = some r) :
 EvO EE 87 [pt bp1] [z0, z1] h (fun v S h1 => ∃ zy0 zy1, v = .tuple #[.int .i64 r.1, .int .i64 r.2.1] ∧ S = [zy0, zy1] ∧ Zmem_Mem h1 bp0 zy0 r.2.2.1 ∧ Zchain_Store h1 bp0 bp1 zy1 r.2.2.2) := by
 unfold F_chain_Store_Cell at hF
 refine evo_of rfl at_87 rfl rfl ?_
 refine go_seq (go_region (gAc rfl rfl (gAc rfl rfl (go_nil (go_seq (go_seq (go_region (gM rfl rfl (gr rfl (r_bin (v := .bool false) (ot rfl) (oc rfl) (by first | rfl | kernel_rfl)) (go_nil ?_))))))))))
 refine g_cond (b := false) (ot rfl) (fun hc3 => ?_) (fun hc3 => ?_)
 ·
  cases hc3
 refine go_skip (go_seq (go_region (gM rfl rfl (gN rfl rfl (gF (fa_161_0 _ _) rfl rfl (gs_front (.s (.z)) ?_))))))
 obtain ⟨q4z_1, t4z_1, rfl, f4z0⟩ := y1
 refine gs_unz ?_
 simp only [ca_, na_]
 refine gls 0 ag_51 rfl rfl rfl rfl ?_
 obtain ⟨x5, hx5, hF⟩ := obind hF
 refine kcX EE_fr hw (.cons (.s (.s (.z))) .nil) rfl of (ops_t rfl (ops_c rfl os0)) hb_89 (s_mem_Mem_Grow hw p0 1 y0 hx5) ?_
 rintro _ _ h5 e5 w5 ⟨z5_y0, rfl, rfl, f5_0⟩
 simp only [ca_, na_]
 refine gE rfl rfl rfl (gE rfl rfl rfl (gA rfl rfl (gA rfl rfl (go_nil (gs_pack (fun s => Zchain_Store h5 bp0 bp1 s p1) (.cons (.s (.z)) (.cons (.s (.z)) .nil)) ⟨_, _, rfl, (f4z0.ext e5.kn)⟩ fun z6p y6p => ?_)))))
 obtain rfl := someI hF
 exact g_retO (rst rfl (rst rfl rs0)) (.cons (.s (.z)) (.cons .z .nil)) e5 w5 (nd1 f5_0.nd (nd1 y6p.nd nd0)) ⟨_, _, rfl, rfl, f5_0, y6p⟩
theorem s_index_Work_ensure_1 (n : Nat) {rc : RCi} (hrc : RCiok rc) {h : Heap} (hw : Wf h) (p0 : Obst_Tree) (p0o0 : Omem_Mem) (p0o1 : Ochain_Store) (p1 : Oindex_Work) (p2 : Obst_Call_2) (p4 : Cli) (p5 : ByteArray) {bp0 bp0_1 bp0_2 bp0_3 : Nat} {z0 : List Blk} {bp1 : Nat} {z1 : List Blk} {bp2 : Nat} {z2 : List Blk} {b2c : Nat} {b3 : Nat} {b4 : Nat} {v4 : Value} {b5 : Nat} (y0 : Zindex_Index h bp0 bp0_1 bp0_2 bp0_3 z0 p0 p0o0 p0o1) (y1 : Zindex_Work h bp0 bp1 z1 p1) (y2 : Zbst_Call_2 h bp0_1 bp2 z2 p2) (g2 : BK h b2c [pt bp2] 85) (g3 : BK h b3 [pt bp1] 32) (g4 : BK h b4 [v4] 83) (c4 : COi h bp0 bp0_1 bp0_2 bp0_3 bp1 none [] p4 v4) (g5 : BK h b5 [.string p5] 9) {r : _} (hF : F_index_Work_ensure_1 n rc p0 p0o0 p0o1 p1 p2 p4 p5 = some r) :
 EvO EE 86 [pt b2c, pt b3, pt b4, pt b5] [z0, z1, z2] h (fun v S h1 => ∃ zy0 zy1 vr tr, v = vr ∧ S = [zy0, zy1, tr] ∧ Zindex_Index h1 bp0 bp0_1 bp0_2 bp0_3 zy0 r.2.1 r.2.2.1 r.2.2.2.1 ∧ Zindex_Work h1 bp0 bp1 zy1 r.2.2.2.2 ∧ OCi h1 bp0 bp0_1 bp0_2 bp0_3 bp1 tr r.1 vr) := by
 unfold F_index_Work_ensure_1 at hF
 refine evo_of rfl at_86 rfl rfl ?_
 refine go_seq (go_region (gAc rfl rfl (go_nil (go_seq (go_seq (go_region (glc ag_85 g2 rfl rfl rfl ?_)))))))
 obtain ⟨z8z_0, z8z_1, rfl, f8z0, f8z1⟩ := y0
 refine gs_unz ?_
 simp only [ca_, na_]
 refine gs_front (.s (.z)) ?_
 obtain ⟨q9z_1, t9z_1, q9z_2, t9z_2, z9z_0, rfl, f9z0, f9z1, f9z2⟩ := f8z0
 refine gs_unz ?_
 simp only [ca_, na_]
 refine gs_pack (fun s => Zbst_Tree h bp0_1 bp0_2 s p0 p0o0) (.cons .z (.cons .z (.cons .z (.cons .z .nil)))) ⟨_, _, _, _, _, rfl, f9z0, f9z1, f9z2⟩ fun z10p y10p => ?_
 obtain ⟨x7, hx7, hF⟩ := obind hF
 refine kcX EE_fr hw (.cons .z (.cons (.s (.s (.s (.z)))) .nil)) rfl of (ops_t rfl os0) hb_44 (s_bst_Call_Answer hw p0 p0o0 p2 y10p y2 hx7) ?_
 rintro _ _ h7 e7 w7 ⟨z7_y0, z7_y1, rfl, rfl, f7_0, f7_1⟩
 simp only [ca_, na_]
 refine gM rfl rfl (gE rfl rfl rfl (gE rfl rfl rfl (gs_alloc rfl zo_95 rfl (fun b5_11 => gs_store (ot rfl) (ot rfl) sz_95 rfl rfl rfl rfl rfl .z (gA rfl rfl (go_nil (go_seq (go_region (gF (fa_95_0 _ _) rfl rfl (gls 0 ag_4 rfl rfl rfl rfl (go_nil ?_)))))))))))
 refine g_cond (b := x7.1.Ok) (ot rfl) (fun hc12 => ?_) (fun hc12 => ?_)
 ·
  replace hF := ifT hc12 hF
  refine go_seq (go_region (glc ag_32 (g3.ext e7.kn) rfl rfl rfl (gF (fa_95_2 _ _) rfl rfl (gls 0 ag_93 rfl rfl rfl rfl (gr rfl (r_conv (ot rfl) rfl) (gN rfl rfl (gF (fa_88_2 _ _) rfl rfl (gs_front (.s (.s (.s (.s (.s (.z)))))) ?_))))))))
  obtain ⟨v13z_1, q13z_4, t13z_4, rfl, f13z0⟩ := (y1.ext e7.kn)
  refine gs_unz ?_
  simp only [ca_, na_]
  refine gs_store (ot rfl) (ot rfl) sz_3 rfl rfl rfl rfl rfl .z (go_nil (go_seq (go_region (glc ag_83 (g4.ext e7.kn) rfl rfl rfl (gs_pack (fun s => Zindex_Index h7 bp0 bp0_1 bp0_2 bp0_3 s x7.2.2.1 x7.2.2.2.1 p0o1) (.cons (.s (.s (.s (.s (.s (.z)))))) (.cons (.s (.s (.s (.z)))) (.cons (.s (.s (.s (.s (.z))))) .nil))) ⟨_, _, rfl, f7_0, (f8z1.ext e7.kn)⟩ fun z15p y15p => (gs_pack (fun s => Zindex_Work h7 bp0 bp1 s (⟨(IntKind.i64.wrap x7.1.Val), p1.bad, p1.found⟩ : Oindex_Work)) (.cons (.s (.z)) (.cons (.s (.z)) .nil)) ⟨_, _, _, rfl, f13z0⟩ fun z16p y16p => ?_))))))
  obtain ⟨x14, hx14, hF⟩ := obind hF
  refine gs_calld EE_fr w7 (.cons (.s (.z)) (.cons .z (.emp .nil))) (fun _ h => by cases h; rfl) (ot rfl) os0 (by exact hrc w7 x7.2.2.1 x7.2.2.2.1 p0o1 (⟨(IntKind.i64.wrap x7.1.Val), p1.bad, p1.found⟩ : Oindex_Work) y15p y16p p4 Argi.u [] (c4.ext e7.kn) hx14) ?_
  rintro _ _ h14 e14 w14 ⟨z14_y0, z14_y1, v14_r, t14_r, rfl, rfl, f14_0, f14_1, f14_2⟩
  simp only [ca_, na_]
  refine gA rfl rfl (go_nil ?_)
  obtain rfl := someI hF
  exact g_retO (rst rfl rs0) (.cons .z (.cons .z (.cons .z .nil))) (e7.trans e14) w14 (nd1 f14_0.nd (nd1 f14_1.nd (ndci f14_2 nd0))) ⟨_, _, _, _, rfl, rfl, f14_0, f14_1, f14_2⟩
 ·
  replace hF := ifF hc12 hF
  refine go_skip (go_seq (go_region (glc ag_32 (g3.ext e7.kn) rfl rfl rfl (gN rfl rfl (gF (fa_88_0 _ _) rfl rfl (gs_front (.s (.s (.s (.s (.s (.z)))))) ?_))))))
  obtain ⟨v17z_1, q17z_4, t17z_4, rfl, f17z0⟩ := (y1.ext e7.kn)
  refine gs_unz ?_
  simp only [ca_, na_]
  refine gls 0 ag_27 rfl rfl rfl rfl (gN rfl rfl (gF (fa_91_1 _ _) rfl rfl (gls 5 ag_89 rfl rfl rfl rfl (gs_front (.s (.s (.s (.z)))) ?_))))
  obtain ⟨q19z_1, t19z_1, q19z_2, t19z_2, z19z_0, rfl, f19z0, f19z1, f19z2⟩ := f7_0
  refine gs_unz ?_
  simp only [ca_, na_]
  refine gs_front (.s (.s (.s (.z)))) ?_
  obtain ⟨q20z_0, t20z_0, rfl, f20z0⟩ := f19z2
  refine gs_unz ?_
  simp only [ca_, na_]
  refine gs_pack (fun s => Zmem_Mem h7 bp0_2 s x7.2.2.2.1) (.cons .z (.cons .z .nil)) ⟨_, _, rfl, f20z0⟩ fun z21p y21p => ?_
  obtain ⟨x18, hx18, hF⟩ := obind hF
  refine kcX EE_fr w7 (.cons .z (.cons (.s (.s (.s (.s (.s (.s (.s (.s (.z))))))))) .nil)) rfl of (ops_t rfl os0) hb_87 (s_chain_Store_Cell w7 x7.2.2.2.1 p0o1 y21p (f8z1.ext e7.kn) hx18) ?_
  rintro _ _ h18 e18 w18 ⟨z18_y0, z18_y1, rfl, rfl, f18_0, f18_1⟩
  simp only [ca_, na_]
  refine gM rfl rfl (gE rfl rfl rfl (gE rfl rfl rfl (gA rfl rfl (gA rfl rfl (go_nil (go_seq (go_seq (go_region (gM rfl rfl (gr rfl (r_bin (ot rfl) (oc rfl) rfl) (go_nil ?_)))))))))))
  refine g_cond (b := (x18.2.1 != 0)) (ot rfl) (fun hc22 => ?_) (fun hc22 => ?_)
  ·
   replace hF := ifT hc22 hF
   refine go_seq (go_region (glc ag_32 ((g3.ext e7.kn).ext e18.kn) rfl rfl rfl (gM rfl rfl (gN rfl rfl (gF (fa_88_3 _ _) rfl rfl (gs_store (ot rfl) (ot rfl) sz_45 rfl rfl rfl rfl rfl (.s (.s (.s (.s (.s (.z)))))) (go_nil (go_seq (go_region (gAc rfl rfl (go_nil (gs_pack (fun s => Zbst_Tree h18 bp0_1 bp0_2 s x7.2.2.1 x18.2.2.1) (.cons (.s (.s (.z))) (.cons (.s (.s (.z))) (.cons (.s (.s (.z))) (.cons .z .nil)))) ⟨_, _, _, _, _, rfl, (f19z0.ext e18.kn), (f19z1.ext e18.kn), f18_0⟩ fun z23p y23p => (gs_pack (fun s => Zindex_Index h18 bp0 bp0_1 bp0_2 bp0_3 s x7.2.2.1 x18.2.2.1 x18.2.2.2) (.cons (.s (.s (.s (.s (.s (.s (.z))))))) (.cons .z (.cons .z .nil))) ⟨_, _, rfl, y23p, f18_1⟩ fun z24p y24p => (gs_pack (fun s => Zindex_Work h18 bp0 bp1 s (⟨p1.cell, x18.2.1, p1.found⟩ : Oindex_Work)) (.cons (.s (.z)) (.cons (.s (.z)) .nil)) ⟨_, _, _, rfl, (f17z0.ext e18.kn)⟩ fun z25p y25p => ?_))))))))))))))
   obtain rfl := someI hF
   exact g_retO (rst rfl rs0) (.cons (.s (.z)) (.cons .z (.emp .nil))) (e7.trans e18) w18 (nd1 y24p.nd (nd1 y25p.nd (nde nd0))) ⟨_, _, _, _, rfl, rfl, y24p, y25p, OCi.none⟩
  ·
   replace hF := ifF hc22 hF
   refine go_skip (go_seq (go_regA1 (L := sq 0 13) (by kernel_rfl) (by kernel_rfl) (fun _ => rfl) (fun b9_26 => go_sop rfl rfl (glc ag_32 ((g3.ext e7.kn).ext e18.kn) rfl rfl rfl (go_nil (go_sop rfl rfl (gN rfl rfl (go_nil (go_sop rfl rfl (gF (fa_88_0 _ _) rfl rfl (go_nil (go_sop rfl rfl (gls 6 ag_27 rfl rfl rfl rfl (go_nil (go_sop rfl rfl (gN rfl rfl (go_nil (go_sop rfl rfl (gF (fa_91_0 _ _) rfl rfl (go_nil (go_sop rfl rfl (gls 10 ag_61 rfl rfl rfl rfl (go_nil ?_)))))))))))))))))))))))
   refine go_sop rfl rfl (glc ag_9 ((g5.ext e7.kn).ext e18.kn) rfl rfl rfl (go_nil (go_sop rfl rfl (gM rfl rfl (go_nil (go_sop rfl rfl (gr rfl (r_conv (ot rfl) rfl) (go_nil (go_sop rfl rfl (gs_pack (fun s => Zbst_Tree h18 bp0_1 bp0_2 s x7.2.2.1 x18.2.2.1) (.cons (.s (.s (.s (.z)))) (.cons (.s (.s (.s (.z)))) (.cons (.s (.s (.s (.z)))) (.cons (.s (.z)) .nil)))) ⟨_, _, _, _, _, rfl, (f19z0.ext e18.kn), (f19z1.ext e18.kn), f18_0⟩ fun z28p y28p => ?_))))))))))
   obtain ⟨x27, hx27, hF⟩ := obind hF
   refine kcX EE_fr w18 (.cons .z .nil) rfl of (ops_t rfl (ops_t rfl (ops_t rfl os0))) hb_59 (s_bst_Tree_Insert n w18 x7.2.2.1 x18.2.2.1 p5 (IntKind.u64.wrap x18.1) y28p hx27) ?_
   rintro _ _ h27 e27 w27 ⟨z27_y0, b27_w0, z27_w0, rfl, rfl, f27_0, f27_1⟩
   simp only [ca_, na_]
   refine go_nil (go_salloc rfl rfl rfl zo_85 rfl (.s (.s (.z))) (go_sop rfl rfl (gs_store (ot rfl) (ot rfl) sz_85 rfl rfl rfl rfl rfl (.s (.s (.z))) (go_nil (go_snil (go_seq (go_region (gls 2 ag_85 rfl rfl rfl rfl (gr rfl (r_iface (ot rfl) (by kernel_rfl)) (gr rfl (r_func os0 (os1 (ot rfl) (os1 (ot rfl) (os1 (ot rfl) os0)))) (gs_pub (.s (.s (.z))) (fun h30 e30 w30 hb30 => ?_))))))))))))
   have g30_ : BK h30 b9_26 [pt b27_w0] 85 := hb30
   have co31 : COi h30 bp0 bp0_1 bp0_2 bp0_3 bp1 (some b27_w0) [] (Cli.c_Work_ensure_1_1 p4) (.func (.func 88) #[] #[pt b9_26, pt b3, pt b4]) := COi.c_Work_ensure_1_1 g30_ ((((g3.ext e7.kn).ext e18.kn).ext e27.kn).ext e30.kn) ((((g4.ext e7.kn).ext e18.kn).ext e27.kn).ext e30.kn) ((((c4.ext e7.kn).ext e18.kn).ext e27.kn).ext e30.kn)
   refine gs_pack (fun s => Zindex_Index h30 bp0 bp0_1 bp0_2 bp0_3 s x27.2.1 x27.2.2 x18.2.2.2) (.cons (.s (.s (.s (.s (.s (.s (.s (.z)))))))) (.cons .z (.cons (.s (.z)) .nil))) ⟨_, _, rfl, (f27_0.ext e30.kn), ((f18_1.ext e27.kn).ext e30.kn)⟩ fun z32p y32p => (gs_pack (fun s => Zindex_Work h30 bp0 bp1 s p1) (.cons (.s (.s (.z))) (.cons (.s (.s (.z))) .nil)) ⟨_, _, _, rfl, (((f17z0.ext e18.kn).ext e27.kn).ext e30.kn)⟩ fun z33p y33p => ?_)
   obtain ⟨x29, hx29, hF⟩ := obind hF
   refine kcX EE_fr w30 (.cons (.s (.z)) (.cons .z (.cons .z .nil))) rfl of (ops_t rfl (ops_t rfl os0)) hb_42 (s_index_after_ hrc w30 x27.2.1 x27.2.2 x18.2.2.2 p1 x27.1 (Cli.c_Work_ensure_1_1 p4) y32p y33p (f27_1.ext e30.kn) co31 hx29) ?_
   rintro _ _ h29 e29 w29 ⟨z29_y0, z29_y1, v29_r, t29_r, rfl, rfl, f29_0, f29_1, f29_2⟩
   simp only [ca_, na_]
   refine gA rfl rfl (go_nil ?_)
   obtain rfl := someI hF
   exact g_retO (rst rfl rs0) (.cons .z (.cons .z (.cons .z .nil))) (e7.trans (e18.trans (e27.trans (e30.trans e29)))) w29 (nd1 f29_0.nd (nd1 f29_1.nd (ndci f29_2 nd0))) ⟨_, _, _, _, rfl, rfl, f29_0, f29_1, f29_2⟩
theorem s_index_Work_ensure_1_1 {rc : RCi} (hrc : RCiok rc) {h : Heap} (hw : Wf h) (p0 : Obst_Tree) (p0o0 : Omem_Mem) (p0o1 : Ochain_Store) (p1 : Oindex_Work) (p2 : Obst_Call_2) (p4 : Cli) {bp0 bp0_1 bp0_2 bp0_3 : Nat} {z0 : List Blk} {bp1 : Nat} {z1 : List Blk} {bp2 : Nat} {z2 : List Blk} {b2c : Nat} {b3 : Nat} {b4 : Nat} {v4 : Value} (y0 : Zindex_Index h bp0 bp0_1 bp0_2 bp0_3 z0 p0 p0o0 p0o1) (y1 : Zindex_Work h bp0 bp1 z1 p1) (y2 : Zbst_Call_2 h bp0_1 bp2 z2 p2) (g2 : BK h b2c [pt bp2] 85) (g3 : BK h b3 [pt bp1] 32) (g4 : BK h b4 [v4] 83) (c4 : COi h bp0 bp0_1 bp0_2 bp0_3 bp1 none [] p4 v4) {r : _} (hF : F_index_Work_ensure_1_1 rc p0 p0o0 p0o1 p1 p2 p4 = some r) :
 EvO EE 88 [pt b2c, pt b3, pt b4] [z0, z1, z2] h (fun v S h1 => ∃ zy0 zy1 vr tr, v = vr ∧ S = [zy0, zy1, tr] ∧ Zindex_Index h1 bp0 bp0_1 bp0_2 bp0_3 zy0 r.2.1 r.2.2.1 r.2.2.2.1 ∧ Zindex_Work h1 bp0 bp1 zy1 r.2.2.2.2 ∧ OCi h1 bp0 bp0_1 bp0_2 bp0_3 bp1 tr r.1 vr) := by
 unfold F_index_Work_ensure_1_1 at hF
 refine evo_of rfl at_88 rfl rfl ?_
 refine go_seq (go_region (gAc rfl rfl (go_nil (go_seq (go_region (glc ag_85 g2 rfl rfl rfl ?_))))))
 obtain ⟨z7z_0, z7z_1, rfl, f7z0, f7z1⟩ := y0
 refine gs_unz ?_
 simp only [ca_, na_]
 refine gs_front (.s (.z)) ?_
 obtain ⟨q8z_1, t8z_1, q8z_2, t8z_2, z8z_0, rfl, f8z0, f8z1, f8z2⟩ := f7z0
 refine gs_unz ?_
 simp only [ca_, na_]
 refine gs_pack (fun s => Zbst_Tree h bp0_1 bp0_2 s p0 p0o0) (.cons .z (.cons .z (.cons .z (.cons .z .nil)))) ⟨_, _, _, _, _, rfl, f8z0, f8z1, f8z2⟩ fun z9p y9p => ?_
 obtain ⟨x6, hx6, hF⟩ := obind hF
 refine kcX EE_fr hw (.cons .z (.cons (.s (.s (.s (.z)))) .nil)) rfl of (ops_t rfl os0) hb_44 (s_bst_Call_Answer hw p0 p0o0 p2 y9p y2 hx6) ?_
 rintro _ _ h6 e6 w6 ⟨z6_y0, z6_y1, rfl, rfl, f6_0, f6_1⟩
 simp only [ca_, na_]
 refine gM rfl rfl (gE rfl rfl rfl (gE rfl rfl rfl (gs_alloc rfl zo_95 rfl (fun b4_10 => gs_store (ot rfl) (ot rfl) sz_95 rfl rfl rfl rfl rfl .z (gA rfl rfl (go_nil (go_seq (go_seq (go_region (gF (fa_95_3 _ _) rfl rfl (gls 0 ag_45 rfl rfl rfl rfl (gr rfl (r_bin (ot rfl) (oc rfl) rfl) (go_nil ?_)))))))))))))
 refine g_cond (b := (x6.1.Err != 0)) (ot rfl) (fun hc11 => ?_) (fun hc11 => ?_)
 ·
  replace hF := ifT hc11 hF
  refine go_seq (go_region (glc ag_32 (g3.ext e6.kn) rfl rfl rfl (gF (fa_95_3 _ _) rfl rfl (gls 0 ag_45 rfl rfl rfl rfl (gN rfl rfl (gF (fa_88_3 _ _) rfl rfl (gs_front (.s (.s (.s (.s (.s (.z)))))) ?_)))))))
  obtain ⟨v12z_1, q12z_4, t12z_4, rfl, f12z0⟩ := (y1.ext e6.kn)
  refine gs_unz ?_
  simp only [ca_, na_]
  refine gs_store (ot rfl) (ot rfl) sz_45 rfl rfl rfl rfl rfl .z (go_nil (go_seq (go_region (gAc rfl rfl (go_nil (gs_pack (fun s => Zindex_Index h6 bp0 bp0_1 bp0_2 bp0_3 s x6.2.2.1 x6.2.2.2.1 p0o1) (.cons (.s (.s (.s (.s (.s (.z)))))) (.cons (.s (.s (.s (.z)))) (.cons (.s (.s (.s (.s (.z))))) .nil))) ⟨_, _, rfl, f6_0, (f7z1.ext e6.kn)⟩ fun z13p y13p => (gs_pack (fun s => Zindex_Work h6 bp0 bp1 s (⟨p1.cell, x6.1.Err, p1.found⟩ : Oindex_Work)) (.cons (.s (.z)) (.cons (.s (.z)) .nil)) ⟨_, _, _, rfl, f12z0⟩ fun z14p y14p => ?_)))))))
  obtain rfl := someI hF
  exact g_retO (rst rfl rs0) (.cons (.s (.z)) (.cons .z (.emp .nil))) e6 w6 (nd1 y13p.nd (nd1 y14p.nd (nde nd0))) ⟨_, _, _, _, rfl, rfl, y13p, y14p, OCi.none⟩
 ·
  replace hF := ifF hc11 hF
  refine go_skip (go_seq (go_region (glc ag_32 (g3.ext e6.kn) rfl rfl rfl (gF (fa_95_2 _ _) rfl rfl (gls 0 ag_93 rfl rfl rfl rfl (gr rfl (r_conv (ot rfl) rfl) (gN rfl rfl (gF (fa_88_2 _ _) rfl rfl (gs_front (.s (.s (.s (.s (.s (.z)))))) ?_)))))))))
  obtain ⟨v15z_1, q15z_4, t15z_4, rfl, f15z0⟩ := (y1.ext e6.kn)
  refine gs_unz ?_
  simp only [ca_, na_]
  refine gs_store (ot rfl) (ot rfl) sz_3 rfl rfl rfl rfl rfl .z (go_nil (go_seq (go_region (glc ag_83 (g4.ext e6.kn) rfl rfl rfl (gs_pack (fun s => Zindex_Index h6 bp0 bp0_1 bp0_2 bp0_3 s x6.2.2.1 x6.2.2.2.1 p0o1) (.cons (.s (.s (.s (.s (.s (.z)))))) (.cons (.s (.s (.s (.z)))) (.cons (.s (.s (.s (.s (.z))))) .nil))) ⟨_, _, rfl, f6_0, (f7z1.ext e6.kn)⟩ fun z17p y17p => (gs_pack (fun s => Zindex_Work h6 bp0 bp1 s (⟨(IntKind.i64.wrap x6.1.Val), p1.bad, p1.found⟩ : Oindex_Work)) (.cons (.s (.z)) (.cons (.s (.z)) .nil)) ⟨_, _, _, rfl, f15z0⟩ fun z18p y18p => ?_))))))
  obtain ⟨x16, hx16, hF⟩ := obind hF
  refine gs_calld EE_fr w6 (.cons (.s (.z)) (.cons .z (.emp .nil))) (fun _ h => by cases h; rfl) (ot rfl) os0 (by exact hrc w6 x6.2.2.1 x6.2.2.2.1 p0o1 (⟨(IntKind.i64.wrap x6.1.Val), p1.bad, p1.found⟩ : Oindex_Work) y17p y18p p4 Argi.u [] (c4.ext e6.kn) hx16) ?_
  rintro _ _ h16 e16 w16 ⟨z16_y0, z16_y1, v16_r, t16_r, rfl, rfl, f16_0, f16_1, f16_2⟩
  simp only [ca_, na_]
  refine gA rfl rfl (go_nil ?_)
  obtain rfl := someI hF
  exact g_retO (rst rfl rs0) (.cons .z (.cons .z (.cons .z .nil))) (e6.trans e16) w16 (nd1 f16_0.nd (nd1 f16_1.nd (ndci f16_2 nd0))) ⟨_, _, _, _, rfl, rfl, f16_0, f16_1, f16_2⟩
end Go.Proofs.YtndhbaidibioeaaGreat.V
