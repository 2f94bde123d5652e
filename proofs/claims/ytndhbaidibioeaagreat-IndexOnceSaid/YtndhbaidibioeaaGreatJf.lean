/- Walks.
   No condition: these are laws of the clean machine and of this program. -/
import Derived.Test.YtndhbaidibioeaaGreatJc
namespace Go.Proofs.YtndhbaidibioeaaGreat.V
open Go
set_option linter.unusedVariables false
set_option linter.unusedSimpArgs false
set_option maxRecDepth 100000
set_option maxHeartbeats 4000000
theorem s_law19_IndexOnce (n : Nat) {h : Heap} (hw : Wf h) (p0 : (List TEvent)) (p1 : ByteArray) (p2 : (List Int)) {a0_0 : Option Addr} {c0_0 : Nat} {a2_0 : Option Addr} {c2_0 : Nat} (f0_0 : RL R_TEvent h a0_0 c0_0 p0) (f2_0 : RL (RI_ .u8 5) h a2_0 c2_0 p2) {r : Bool} (hF : F_law19_IndexOnce n p0 p1 p2 = some r) :
 Ev EE 4 [.slice a0_0 p0.length c0_0, .string p1, .slice a2_0 p2.length c2_0] h (fun v _ => v = .bool r) := by
 unfold F_law19_IndexOnce at hF
 refine ev_of hw rfl at_4 rfl rfl (go_seg0 ?_)
 refine go_seq (go_region (gAc rfl rfl (go_nil (go_seq (go_region (g_callp EE_fr rfl of os0 hb_9 (fun _ => rfl) (fun hf kn w => by exact known_evp rfl hf w) (gA rfl rfl (go_nil (go_seq (go_seq (go_region (gM rfl rfl ?_))))))))))))
 obtain ⟨x5, hx5, hF⟩ := obind hF
 refine g_callp (v := .bool x5) EE_fr rfl of (os1 (ot rfl) os0) hb_10 (fun _ => rfl) (fun hf kn w => by exact s_law19_few n w p0 (f0_0.ext kn) hx5) (gr rfl (r_un (ot rfl) rfl) (go_nil ?_))
 refine g_cond (b := (!x5)) (ot rfl) (fun hc6 => ?_) (fun hc6 => ?_)
 ·
  replace hF := ifT hc6 hF
  refine go_seq (go_region (gM rfl rfl (gA rfl rfl (go_nil ?_))))
  obtain rfl := someI hF
  exact g_ret (rst rfl rs0) (fun h1 hf hs => ⟨hs.hext, rfl⟩)
 ·
  replace hF := ifF hc6 hF
  refine go_skip (go_seq (go_region (gM rfl rfl ?_)))
  obtain ⟨x7, hx7, hF⟩ := obind hF
  refine kcX EE_fr hw .nil rfl of (ops_t rfl os0) hb_11 (s_law19_made n hw p0 f0_0 hx7) ?_
  rintro _ _ h7 e7 w7 ⟨b7_w0, b7_w0_1, b7_w0_2, b7_w0_3, z7_w0, rfl, rfl, f7_0⟩
  simp only [ca_, na_]
  refine gA rfl rfl (go_nil (go_seq (go_seq (go_region (gM rfl rfl (gr rfl (r_bin (v := .bool false) (ot rfl) (oc rfl) (by first | rfl | kernel_rfl)) (go_nil ?_)))))))
  refine g_cond (b := false) (ot rfl) (fun hc8 => ?_) (fun hc8 => ?_)
  ·
   cases hc8
  refine go_skip (go_seq (go_region (gM rfl rfl (gM rfl rfl ?_))))
  obtain ⟨x9, hx9, hF⟩ := obind hF
  refine kcX EE_fr w7 (.cons .z .nil) rfl of (ops_t rfl (ops_t rfl os0)) hb_20 (s_index_Index_Ensure n w7 x7.1 x7.2.1 x7.2.2 p1 f7_0 hx9) ?_
  rintro _ _ h9 e9 w9 ⟨z9_y0, b9_w0, z9_w0, rfl, rfl, f9_0, f9_1⟩
  simp only [ca_, na_]
  refine gM rfl rfl (gM rfl rfl ?_)
  obtain ⟨x10, hx10, hF⟩ := obind hF
  refine kcX EE_fr w9 (.cons .z .nil) rfl of (ops_t rfl (ops_t rfl os0)) hb_20 (s_index_Index_Ensure n w9 x9.2.1 x9.2.2.1 x9.2.2.2 p1 f9_0 hx10) ?_
  rintro _ _ h10 e10 w10 ⟨z10_y0, b10_w0, z10_w0, rfl, rfl, f10_0, f10_1⟩
  simp only [ca_, na_]
  refine gM rfl rfl (gM rfl rfl ?_)
  obtain ⟨x11, hx11, hF⟩ := obind hF
  refine kcX EE_fr w10 (.cons .z .nil) rfl of (ops_t rfl (ops_t rfl os0)) hb_20 (s_index_Index_Ensure n w10 x10.2.1 x10.2.2.1 x10.2.2.2 p1 f10_0 hx11) ?_
  rintro _ _ h11 e11 w11 ⟨z11_y0, b11_w0, z11_w0, rfl, rfl, f11_0, f11_1⟩
  simp only [ca_, na_]
  refine gs_bslice (cs := [pt b9_w0, pt b10_w0, pt b11_w0]) rfl (op1 (ot rfl) (op1 (ot rfl) (op1 (ot rfl) op0))) ut_44 sz_32 zo_32 rfl rfl (fun b38_12 => gA rfl rfl (go_nil (go_seq (go_seq (go_region (gAc rfl rfl (go_nil ?_)))))))
  obtain ⟨s13, hF, hK13⟩ := obind hF
  refine go_joinc (β := List Blk × List Blk × List Blk × List Blk) (fun s h' => Zindex_Index h' b7_w0 b7_w0_1 b7_w0_2 b7_w0_3 s.1 s13.1.1 s13.1.2.1 s13.1.2.2 ∧ Zindex_Work_2 h' b7_w0 b7_w0_2 b7_w0_1 b7_w0_3 b11_w0 s.2.1 s13.2.1 ∧ Zindex_Work_2 h' b7_w0 b7_w0_2 b7_w0_1 b7_w0_3 b10_w0 s.2.2.1 s13.2.2.1 ∧ Zindex_Work_2 h' b7_w0 b7_w0_2 b7_w0_1 b7_w0_3 b9_w0 s.2.2.2 s13.2.2.2) (fun s => [(0, true, .slice a0_0 p0.length c0_0), (1, true, .string p1), (6, true, .bool false), (7, true, .bool true), (8, true, pt b7_w0), (9, true, .slice (some ⟨b38_12, 0, none⟩) 3 3)]) (fun s => (List.flatten [[⟨b38_12, .cells [pt b9_w0, pt b10_w0, pt b11_w0] 32⟩], s.1, s.2.1, s.2.2.1, s.2.2.2] : List Blk)) ?_ (fun J13 => ?_)
  ·
   rintro ⟨a13_0, a13_1, a13_2, a13_3⟩ h13 e13 w13 ⟨f13_0, f13_1, f13_2, f13_3⟩
   try dsimp only at f13_0 f13_1 f13_2 f13_3
   replace hF := hK13
   refine go_seq (go_region (gM rfl rfl (gr rfl (r_ia (ot rfl) (oc rfl) (ia_of ut_44 sz_32 (by decide) rfl)) (go_cast (pt b38_12) rfl (gls 0 ag_32 rfl rfl rfl rfl ?_)))))
   obtain ⟨x14, hx14, hF⟩ := obind hF
   refine kcX EE_fr w13 (.cons (.s (.z)) (.cons (.s (.s (.s (.z)))) .nil)) rfl of (ops_t rfl os0) hb_14 (s_index_Run n w13 s13.1.1 s13.1.2.1 s13.1.2.2 s13.2.2.2 f13_0 f13_3 hx14) ?_
   rintro _ _ h14 e14 w14 ⟨z14_y0, z14_y1, rfl, rfl, f14_0, f14_1⟩
   simp only [ca_, na_]
   obtain ⟨x15, hx15, hF⟩ := obind hF
   refine kcX EE_fr w14 (.cons (.s (.z)) .nil) rfl of (ops_t rfl os0) hb_22 (s_index_Work_Cell (bW91 := b7_w0) (bW107 := b7_w0_2) (bW131 := b7_w0_1) (bW161 := b7_w0_3) w14 x14.2.2.2 f14_1 hx15) ?_
   rintro _ _ h15 e15 w15 ⟨z15_y0, rfl, rfl, f15_0⟩
   simp only [ca_, na_]
   refine gM rfl rfl (gE rfl rfl rfl (gE rfl rfl rfl (gA rfl rfl (gA rfl rfl (go_nil (go_seq (go_region (gM rfl rfl (gr rfl (r_ia (ot rfl) (oc rfl) (ia_of ut_44 sz_32 (by decide) rfl)) (go_cast (.pointer (some ⟨b38_12, 1, none⟩)) rfl (gls 2 ag_32 rfl rfl rfl rfl ?_)))))))))))
   obtain ⟨x16, hx16, hF⟩ := obind hF
   refine kcX EE_fr w15 (.cons (.s (.z)) (.cons (.s (.s (.s (.z)))) .nil)) rfl of (ops_t rfl os0) hb_14 (s_index_Run n w15 x14.1 x14.2.1 x14.2.2.1 s13.2.2.1 (f14_0.ext e15.kn) ((f13_2.ext e14.kn).ext e15.kn) hx16) ?_
   rintro _ _ h16 e16 w16 ⟨z16_y0, z16_y1, rfl, rfl, f16_0, f16_1⟩
   simp only [ca_, na_]
   obtain ⟨x17, hx17, hF⟩ := obind hF
   refine kcX EE_fr w16 (.cons (.s (.z)) .nil) rfl of (ops_t rfl os0) hb_22 (s_index_Work_Cell (bW91 := b7_w0) (bW107 := b7_w0_2) (bW131 := b7_w0_1) (bW161 := b7_w0_3) w16 x16.2.2.2 f16_1 hx17) ?_
   rintro _ _ h17 e17 w17 ⟨z17_y0, rfl, rfl, f17_0⟩
   simp only [ca_, na_]
   refine gM rfl rfl (gE rfl rfl rfl (gE rfl rfl rfl (gA rfl rfl (gA rfl rfl (go_nil (go_seq (go_region (gM rfl rfl (gr rfl (r_ia (ot rfl) (oc rfl) (ia_of ut_44 sz_32 (by decide) rfl)) (go_cast (.pointer (some ⟨b38_12, 2, none⟩)) rfl (gls 3 ag_32 rfl rfl rfl rfl ?_)))))))))))
   obtain ⟨x18, hx18, hF⟩ := obind hF
   refine kcX EE_fr w17 (.cons (.s (.z)) (.cons (.s (.s (.s (.z)))) .nil)) rfl of (ops_t rfl os0) hb_14 (s_index_Run n w17 x16.1 x16.2.1 x16.2.2.1 s13.2.1 (f16_0.ext e17.kn) ((((f13_1.ext e14.kn).ext e15.kn).ext e16.kn).ext e17.kn) hx18) ?_
   rintro _ _ h18 e18 w18 ⟨z18_y0, z18_y1, rfl, rfl, f18_0, f18_1⟩
   simp only [ca_, na_]
   obtain ⟨x19, hx19, hF⟩ := obind hF
   refine kcX EE_fr w18 (.cons (.s (.z)) .nil) rfl of (ops_t rfl os0) hb_22 (s_index_Work_Cell (bW91 := b7_w0) (bW107 := b7_w0_2) (bW131 := b7_w0_1) (bW161 := b7_w0_3) w18 x18.2.2.2 f18_1 hx19) ?_
   rintro _ _ h19 e19 w19 ⟨z19_y0, rfl, rfl, f19_0⟩
   simp only [ca_, na_]
   refine gM rfl rfl (gE rfl rfl rfl (gE rfl rfl rfl (gA rfl rfl (gA rfl rfl (go_nil (go_seq (go_seq (go_region (gAc rfl rfl (go_nil ?_))))))))))
   obtain ⟨s20, hF, hK20⟩ := obind hF
   refine go_joinc (β := ((Obst_Tree × Omem_Mem × Ochain_Store)) × List Blk) (fun s h' => s20 = .go s.1 ∧ Zindex_Index h' b7_w0 b7_w0_1 b7_w0_2 b7_w0_3 s.2 s.1.1 s.1.2.1 s.1.2.2) (fun s => [(6, true, .bool false), (7, true, .bool true), (11, true, .int .i64 x15.1), (12, true, .int .i64 x15.2.1), (13, true, .int .i64 x17.1), (14, true, .int .i64 x17.2.1), (15, true, .int .i64 x19.1), (16, true, .int .i64 x19.2.1)]) (fun s => (List.flatten [z19_y0, s.2, z17_y0, z15_y0, [⟨b38_12, .cells [pt b9_w0, pt b10_w0, pt b11_w0] 32⟩]] : List Blk)) ?_ (fun J20 => ?_)
   ·
    rintro ⟨x20_0, a20_0⟩ h20 e20 w20 ⟨hs20, f20_0⟩
    subst hs20
    try dsimp only at f20_0
    replace hF := lpgo hK20
    refine go_seq (go_region (gM rfl rfl (gM rfl rfl (g_do rfl rfl rfl (gM rfl rfl (g_do rfl rfl rfl (gr rfl (r_bin (ot rfl) (oc rfl) rfl) (gr rfl (r_pkT (ot rfl) (ot rfl)) (gM rfl rfl (grt rfl rfl rfl rfl (r_move (ot rfl)) (grt rfl rfl rfl rfl (r_bin (og rfl id) (oc rfl) rfl) (gr rfl (r_pickb (ot rfl) (og rfl id) (oc rfl)) (gM rfl rfl (grt rfl rfl rfl rfl (r_move (ot rfl)) (grt rfl rfl rfl rfl (r_bin (og rfl id) (oc rfl) rfl) (gr rfl (r_pickb (ot rfl) (og rfl id) (oc rfl)) (gM rfl rfl (grt rfl rfl rfl rfl (r_move (ot rfl)) (grt rfl rfl rfl rfl (r_move (ot rfl)) (grt rfl rfl rfl rfl (r_bin (og rfl id) (og rfl id) rfl) (gr rfl (r_pickb (ot rfl) (og rfl id) (oc rfl)) (gM rfl rfl (grt rfl rfl rfl rfl (r_move (ot rfl)) ?_)))))))))))))))))))))))
    refine grt rfl rfl rfl rfl (r_move (ot rfl)) (grt rfl rfl rfl rfl (r_bin (og rfl id) (og rfl id) rfl) (gr rfl (r_pickb (ot rfl) (og rfl id) (oc rfl)) (gA rfl rfl (go_nil ?_))))
    obtain rfl := someI hF
    exact g_ret (rst rfl rs0) (fun h1 hf hs => ⟨(e7.trans (e9.trans (e10.trans (e11.trans (e13.trans (e14.trans (e15.trans (e16.trans (e17.trans (e18.trans (e19.trans (e20.trans hs.hext)))))))))))), rfl⟩)
   ·
    refine go_block ?_
    refine go_loop (α := (List TEvent) × Nat × (Obst_Tree × Omem_Mem × Ochain_Store) × List Blk × Heap) (fun a => a.1 = List.drop a.2.1 p0 ∧ HExt h19 a.2.2.2.2 ∧ Wf a.2.2.2.2 ∧ F_law19_IndexOnce_L1 n p1 x15 a.1 a.2.1 a.2.2.1 = some s20 ∧ Zindex_Index a.2.2.2.2 b7_w0 b7_w0_1 b7_w0_2 b7_w0_3 a.2.2.2.1 a.2.2.1.1 a.2.2.1.2.1 a.2.2.1.2.2) (fun a => a.1.length) (fun a => [(0, true, .slice a0_0 p0.length c0_0), (1, true, .string p1), (6, true, .bool false), (7, true, .bool true), (8, true, pt b7_w0), (11, true, .int .i64 x15.1), (12, true, .int .i64 x15.2.1), (13, true, .int .i64 x17.1), (14, true, .int .i64 x17.2.1), (15, true, .int .i64 x19.1), (16, true, .int .i64 x19.2.1), (17, true, .int .i64 (a.2.1 : Int))]) (fun a => (List.flatten [z19_y0, a.2.2.2.1, z17_y0, z15_y0, [⟨b38_12, .cells [pt b9_w0, pt b10_w0, pt b11_w0] 32⟩]] : List Blk)) (fun a => a.2.2.2.2) ?_ (p0, 0, (x18.1, x18.2.1, x18.2.2.1), z18_y0, h19) ⟨rfl, HExt.refl _, w19, hF, (f18_0.ext e19.kn)⟩ (Sub.cons (Sub.cons (Sub.cons (Sub.cons (Sub.cons (Sub.cons (Sub.cons (Sub.cons (Sub.cons (Sub.cons (Sub.cons (Sub.cons (Sub.nil _) rfl) rfl) rfl) rfl) rfl) rfl) rfl) rfl) rfl) rfl) rfl) rfl) rfl rfl
    rintro ⟨r21, i21, y21_0, a21_0, h21⟩ ⟨hr21, e21, w21, hF, f21_0⟩ ih21
    try dsimp only at f21_0
    rcases r21 with _ | ⟨z21, r21⟩
    ·
     have hi21 := drop_nil hr21
     rw [F_law19_IndexOnce_L1.eq_1] at hF
     refine go_seq (go_seq (go_region (gM rfl rfl (gM rfl rfl (gr rfl (r_len rfl (os1 (ot rfl) os0) (fun _ _ => ln_22)) (gr rfl (r_bin (ot rfl) (ot rfl) rfl) (go_cast (.bool false) (congrArg Value.bool (decide_eq_false hi21)) (go_nil ?_))))))))
     refine g_cond (b := false) (ot rfl) (fun hc22 => ?_) (fun hc22 => ?_)
     ·
      cases hc22
     refine go_exit rfl ?_
     obtain rfl := someI hF
     exact Goes.weak (J20 ((y21_0.1, y21_0.2.1, y21_0.2.2), a21_0) _ e21 w21 ⟨rfl, f21_0⟩) (Sub.cons (Sub.cons (Sub.cons (Sub.cons (Sub.cons (Sub.cons (Sub.cons (Sub.cons (Sub.nil _) rfl) rfl) rfl) rfl) rfl) rfl) rfl) rfl)
    ·
     obtain ⟨hi21, hx21, hr21⟩ := drop_cons hr21
     have hb21 := ((((((((((((f0_0.ext e7.kn).ext e9.kn).ext e10.kn).ext e11.kn).ext e13.kn).ext e14.kn).ext e15.kn).ext e16.kn).ext e17.kn).ext e18.kn).ext e19.kn).ext e21.kn).1
     rw [F_law19_IndexOnce_L1.eq_2] at hF
     refine go_seq (go_seq (go_region (gM rfl rfl (gM rfl rfl (gr rfl (r_len rfl (os1 (ot rfl) os0) (fun _ _ => ln_22)) (gr rfl (r_bin (ot rfl) (ot rfl) rfl) (go_cast (.bool true) (congrArg Value.bool (decide_eq_true (Int.ofNat_lt.mpr hi21))) (go_nil ?_))))))))
     refine g_cond (b := true) (ot rfl) (fun hc23 => ?_) (fun hc23 => ?_)
     rotate_left
     ·
      cases hc23
     refine go_skip (go_seq (go_block (go_seq (go_region (gM rfl rfl (gM rfl rfl (gM rfl rfl ?_)))))))
     obtain ⟨q24, row24, i24, cl24, rc24, sp24⟩ := ix (ik := .i64) (cap := c0_0) (E := EE) ((((((((((((f0_0.ext e7.kn).ext e9.kn).ext e10.kn).ext e11.kn).ext e13.kn).ext e14.kn).ext e15.kn).ext e16.kn).ext e17.kn).ext e18.kn).ext e19.kn).ext e21.kn) ((getI_nat _ _).trans hx21) ut_22 sz_36 rfl
     obtain rfl := rc24
     refine gr rfl (r_ia (ot rfl) (ot rfl) i24) (gF (fs_36_1 sp24) rfl rfl (gr rfl (r_load (ot rfl) (v := .string z21.Key) (lo_e (fun hf kn => ld_field (r := [.int .i64 z21.Rev, .string z21.Key, .string z21.Val, .bool z21.Del]) ag_9 (kn.cellsAt cl24) rfl))) ?_))
     obtain ⟨x25, hx25, hF⟩ := obind hF
     refine kcX EE_fr w21 (.cons (.s (.z)) .nil) rfl of (ops_t rfl (ops_t rfl os0)) hb_20 (s_index_Index_Ensure n w21 y21_0.1 y21_0.2.1 y21_0.2.2 z21.Key f21_0 hx25) ?_
     rintro _ _ h25 e25 w25 ⟨z25_y0, b25_w0, z25_w0, rfl, rfl, f25_0, f25_1⟩
     simp only [ca_, na_]
     obtain ⟨x26, hx26, hF⟩ := obind hF
     refine kcX EE_fr w25 (.cons .z (.cons .z .nil)) rfl of (ops_t rfl os0) hb_14 (s_index_Run n w25 x25.2.1 x25.2.2.1 x25.2.2.2 x25.1 f25_0 f25_1 hx26) ?_
     rintro _ _ h26 e26 w26 ⟨z26_y0, z26_y1, rfl, rfl, f26_0, f26_1⟩
     simp only [ca_, na_]
     obtain ⟨x27, hx27, hF⟩ := obind hF
     refine kcX EE_fr w26 (.cons (.s (.z)) .nil) rfl of (ops_t rfl os0) hb_22 (s_index_Work_Cell (bW91 := b7_w0) (bW107 := b7_w0_2) (bW131 := b7_w0_1) (bW161 := b7_w0_3) w26 x26.2.2.2 f26_1 hx27) ?_
     rintro _ _ h27 e27 w27 ⟨z27_y0, rfl, rfl, f27_0⟩
     simp only [ca_, na_]
     refine gM rfl rfl (gE rfl rfl rfl (gE rfl rfl rfl (gA rfl rfl (gA rfl rfl (go_nil (go_seq (go_region (gM rfl rfl (gr rfl (r_bin (ot rfl) (oc rfl) rfl) (gM rfl rfl ?_))))))))))
     obtain ⟨s29, hF, hK29⟩ := obind hF
     refine go_joinr 12 (β := Unit) (fun s h' => True) (fun s => [(0, true, .slice a0_0 p0.length c0_0), (1, true, .string p1), (6, true, .bool false), (7, true, .bool true), (8, true, pt b7_w0), (11, true, .int .i64 x15.1), (12, true, .int .i64 x15.2.1), (13, true, .int .i64 x17.1), (14, true, .int .i64 x17.2.1), (15, true, .int .i64 x19.1), (16, true, .int .i64 x19.2.1), (17, true, .int .i64 (i21 : Int)), (18, true, .int .i64 x27.1), (19, true, .int .i64 x27.2.1), (82, true, .int .i64 (i21 : Int)), (83, true, .slice a0_0 p0.length c0_0), (84, true, .int .i64 (p0.length : Int)), (85, true, .bool true), (88, true, .tuple #[.int .i64 x27.1, .int .i64 x27.2.1]), (89, true, pt b7_w0), (90, true, .slice a0_0 p0.length c0_0), (91, true, .int .i64 (i21 : Int)), (92, true, .pointer (some q24)), (93, true, .pointer (some ⟨q24.block, q24.off + 1, q24.spot⟩)), (94, true, .string z21.Key), (95, true, pt b25_w0), (96, true, pt b25_w0), (97, true, .tuple #[.int .i64 x27.1, .int .i64 x27.2.1]), (98, true, .int .i64 x27.1), (99, true, .int .i64 x27.2.1), (100, true, .int .i64 x27.2.1), (101, true, .bool (x27.2.1 != 0)), (102, true, .bool s29.1), (114, true, .bool s29.2)]) (fun s => (List.flatten [z27_y0, z26_y0, z19_y0, z17_y0, z15_y0, [⟨b38_12, .cells [pt b9_w0, pt b10_w0, pt b11_w0] 32⟩]] : List Blk)) ?_ (fun J29 => ?_)
     ·
      rintro _ h29 e29 w29 _
      replace hF := hK29
      refine go_nil ?_
      refine g_cond (b := s29.2) (ot rfl) (fun hc30 => ?_) (fun hc30 => ?_)
      ·
       replace hF := ifT hc30 hF
       refine go_seq (go_region (gAc rfl rfl (go_nil ?_)))
       obtain rfl := someI hF
       obtain rfl := someI hK20
       exact g_ret (rst rfl rs0) (fun h1 hf hs => ⟨(e7.trans (e9.trans (e10.trans (e11.trans (e13.trans (e14.trans (e15.trans (e16.trans (e17.trans (e18.trans (e19.trans (e21.trans (e25.trans (e26.trans (e27.trans (e29.trans hs.hext)))))))))))))))), rfl⟩)
      ·
       replace hF := ifF hc30 hF
       refine go_skip (go_endb (go_region (gM rfl rfl (gr rfl (r_bin (ot rfl) (oc rfl) rfl) (gA rfl rfl (go_nil (gs_sub (.cons _ (.cons_cons _ (.cons_cons _ (.cons_cons _ (.cons_cons _ (.cons_cons _ (.refl _))))))) (gs_perm (perm_of (d := []) _ [1, 0, 2, 3, 4] rfl) (go_re 17 (v2 := .int .i64 ((i21 + 1 : Nat) : Int)) rfl (wrap_succ hi21 hb21) ?_)))))))))
       exact Goes.weak (ih21 (r21, i21 + 1, (x26.1, x26.2.1, x26.2.2.1), z26_y0, h29) ⟨hr21, (e21.trans (e25.trans (e26.trans (e27.trans e29)))), w29, hF, ((f26_0.ext e27.kn).ext e29.kn)⟩ (Nat.lt_succ_self _)) (Sub.cons (Sub.cons (Sub.cons (Sub.cons (Sub.cons (Sub.cons (Sub.cons (Sub.cons (Sub.cons (Sub.cons (Sub.cons (Sub.cons (Sub.nil _) rfl) rfl) rfl) rfl) rfl) rfl) rfl) rfl) rfl) rfl) rfl) rfl)
     ·
      rcases Bool.eq_false_or_eq_true (x27.2.1 != 0) with hb28 | hb28
      ·
       replace hF := ifT hb28 hF
       refine go_re 102 (v2 := .bool true) rfl (congrArg Value.bool hb28) (g_no rfl rfl rfl rfl rfl (g_no rfl rfl rfl rfl rfl (g_no rfl rfl rfl rfl rfl (g_no rfl rfl rfl rfl rfl (g_no rfl rfl rfl rfl rfl (g_no rfl rfl rfl rfl rfl (g_no rfl rfl rfl rfl rfl (g_no rfl rfl rfl rfl rfl (g_no rfl rfl rfl rfl rfl (g_no rfl rfl rfl rfl rfl (g_no rfl rfl rfl rfl rfl (gr rfl (r_pkT (ot rfl) (oc rfl)) ?_))))))))))))
       obtain rfl := someI hF
       exact Goes.weak (J29 () _ (HExt.refl _) w27 trivial) (Sub.cons (Sub.cons (Sub.cons (Sub.cons (Sub.cons (Sub.cons (Sub.cons (Sub.cons (Sub.cons (Sub.cons (Sub.cons (Sub.cons (Sub.cons (Sub.cons (Sub.cons (Sub.cons (Sub.cons (Sub.cons (Sub.cons (Sub.cons (Sub.cons (Sub.cons (Sub.cons (Sub.cons (Sub.cons (Sub.cons (Sub.cons (Sub.cons (Sub.cons (Sub.cons (Sub.cons (Sub.cons (Sub.cons (Sub.cons (Sub.nil _) rfl) rfl) rfl) rfl) rfl) rfl) rfl) rfl) rfl) rfl) rfl) rfl) rfl) rfl) rfl) rfl) rfl) rfl) rfl) rfl) rfl) rfl) rfl) rfl) rfl) rfl) rfl) rfl) rfl) rfl) rfl) rfl) rfl) rfl)
      ·
       replace hF := ifF hb28 hF
       refine go_re 102 (v2 := .bool false) rfl (congrArg Value.bool hb28) (g_do rfl rfl rfl (gM rfl rfl (g_do rfl rfl rfl (gM rfl rfl (g_do rfl rfl rfl (gr rfl (r_bin (ot rfl) (ot rfl) rfl) (g_do rfl rfl rfl (gM rfl rfl (g_do rfl rfl rfl (gM rfl rfl (g_do rfl rfl rfl ?_)))))))))))
       obtain ⟨q31, row31, i31, cl31, rc31, sp31⟩ := ix (ik := .i64) (cap := c0_0) (E := EE) (((((((((((((((f0_0.ext e7.kn).ext e9.kn).ext e10.kn).ext e11.kn).ext e13.kn).ext e14.kn).ext e15.kn).ext e16.kn).ext e17.kn).ext e18.kn).ext e19.kn).ext e21.kn).ext e25.kn).ext e26.kn).ext e27.kn) ((getI_nat _ _).trans hx21) ut_22 sz_36 rfl
       obtain rfl := rc31
       refine gr rfl (r_ia (ot rfl) (ot rfl) i31) (g_do rfl rfl rfl (gF (fs_36_1 sp31) rfl rfl (g_do rfl rfl rfl (gr rfl (r_load (ot rfl) (v := .string z21.Key) (lo_e (fun hf kn => ld_field (r := [.int .i64 z21.Rev, .string z21.Key, .string z21.Val, .bool z21.Del]) ag_9 (kn.cellsAt cl31) rfl))) (g_do rfl rfl rfl (gM rfl rfl (g_do rfl rfl rfl (gr rfl (r_bin (ot rfl) (ot rfl) rfl) (g_do rfl rfl rfl (gr rfl (r_bin (ot rfl) (ot rfl) bu_4) (gr rfl (r_pkF (ot rfl) (ot rfl)) ?_)))))))))))
       obtain rfl := someI hF
       exact Goes.weak (J29 () _ (HExt.refl _) w27 trivial) (Sub.cons (Sub.cons (Sub.cons (Sub.cons (Sub.cons (Sub.cons (Sub.cons (Sub.cons (Sub.cons (Sub.cons (Sub.cons (Sub.cons (Sub.cons (Sub.cons (Sub.cons (Sub.cons (Sub.cons (Sub.cons (Sub.cons (Sub.cons (Sub.cons (Sub.cons (Sub.cons (Sub.cons (Sub.cons (Sub.cons (Sub.cons (Sub.cons (Sub.cons (Sub.cons (Sub.cons (Sub.cons (Sub.cons (Sub.cons (Sub.nil _) rfl) rfl) rfl) rfl) rfl) rfl) rfl) rfl) rfl) rfl) rfl) rfl) rfl) rfl) rfl) rfl) rfl) rfl) rfl) rfl) rfl) rfl) rfl) rfl) rfl) rfl) rfl) rfl) rfl) rfl) rfl) rfl) rfl) rfl)
  ·
   refine go_block ?_
   refine go_loop (α := Nat × Int × (Oindex_Work_2) × (Oindex_Work_2) × (Obst_Tree × Omem_Mem × Ochain_Store) × (Oindex_Work_2) × List Blk × List Blk × List Blk × List Blk × Heap) (fun a => HExt h11 a.2.2.2.2.2.2.2.2.2.2 ∧ Wf a.2.2.2.2.2.2.2.2.2.2 ∧ F_law19_IndexOnce_L2 n p2 a.1 a.2.1 a.2.2.1 a.2.2.2.1 a.2.2.2.2.1 a.2.2.2.2.2.1 = some s13 ∧ Zindex_Work_2 a.2.2.2.2.2.2.2.2.2.2 b7_w0 b7_w0_2 b7_w0_1 b7_w0_3 b9_w0 a.2.2.2.2.2.2.1 a.2.2.1 ∧ Zindex_Work_2 a.2.2.2.2.2.2.2.2.2.2 b7_w0 b7_w0_2 b7_w0_1 b7_w0_3 b10_w0 a.2.2.2.2.2.2.2.1 a.2.2.2.1 ∧ Zindex_Index a.2.2.2.2.2.2.2.2.2.2 b7_w0 b7_w0_1 b7_w0_2 b7_w0_3 a.2.2.2.2.2.2.2.2.1 a.2.2.2.2.1.1 a.2.2.2.2.1.2.1 a.2.2.2.2.1.2.2 ∧ Zindex_Work_2 a.2.2.2.2.2.2.2.2.2.2 b7_w0 b7_w0_2 b7_w0_1 b7_w0_3 b11_w0 a.2.2.2.2.2.2.2.2.2.1 a.2.2.2.2.2.1) (fun a => a.1) (fun a => [(0, true, .slice a0_0 p0.length c0_0), (1, true, .string p1), (2, true, .slice a2_0 p2.length c2_0), (6, true, .bool false), (7, true, .bool true), (8, true, pt b7_w0), (9, true, .slice (some ⟨b38_12, 0, none⟩) 3 3), (10, true, .int .i64 a.2.1)]) (fun a => (List.flatten [[⟨b38_12, .cells [pt b9_w0, pt b10_w0, pt b11_w0] 32⟩], a.2.2.2.2.2.2.2.2.1, a.2.2.2.2.2.2.2.2.2.1, a.2.2.2.2.2.2.2.1, a.2.2.2.2.2.2.1] : List Blk)) (fun a => a.2.2.2.2.2.2.2.2.2.2) ?_ (n, 0, x9.1, x10.1, (x11.2.1, x11.2.2.1, x11.2.2.2), x11.1, z9_w0, z10_w0, z11_y0, z11_w0, h11) ⟨HExt.refl _, w11, hF, ((f9_1.ext e10.kn).ext e11.kn), (f10_1.ext e11.kn), f11_0, f11_1⟩ (Sub.cons (Sub.cons (Sub.cons (Sub.cons (Sub.cons (Sub.cons (Sub.cons (Sub.cons (Sub.nil _) rfl) rfl) rfl) rfl) rfl) rfl) rfl) rfl) rfl rfl
   rintro ⟨m32, y32_0, y32_1, y32_2, y32_3, y32_4, a32_0, a32_1, a32_2, a32_3, h32⟩ ⟨e32, w32, hF, f32_1, f32_2, f32_3, f32_4⟩ ih32
   try dsimp only at f32_1 f32_2 f32_3 f32_4
   rcases m32 with _ | m32
   ·
    rw [F_law19_IndexOnce_L2.eq_1] at hF; cases hF
   ·
    rw [F_law19_IndexOnce_L2.eq_2] at hF
    refine go_seq (go_seq (go_region (gM rfl rfl (gM rfl rfl (gr rfl (r_len rfl (os1 (ot rfl) os0) (fun _ _ => ln_42)) (gr rfl (r_bin (ot rfl) (ot rfl) rfl) (gM rfl rfl (grt rfl rfl rfl rfl (r_move (ot rfl)) (grt rfl rfl rfl rfl (r_bin (og rfl id) (oc rfl) rfl) (gr rfl (r_pickb (ot rfl) (og rfl id) (oc rfl)) (go_nil ?_)))))))))))
    refine g_cond (b := (bif (decide (y32_0 < (p2.length : Int))) then (decide (y32_0 < 200)) else false)) (ot rfl) (fun hc33 => ?_) (fun hc33 => ?_)
    ·
     replace hF := ifT hc33 hF
     refine go_skip (go_seq ?_)
     obtain ⟨s34, hF, hK34⟩ := obind hF
     refine go_joinc (β := List Blk × List Blk × List Blk × List Blk) (fun s h' => Zindex_Index h' b7_w0 b7_w0_1 b7_w0_2 b7_w0_3 s.1 s34.2.2.1.1 s34.2.2.1.2.1 s34.2.2.1.2.2 ∧ Zindex_Work_2 h' b7_w0 b7_w0_2 b7_w0_1 b7_w0_3 b11_w0 s.2.1 s34.2.2.2.1 ∧ Zindex_Work_2 h' b7_w0 b7_w0_2 b7_w0_1 b7_w0_3 b10_w0 s.2.2.1 s34.2.2.2.2.1 ∧ Zindex_Work_2 h' b7_w0 b7_w0_2 b7_w0_1 b7_w0_3 b9_w0 s.2.2.2 s34.2.2.2.2.2) (fun s => [(0, true, .slice a0_0 p0.length c0_0), (1, true, .string p1), (2, true, .slice a2_0 p2.length c2_0), (6, true, .bool false), (7, true, .bool true), (8, true, pt b7_w0), (9, true, .slice (some ⟨b38_12, 0, none⟩) 3 3), (10, true, .int .i64 y32_0), (39, true, .int .i64 y32_0), (40, true, .slice a2_0 p2.length c2_0), (41, true, .int .i64 (p2.length : Int)), (42, true, .bool (decide (y32_0 < (p2.length : Int)))), (43, true, .bool (decide (y32_0 < (p2.length : Int)))), (46, true, .bool (bif (decide (y32_0 < (p2.length : Int))) then (decide (y32_0 < 200)) else false)), (49, true, .slice (some ⟨b38_12, 0, none⟩) 3 3), (50, true, .slice a2_0 p2.length c2_0), (51, true, .int .i64 y32_0), (53, true, .int .u8 s34.1), (54, true, .int .u8 s34.2.1)]) (fun s => (List.flatten [[⟨b38_12, .cells [pt b9_w0, pt b10_w0, pt b11_w0] 32⟩], s.1, s.2.1, s.2.2.1, s.2.2.2] : List Blk)) ?_ (fun J34 => ?_)
     ·
      rintro ⟨a34_0, a34_1, a34_2, a34_3⟩ h34 e34 w34 ⟨f34_2, f34_3, f34_4, f34_5⟩
      try dsimp only at f34_2 f34_3 f34_4 f34_5
      replace hF := hK34
      refine go_region (gM rfl rfl (gr rfl (r_bin (ot rfl) (oc rfl) rfl) (gA rfl rfl (go_nil ?_))))
      exact Goes.weak (ih32 (m32, (IntKind.i64.wrap (y32_0 + 1)), s34.2.2.2.2.2, s34.2.2.2.2.1, (s34.2.2.1.1, s34.2.2.1.2.1, s34.2.2.1.2.2), s34.2.2.2.1, a34_3, a34_2, a34_0, a34_1, h34) ⟨(e32.trans e34), w34, hF, f34_5, f34_4, f34_2, f34_3⟩ (Nat.lt_succ_self _)) (Sub.cons (Sub.cons (Sub.cons (Sub.cons (Sub.cons (Sub.cons (Sub.cons (Sub.cons (Sub.nil _) rfl) rfl) rfl) rfl) rfl) rfl) rfl) rfl)
     ·
      refine go_block (go_region (gM rfl rfl (gM rfl rfl (gM rfl rfl ?_))))
      obtain ⟨x35, hx35, hF⟩ := obind hF
      obtain ⟨q35, row35, i35, cl35, rc35, sp35⟩ := ix (ik := .i64) (cap := c2_0) (E := EE) (((((f2_0.ext e7.kn).ext e9.kn).ext e10.kn).ext e11.kn).ext e32.kn) hx35 ut_42 sz_5 rfl
      obtain rfl := rc35
      refine gr rfl (r_ia (ot rfl) (ot rfl) i35) (gr rfl (r_load (ot rfl) (v := .int .u8 x35) (lo_e (fun hf kn => ld_one ag_5 (kn.cellsAt cl35)))) (gr rfl (r_bin (ot rfl) (oc rfl) rfl) ?_))
      by_cases hk36_0 : (Int.tmod x35 3) = ((0 : Nat) : Int)
      ·
       replace hF := ifP hk36_0 hF
       refine gr rfl (r_ia (ot rfl) (ot rfl) (ia_eq hk36_0 (ia_of ut_44 sz_32 (by decide) rfl))) (go_cast (pt b38_12) rfl (gls 0 ag_32 rfl rfl rfl rfl ?_))
       obtain ⟨x37, hx37, hF⟩ := obind hF
       refine kcX EE_fr w32 (.cons (.s (.z)) (.cons (.s (.s (.s (.z)))) .nil)) rfl of (ops_t rfl os0) hb_21 (s_index_Work_Step n w32 y32_3.1 y32_3.2.1 y32_3.2.2 y32_1 f32_3 f32_1 hx37) ?_
       rintro _ _ h37 e37 w37 ⟨z37_y0, z37_y1, rfl, rfl, f37_0, f37_1⟩
       simp only [ca_, na_]
       refine go_nil (go_endb ?_)
       obtain rfl := someI hF
       refine gs_perm (perm_of (d := []) _ [2, 0, 3, 4, 1] rfl) ?_
       exact Goes.weak (J34 (z37_y0, a32_3, a32_1, z37_y1) _ e37 w37 ⟨f37_0, (f32_4.ext e37.kn), (f32_2.ext e37.kn), f37_1⟩) (Sub.cons (Sub.cons (Sub.cons (Sub.cons (Sub.cons (Sub.cons (Sub.cons (Sub.cons (Sub.cons (Sub.cons (Sub.cons (Sub.cons (Sub.cons (Sub.cons (Sub.cons (Sub.cons (Sub.cons (Sub.cons (Sub.cons (Sub.nil _) rfl) rfl) rfl) rfl) rfl) rfl) rfl) rfl) rfl) rfl) rfl) rfl) rfl) rfl) rfl) rfl) rfl) rfl) rfl)
      replace hF := ifN hk36_0 hF
      by_cases hk36_1 : (Int.tmod x35 3) = ((1 : Nat) : Int)
      ·
       replace hF := ifP hk36_1 hF
       refine gr rfl (r_ia (ot rfl) (ot rfl) (ia_eq hk36_1 (ia_of ut_44 sz_32 (by decide) rfl))) (go_cast (.pointer (some ⟨b38_12, 1, none⟩)) rfl (gls 0 ag_32 rfl rfl rfl rfl ?_))
       obtain ⟨x38, hx38, hF⟩ := obind hF
       refine kcX EE_fr w32 (.cons (.s (.z)) (.cons (.s (.s (.z))) .nil)) rfl of (ops_t rfl os0) hb_21 (s_index_Work_Step n w32 y32_3.1 y32_3.2.1 y32_3.2.2 y32_2 f32_3 f32_2 hx38) ?_
       rintro _ _ h38 e38 w38 ⟨z38_y0, z38_y1, rfl, rfl, f38_0, f38_1⟩
       simp only [ca_, na_]
       refine go_nil (go_endb ?_)
       obtain rfl := someI hF
       refine gs_perm (perm_of (d := []) _ [2, 0, 3, 1, 4] rfl) ?_
       exact Goes.weak (J34 (z38_y0, a32_3, z38_y1, a32_0) _ e38 w38 ⟨f38_0, (f32_4.ext e38.kn), f38_1, (f32_1.ext e38.kn)⟩) (Sub.cons (Sub.cons (Sub.cons (Sub.cons (Sub.cons (Sub.cons (Sub.cons (Sub.cons (Sub.cons (Sub.cons (Sub.cons (Sub.cons (Sub.cons (Sub.cons (Sub.cons (Sub.cons (Sub.cons (Sub.cons (Sub.cons (Sub.nil _) rfl) rfl) rfl) rfl) rfl) rfl) rfl) rfl) rfl) rfl) rfl) rfl) rfl) rfl) rfl) rfl) rfl) rfl) rfl)
      replace hF := ifN hk36_1 hF
      by_cases hk36_2 : (Int.tmod x35 3) = ((2 : Nat) : Int)
      ·
       replace hF := ifP hk36_2 hF
       refine gr rfl (r_ia (ot rfl) (ot rfl) (ia_eq hk36_2 (ia_of ut_44 sz_32 (by decide) rfl))) (go_cast (.pointer (some ⟨b38_12, 2, none⟩)) rfl (gls 0 ag_32 rfl rfl rfl rfl ?_))
       obtain ⟨x39, hx39, hF⟩ := obind hF
       refine kcX EE_fr w32 (.cons (.s (.z)) (.cons (.s (.z)) .nil)) rfl of (ops_t rfl os0) hb_21 (s_index_Work_Step n w32 y32_3.1 y32_3.2.1 y32_3.2.2 y32_4 f32_3 f32_4 hx39) ?_
       rintro _ _ h39 e39 w39 ⟨z39_y0, z39_y1, rfl, rfl, f39_0, f39_1⟩
       simp only [ca_, na_]
       refine go_nil (go_endb ?_)
       obtain rfl := someI hF
       refine gs_perm (perm_of (d := []) _ [2, 0, 1, 3, 4] rfl) ?_
       exact Goes.weak (J34 (z39_y0, z39_y1, a32_1, a32_0) _ e39 w39 ⟨f39_0, f39_1, (f32_2.ext e39.kn), (f32_1.ext e39.kn)⟩) (Sub.cons (Sub.cons (Sub.cons (Sub.cons (Sub.cons (Sub.cons (Sub.cons (Sub.cons (Sub.cons (Sub.cons (Sub.cons (Sub.cons (Sub.cons (Sub.cons (Sub.cons (Sub.cons (Sub.cons (Sub.cons (Sub.cons (Sub.nil _) rfl) rfl) rfl) rfl) rfl) rfl) rfl) rfl) rfl) rfl) rfl) rfl) rfl) rfl) rfl) rfl) rfl) rfl) rfl)
      replace hF := ifN hk36_2 hF
      cases hF
    ·
     replace hF := ifF hc33 hF
     refine go_exit rfl ?_
     obtain rfl := someI hF
     exact Goes.weak (J13 (a32_2, a32_3, a32_1, a32_0) _ e32 w32 ⟨f32_3, f32_4, f32_2, f32_1⟩) (Sub.cons (Sub.cons (Sub.cons (Sub.cons (Sub.cons (Sub.cons (Sub.nil _) rfl) rfl) rfl) rfl) rfl) rfl)
end Go.Proofs.YtndhbaidibioeaaGreat.V
