/- Walks.
   No condition: these are laws of the clean machine and of this program. -/
import Derived.Test.YtndhbaidibioeaaGreatJc
namespace Go.Proofs.YtndhbaidibioeaaGreat.V
open Go
set_option linter.unusedVariables false
set_option linter.unusedSimpArgs false
set_option maxRecDepth 100000
set_option maxHeartbeats 4000000
theorem s_law19_IndexWalks (n : Nat) {h : Heap} (hw : Wf h) (p0 : (List TEvent)) (p1 : TRange) (p2 : ByteArray) {a0_0 : Option Addr} {c0_0 : Nat} (f0_0 : RL R_TEvent h a0_0 c0_0 p0) {r : Bool} (hF : F_law19_IndexWalks n p0 p1 p2 = some r) :
    Ev EE 6 [.slice a0_0 p0.length c0_0, .agg #[.string p1.From, .string p1.To], .string p2] h (fun v _ => v = .bool r) := by
 unfold F_law19_IndexWalks at hF
 refine ev_of hw rfl at_6 rfl rfl (go_seg0 ?_)
 refine go_seq (go_region (gs_box rfl (ot rfl) rfl (fun b4_4 => gAc rfl rfl (go_nil (go_seq (go_region (g_callp EE_fr rfl of os0 hb_9 (fun _ => rfl) (fun hf kn w => by exact known_evp rfl hf w) (gA rfl rfl (go_nil (go_seq (go_seq (go_region (gM rfl rfl ?_)))))))))))))
 obtain ⟨x6, hx6, hF⟩ := obind hF
 refine g_callp (v := .bool x6) EE_fr rfl of (os1 (ot rfl) os0) hb_10 (fun _ => rfl) (fun hf kn w => by exact s_law19_few n w p0 (f0_0.ext kn) hx6) (gr rfl (r_un (ot rfl) rfl) (go_nil ?_))
 refine g_cond (b := (!x6)) (ot rfl) (fun hc7 => ?_) (fun hc7 => ?_)
 ·
  replace hF := ifT hc7 hF
  refine go_seq (go_region (gM rfl rfl (gA rfl rfl (go_nil ?_))))
  obtain rfl := someI hF
  exact g_ret (rst rfl rs0) (fun h1 hf hs => ⟨hs.hext, rfl⟩)
 ·
  replace hF := ifF hc7 hF
  refine go_skip (go_seq (go_region (gM rfl rfl ?_)))
  obtain ⟨x8, hx8, hF⟩ := obind hF
  refine kcX EE_fr hw .nil rfl of (ops_t rfl os0) hb_11 (s_law19_made n hw p0 f0_0 hx8) ?_
  rintro _ _ h8 e8 w8 ⟨b8_w0, b8_w0_1, b8_w0_2, b8_w0_3, z8_w0, rfl, rfl, f8_0⟩
  simp only [ca_, na_]
  refine gA rfl rfl (go_nil (go_seq (go_region (gM rfl rfl (glw 1 ag_24 sz_24 rfl rfl rfl rfl ?_)))))
  obtain ⟨x9, hx9, hF⟩ := obind hF
  refine kcX EE_fr w8 (.cons .z .nil) rfl of (ops_t rfl (ops_t rfl (ops_c rfl os0))) hb_18 (s_index_Index_Walk n w8 x8.1 x8.2.1 x8.2.2 p1 5000 f8_0 hx9) ?_
  rintro _ _ h9 e9 w9 ⟨z9_y0, b9_w0, z9_w0, rfl, rfl, f9_0, f9_1⟩
  simp only [ca_, na_]
  obtain ⟨x10, hx10, hF⟩ := obind hF
  refine kcX EE_fr w9 (.cons .z (.cons .z .nil)) rfl of (ops_t rfl os0) hb_14 (s_index_Run n w9 x9.2.1 x9.2.2.1 x9.2.2.2 x9.1 f9_0 f9_1 hx10) ?_
  rintro _ _ h10 e10 w10 ⟨z10_y0, z10_y1, rfl, rfl, f10_0, f10_1⟩
  simp only [ca_, na_]
  obtain ⟨x11, hx11, hF⟩ := obind hF
  refine kcX EE_fr w10 (.cons (.s (.z)) .nil) rfl of (ops_t rfl os0) hb_16 (s_index_Work_Found (bW91 := b8_w0) (bW107 := b8_w0_2) (bW131 := b8_w0_1) (bW161 := b8_w0_3) w10 x10.2.2.2 f10_1 hx11) ?_
  rintro _ _ h11 e11 w11 ⟨a11_0, c11_0, rfl, rfl, f11_0⟩
  simp only [ca_, na_]
  refine gA rfl rfl (go_nil (go_seq (go_seq (go_region (gAc rfl rfl (go_nil ?_))))))
  obtain ⟨s12, hF, hK12⟩ := obind hF
  refine go_joinc (β := ((Obst_Tree × Omem_Mem × Ochain_Store)) × List Blk) (fun s h' => s12 = .go s.1 ∧ Zindex_Index h' b8_w0 b8_w0_1 b8_w0_2 b8_w0_3 s.2 s.1.1 s.1.2.1 s.1.2.2) (fun s => [(2, true, .string p2), (4, true, pt b4_4), (6, true, .bool false), (7, true, .bool true), (8, true, pt b8_w0), (9, true, .slice a11_0 x11.length c11_0)]) (fun s => (List.flatten [s.2, [⟨b4_4, .cells [.string p1.From, .string p1.To] 24⟩]] : List Blk)) ?_ (fun J12 => ?_)
  ·
   rintro ⟨x12_0, a12_0⟩ h12 e12 w12 ⟨hs12, f12_0⟩
   subst hs12
   try dsimp only at f12_0
   replace hF := lpgo hK12
   refine go_seq (go_seq (go_region (gM rfl rfl (gF (fa_24_0 _ _) rfl rfl (gls 1 ag_9 rfl rfl rfl rfl (gr rfl (r_bin (ot rfl) (ot rfl) rfl) (gM rfl rfl (grf rfl rfl rfl rfl (r_fa (ot rfl) (fa_24_1 _ _)) (grf rfl rfl rfl rfl (r_load (og rfl id) (lm_s (mem_seg 1 rfl) ag_9 rfl)) (grf rfl rfl rfl rfl (r_bin (og rfl id) (oc rfl) rfl) (grf rfl rfl rfl rfl (r_move (og rfl id)) (grt' rfl rfl rfl rfl (r_move (ot rfl)) (grt' rfl rfl rfl rfl (r_fa (ot rfl) (fa_24_1 _ _)) (grt' rfl rfl rfl rfl (r_load (og rfl id) (lm_s (mem_seg 1 rfl) ag_9 rfl)) (grt' rfl rfl rfl rfl (r_bin (og rfl id) (og rfl id) rfl) (grf rfl rfl rfl rfl (r_pickb (og rfl id) (og rfl id) (oc rfl)) (gr rfl (r_pickb (ot rfl) (oc rfl) (og rfl id)) (go_nil ?_))))))))))))))))))
   refine g_cond (b := (bif (leB p2 p1.From) then true else (bif (!eqB p1.To ByteArray.empty) then (!lessB p2 p1.To) else false))) (ot rfl) (fun hc13 => ?_) (fun hc13 => ?_)
   ·
    replace hF := ifT hc13 hF
    refine go_seq (go_region (gM rfl rfl (gA rfl rfl (go_nil ?_))))
    obtain rfl := someI hF
    exact g_ret (rst rfl rs0) (fun h1 hf hs => ⟨(e8.trans (e9.trans (e10.trans (e11.trans (e12.trans hs.hext))))), rfl⟩)
   ·
    replace hF := ifF hc13 hF
    refine go_skip (go_seq (go_region (gM rfl rfl (gF (fa_24_0 _ _) rfl rfl (gls 1 ag_9 rfl rfl rfl rfl (gM rfl rfl (gr rfl (r_build (op1 (ot rfl) (op1 (ot rfl) op0)) rfl) ?_)))))))
    obtain ⟨x14, hx14, hF⟩ := obind hF
    refine kcX EE_fr w12 (.cons .z .nil) rfl of (ops_t rfl (ops_t rfl (ops_c rfl os0))) hb_18 (s_index_Index_Walk n w12 x12_0.1 x12_0.2.1 x12_0.2.2 (⟨p1.From, p2⟩ : TRange) 5000 f12_0 hx14) ?_
    rintro _ _ h14 e14 w14 ⟨z14_y0, b14_w0, z14_w0, rfl, rfl, f14_0, f14_1⟩
    simp only [ca_, na_]
    obtain ⟨x15, hx15, hF⟩ := obind hF
    refine kcX EE_fr w14 (.cons .z (.cons .z .nil)) rfl of (ops_t rfl os0) hb_14 (s_index_Run n w14 x14.2.1 x14.2.2.1 x14.2.2.2 x14.1 f14_0 f14_1 hx15) ?_
    rintro _ _ h15 e15 w15 ⟨z15_y0, z15_y1, rfl, rfl, f15_0, f15_1⟩
    simp only [ca_, na_]
    obtain ⟨x16, hx16, hF⟩ := obind hF
    refine kcX EE_fr w15 (.cons (.s (.z)) .nil) rfl of (ops_t rfl os0) hb_16 (s_index_Work_Found (bW91 := b8_w0) (bW107 := b8_w0_2) (bW131 := b8_w0_1) (bW161 := b8_w0_3) w15 x15.2.2.2 f15_1 hx16) ?_
    rintro _ _ h16 e16 w16 ⟨a16_0, c16_0, rfl, rfl, f16_0⟩
    simp only [ca_, na_]
    refine gA rfl rfl (go_nil (go_seq (go_region (gM rfl rfl (gM rfl rfl (gF (fa_24_1 _ _) rfl rfl (gls 1 ag_9 rfl rfl rfl rfl (gr rfl (r_build (op1 (ot rfl) (op1 (ot rfl) op0)) rfl) ?_))))))))
    obtain ⟨x17, hx17, hF⟩ := obind hF
    refine kcX EE_fr w16 (.cons .z .nil) rfl of (ops_t rfl (ops_t rfl (ops_c rfl os0))) hb_18 (s_index_Index_Walk n w16 x15.1 x15.2.1 x15.2.2.1 (⟨p2, p1.To⟩ : TRange) 5000 (f15_0.ext e16.kn) hx17) ?_
    rintro _ _ h17 e17 w17 ⟨z17_y0, b17_w0, z17_w0, rfl, rfl, f17_0, f17_1⟩
    simp only [ca_, na_]
    obtain ⟨x18, hx18, hF⟩ := obind hF
    refine kcX EE_fr w17 (.cons .z (.cons .z .nil)) rfl of (ops_t rfl os0) hb_14 (s_index_Run n w17 x17.2.1 x17.2.2.1 x17.2.2.2 x17.1 f17_0 f17_1 hx18) ?_
    rintro _ _ h18 e18 w18 ⟨z18_y0, z18_y1, rfl, rfl, f18_0, f18_1⟩
    simp only [ca_, na_]
    obtain ⟨x19, hx19, hF⟩ := obind hF
    refine kcX EE_fr w18 (.cons (.s (.z)) .nil) rfl of (ops_t rfl os0) hb_16 (s_index_Work_Found (bW91 := b8_w0) (bW107 := b8_w0_2) (bW131 := b8_w0_1) (bW161 := b8_w0_3) w18 x18.2.2.2 f18_1 hx19) ?_
    rintro _ _ h19 e19 w19 ⟨a19_0, c19_0, rfl, rfl, f19_0⟩
    simp only [ca_, na_]
    refine gA rfl rfl (go_nil (go_seq (go_region (gM rfl rfl (gM rfl rfl (g_do rfl rfl rfl (gs_bslice (cs := []) rfl op0 ut_29 sz_56 zo_56 rfl rfl (fun b106_20 => g_do rfl rfl rfl (gM rfl rfl (g_do rfl rfl rfl ?_))))))))))
    obtain ⟨x21, hx21, hF⟩ := obind hF
    obtain ⟨hr21, hz21_⟩ := appL_some hx21; subst x21
    obtain ⟨rw21, hw21, hq21⟩ := RL.first (((f16_0.ext e17.kn).ext e18.kn).ext e19.kn) (by decide)
    refine gs_app0 (rows2 := rw21) (R := R_TKV) rfl (os1 (ot rfl) (os1 (ot rfl) os0)) rfl ut_29 sz_56 rfl (by decide) by_56 zo_56 rfl zs_29_29 rfl rfl (first_e hq21 (fun h' kn => kn.firstV hq21)) hw21 (AccR.lit _ _ _ _) hr21 (fun p21_ tl21 f21_ => g_do rfl rfl rfl (gM rfl rfl (g_do rfl rfl rfl ?_)))
    obtain ⟨x22, hx22, hF⟩ := obind hF
    obtain ⟨hr22, hz22_⟩ := appL_some hx22; subst x22
    obtain ⟨rw22, hw22, hq22⟩ := RL.first f19_0 (by decide)
    refine gs_app (rows2 := rw22) (R := R_TKV) rfl (os1 (ot rfl) (os1 (ot rfl) os0)) rfl ut_29 sz_56 rfl (by decide) by_56 zo_56 rfl zs_29_29 rfl rfl (first_e hq22 (fun h' kn => kn.firstV hq22)) hw22 f21_ hr22 (fun p22_ tl22 f22_ => g_do rfl rfl rfl (gM rfl rfl (g_do rfl rfl rfl ?_)))
    obtain ⟨x23, hx23, hF⟩ := obind hF
    refine gs_callb (v := .bool x23) EE_fr rfl .z f22_ rfl of (os1 (ot rfl) (os1 (ot rfl) os0)) hb_13 (fun hf kn w fb23 => by exact s_ref05_KVs w ((([] : List TKV) ++ x16) ++ x19) x11 fb23 ((((((((f11_0.ext e12.kn).ext e14.kn).ext e15.kn).ext e16.kn).ext e17.kn).ext e18.kn).ext e19.kn).ext kn) hx23) (gr rfl (r_pkT (ot rfl) (ot rfl)) (gA rfl rfl (go_nil ?_)))
    obtain rfl := someI hF
    exact g_ret (rst rfl rs0) (fun h1 hf hs => ⟨(e8.trans (e9.trans (e10.trans (e11.trans (e12.trans (e14.trans (e15.trans (e16.trans (e17.trans (e18.trans (e19.trans hs.hext))))))))))), rfl⟩)
  ·
   refine go_block ?_
   refine go_loop (α := (List TKV) × Nat × (Obst_Tree × Omem_Mem × Ochain_Store) × List Blk × Heap) (fun a => a.1 = List.drop a.2.1 x11 ∧ HExt h11 a.2.2.2.2 ∧ Wf a.2.2.2.2 ∧ F_law19_IndexWalks_L1 n x11 a.1 a.2.1 a.2.2.1 = some s12 ∧ Zindex_Index a.2.2.2.2 b8_w0 b8_w0_1 b8_w0_2 b8_w0_3 a.2.2.2.1 a.2.2.1.1 a.2.2.1.2.1 a.2.2.1.2.2) (fun a => a.1.length) (fun a => [(2, true, .string p2), (4, true, pt b4_4), (6, true, .bool false), (7, true, .bool true), (8, true, pt b8_w0), (9, true, .slice a11_0 x11.length c11_0), (10, true, .int .i64 (a.2.1 : Int))]) (fun a => (List.flatten [a.2.2.2.1, [⟨b4_4, .cells [.string p1.From, .string p1.To] 24⟩]] : List Blk)) (fun a => a.2.2.2.2) ?_ (x11, 0, (x10.1, x10.2.1, x10.2.2.1), z10_y0, h11) ⟨rfl, HExt.refl _, w11, hF, (f10_0.ext e11.kn)⟩ (Sub.cons (Sub.cons (Sub.cons (Sub.cons (Sub.cons (Sub.cons (Sub.cons (Sub.nil _) rfl) rfl) rfl) rfl) rfl) rfl) rfl) rfl rfl
   rintro ⟨r24, i24, y24_0, a24_0, h24⟩ ⟨hr24, e24, w24, hF, f24_0⟩ ih24
   try dsimp only at f24_0
   rcases r24 with _ | ⟨z24, r24⟩
   ·
    have hi24 := drop_nil hr24
    rw [F_law19_IndexWalks_L1.eq_1] at hF
    refine go_seq (go_seq (go_region (gM rfl rfl (gM rfl rfl (gr rfl (r_len rfl (os1 (ot rfl) os0) (fun _ _ => ln_29)) (gr rfl (r_bin (ot rfl) (ot rfl) rfl) (go_cast (.bool false) (congrArg Value.bool (decide_eq_false hi24)) (go_nil ?_))))))))
    refine g_cond (b := false) (ot rfl) (fun hc25 => ?_) (fun hc25 => ?_)
    · cases hc25
    refine go_exit rfl ?_
    obtain rfl := someI hF
    exact Goes.weak (J12 ((y24_0.1, y24_0.2.1, y24_0.2.2), a24_0) _ e24 w24 ⟨rfl, f24_0⟩) (Sub.cons (Sub.cons (Sub.cons (Sub.cons (Sub.cons (Sub.cons (Sub.nil _) rfl) rfl) rfl) rfl) rfl) rfl)
   ·
    obtain ⟨hi24, hx24, hr24⟩ := drop_cons hr24
    have hb24 := (f11_0.ext e24.kn).1
    rw [F_law19_IndexWalks_L1.eq_2] at hF
    refine go_seq (go_seq (go_region (gM rfl rfl (gM rfl rfl (gr rfl (r_len rfl (os1 (ot rfl) os0) (fun _ _ => ln_29)) (gr rfl (r_bin (ot rfl) (ot rfl) rfl) (go_cast (.bool true) (congrArg Value.bool (decide_eq_true (Int.ofNat_lt.mpr hi24))) (go_nil ?_))))))))
    refine g_cond (b := true) (ot rfl) (fun hc26 => ?_) (fun hc26 => ?_)
    rotate_left
    · cases hc26
    refine go_skip (go_seq (go_block (go_seq (go_region (gM rfl rfl (gM rfl rfl (gM rfl rfl ?_)))))))
    obtain ⟨q27, row27, i27, cl27, rc27, sp27⟩ := ix (ik := .i64) (cap := c11_0) (E := EE) (f11_0.ext e24.kn) ((getI_nat _ _).trans hx24) ut_29 sz_56 rfl
    obtain rfl := rc27
    refine gr rfl (r_ia (ot rfl) (ot rfl) i27) (gF (fs_56_0 sp27) rfl rfl (gr rfl (r_load (ot rfl) (v := .string z24.Key) (lo_e (fun hf kn => ld_field (r := [.string z24.Key, .string z24.Val, .int .i64 z24.Rev]) ag_9 (kn.cellsAt cl27) rfl))) ?_))
    obtain ⟨x28, hx28, hF⟩ := obind hF
    refine kcX EE_fr w24 (.cons .z .nil) rfl of (ops_t rfl (ops_t rfl (ops_c rfl os0))) hb_15 (s_index_Index_Get n w24 y24_0.1 y24_0.2.1 y24_0.2.2 z24.Key 5000 f24_0 hx28) ?_
    rintro _ _ h28 e28 w28 ⟨z28_y0, b28_w0, z28_w0, rfl, rfl, f28_0, f28_1⟩
    simp only [ca_, na_]
    obtain ⟨x29, hx29, hF⟩ := obind hF
    refine kcX EE_fr w28 (.cons .z (.cons .z .nil)) rfl of (ops_t rfl os0) hb_14 (s_index_Run n w28 x28.2.1 x28.2.2.1 x28.2.2.2 x28.1 f28_0 f28_1 hx29) ?_
    rintro _ _ h29 e29 w29 ⟨z29_y0, z29_y1, rfl, rfl, f29_0, f29_1⟩
    simp only [ca_, na_]
    obtain ⟨x30, hx30, hF⟩ := obind hF
    refine kcX EE_fr w29 (.cons (.s (.z)) .nil) rfl of (ops_t rfl os0) hb_16 (s_index_Work_Found (bW91 := b8_w0) (bW107 := b8_w0_2) (bW131 := b8_w0_1) (bW161 := b8_w0_3) w29 x29.2.2.2 f29_1 hx30) ?_
    rintro _ _ h30 e30 w30 ⟨a30_0, c30_0, rfl, rfl, f30_0⟩
    simp only [ca_, na_]
    refine gA rfl rfl (go_nil (go_seq (go_regionq (by kernel_rfl) (gM rfl rfl (gr rfl (r_len rfl (os1 (ot rfl) os0) (fun _ _ => ln_29)) (gr rfl (r_bin (ot rfl) (oc rfl) rfl) (gM rfl rfl ?_)))))))
    obtain ⟨s32, hF, hK32⟩ := obind hF
    refine go_joinr 9 (β := Unit) (fun s h' => True) (fun s => [(2, true, .string p2), (4, true, pt b4_4), (6, true, .bool false), (7, true, .bool true), (8, true, pt b8_w0), (9, true, .slice a11_0 x11.length c11_0), (10, true, .int .i64 (i24 : Int)), (11, true, .slice a30_0 x30.length c30_0), (26, true, .int .i64 (i24 : Int)), (27, true, .slice a11_0 x11.length c11_0), (28, true, .int .i64 (x11.length : Int)), (29, true, .bool true), (32, true, pt b8_w0), (33, true, .slice a11_0 x11.length c11_0), (34, true, .int .i64 (i24 : Int)), (35, true, .pointer (some q27)), (36, true, .pointer (some ⟨q27.block, q27.off + 0, q27.spot⟩)), (37, true, .string z24.Key), (38, true, pt b28_w0), (39, true, pt b28_w0), (40, true, .slice a30_0 x30.length c30_0), (41, true, .slice a30_0 x30.length c30_0), (42, true, .int .i64 (x30.length : Int)), (43, true, .bool ((x30.length : Int) != 1)), (44, true, .bool s32.1), (53, true, .bool s32.2)]) (fun s => (List.flatten [z29_y0, [⟨b4_4, .cells [.string p1.From, .string p1.To] 24⟩]] : List Blk)) ?_ (fun J32 => ?_)
    ·
     rintro _ h32 e32 w32 _
     replace hF := hK32
     refine gM rfl rfl ?_
     obtain ⟨s34, hF, hK34⟩ := obind hF
     refine go_joinr 17 (β := Unit) (fun s h' => True) (fun s => [(2, true, .string p2), (4, true, pt b4_4), (6, true, .bool false), (7, true, .bool true), (8, true, pt b8_w0), (9, true, .slice a11_0 x11.length c11_0), (10, true, .int .i64 (i24 : Int)), (11, true, .slice a30_0 x30.length c30_0), (26, true, .int .i64 (i24 : Int)), (27, true, .slice a11_0 x11.length c11_0), (28, true, .int .i64 (x11.length : Int)), (29, true, .bool true), (32, true, pt b8_w0), (33, true, .slice a11_0 x11.length c11_0), (34, true, .int .i64 (i24 : Int)), (35, true, .pointer (some q27)), (36, true, .pointer (some ⟨q27.block, q27.off + 0, q27.spot⟩)), (37, true, .string z24.Key), (38, true, pt b28_w0), (39, true, pt b28_w0), (40, true, .slice a30_0 x30.length c30_0), (41, true, .slice a30_0 x30.length c30_0), (42, true, .int .i64 (x30.length : Int)), (43, true, .bool ((x30.length : Int) != 1)), (44, true, .bool s32.1), (53, true, .bool s32.2), (54, true, .bool s34.1), (71, true, .bool s34.2)]) (fun s => (List.flatten [z29_y0, [⟨b4_4, .cells [.string p1.From, .string p1.To] 24⟩]] : List Blk)) ?_ (fun J34 => ?_)
     ·
      rintro _ h34 e34 w34 _
      replace hF := hK34
      refine go_nil ?_
      refine g_cond (b := s34.2) (ot rfl) (fun hc35 => ?_) (fun hc35 => ?_)
      ·
       replace hF := ifT hc35 hF
       refine go_seq (go_region (gAc rfl rfl (go_nil ?_)))
       obtain rfl := someI hF
       obtain rfl := someI hK12
       exact g_ret (rst rfl rs0) (fun h1 hf hs => ⟨(e8.trans (e9.trans (e10.trans (e11.trans (e24.trans (e28.trans (e29.trans (e30.trans (e32.trans (e34.trans hs.hext)))))))))), rfl⟩)
      ·
       replace hF := ifF hc35 hF
       refine go_skip (go_endb (go_region (gM rfl rfl (gr rfl (r_bin (ot rfl) (oc rfl) rfl) (gA rfl rfl (go_nil (go_re 10 (v2 := .int .i64 ((i24 + 1 : Nat) : Int)) rfl (wrap_succ hi24 hb24) ?_)))))))
       exact Goes.weak (ih24 (r24, i24 + 1, (x29.1, x29.2.1, x29.2.2.1), z29_y0, h34) ⟨hr24, (e24.trans (e28.trans (e29.trans (e30.trans (e32.trans e34))))), w34, hF, (((f29_0.ext e30.kn).ext e32.kn).ext e34.kn)⟩ (Nat.lt_succ_self _)) (Sub.cons (Sub.cons (Sub.cons (Sub.cons (Sub.cons (Sub.cons (Sub.cons (Sub.nil _) rfl) rfl) rfl) rfl) rfl) rfl) rfl)
     ·
      rcases Bool.eq_false_or_eq_true s32.2 with hb33 | hb33
      ·
       replace hF := ifT hb33 hF
       refine go_re 54 (v2 := .bool true) rfl (congrArg Value.bool hb33) (g_no rfl rfl rfl rfl rfl (g_no rfl rfl rfl rfl rfl (g_no rfl rfl rfl rfl rfl (g_nu rfl rfl rfl rfl (g_nu rfl rfl rfl rfl (g_nu rfl rfl rfl rfl (g_nu rfl rfl rfl rfl (g_nu rfl rfl rfl rfl (g_nu rfl rfl rfl rfl (g_nu rfl rfl rfl rfl (g_nu rfl rfl rfl rfl (g_nu rfl rfl rfl rfl (g_nu rfl rfl rfl rfl (g_nu rfl rfl rfl rfl (g_nu rfl rfl rfl rfl (g_no rfl rfl rfl rfl rfl (gr rfl (r_pkT (ot rfl) (oc rfl)) ?_)))))))))))))))))
       obtain rfl := someI hF
       exact Goes.weak (J34 () _ (HExt.refl _) w32 trivial) (Sub.cons (Sub.cons (Sub.cons (Sub.cons (Sub.cons (Sub.cons (Sub.cons (Sub.cons (Sub.cons (Sub.cons (Sub.cons (Sub.cons (Sub.cons (Sub.cons (Sub.cons (Sub.cons (Sub.cons (Sub.cons (Sub.cons (Sub.cons (Sub.cons (Sub.cons (Sub.cons (Sub.cons (Sub.cons (Sub.cons (Sub.cons (Sub.cons (Sub.nil _) rfl) rfl) rfl) rfl) rfl) rfl) rfl) rfl) rfl) rfl) rfl) rfl) rfl) rfl) rfl) rfl) rfl) rfl) rfl) rfl) rfl) rfl) rfl) rfl) rfl) rfl) rfl) rfl)
      ·
       replace hF := ifF hb33 hF
       refine go_re 54 (v2 := .bool false) rfl (congrArg Value.bool hb33) (g_do rfl rfl rfl (gM rfl rfl (g_do rfl rfl rfl (gr rfl (r_bin (ot rfl) (oc rfl) rfl) (g_do rfl rfl rfl (gM rfl rfl ?_))))))
       obtain ⟨s37, hF, hK37⟩ := obind hF
       refine go_joinr 13 (β := Unit) (fun s h' => True) (fun s => [(2, true, .string p2), (4, true, pt b4_4), (6, true, .bool false), (7, true, .bool true), (8, true, pt b8_w0), (9, true, .slice a11_0 x11.length c11_0), (10, true, .int .i64 (i24 : Int)), (11, true, .slice a30_0 x30.length c30_0), (26, true, .int .i64 (i24 : Int)), (27, true, .slice a11_0 x11.length c11_0), (28, true, .int .i64 (x11.length : Int)), (29, true, .bool true), (32, true, pt b8_w0), (33, true, .slice a11_0 x11.length c11_0), (34, true, .int .i64 (i24 : Int)), (35, true, .pointer (some q27)), (36, true, .pointer (some ⟨q27.block, q27.off + 0, q27.spot⟩)), (37, true, .string z24.Key), (38, true, pt b28_w0), (39, true, pt b28_w0), (40, true, .slice a30_0 x30.length c30_0), (41, true, .slice a30_0 x30.length c30_0), (42, true, .int .i64 (x30.length : Int)), (43, true, .bool ((x30.length : Int) != 1)), (44, true, .bool s32.1), (53, true, .bool s32.2), (54, true, .bool false), (55, true, .int .i64 (i24 : Int)), (56, true, .bool (decide ((i24 : Int) > 0))), (57, true, .bool s37.1), (70, true, .bool s37.2)]) (fun s => (List.flatten [z29_y0, [⟨b4_4, .cells [.string p1.From, .string p1.To] 24⟩]] : List Blk)) ?_ (fun J37 => ?_)
       ·
        rintro _ h37 e37 w37 _
        replace hF := hK37
        refine gr rfl (r_pkF (ot rfl) (ot rfl)) ?_
        obtain rfl := someI hF
        exact Goes.weak (J34 () _ e37 w37 trivial) (Sub.cons (Sub.cons (Sub.cons (Sub.cons (Sub.cons (Sub.cons (Sub.cons (Sub.cons (Sub.cons (Sub.cons (Sub.cons (Sub.cons (Sub.cons (Sub.cons (Sub.cons (Sub.cons (Sub.cons (Sub.cons (Sub.cons (Sub.cons (Sub.cons (Sub.cons (Sub.cons (Sub.cons (Sub.cons (Sub.cons (Sub.cons (Sub.cons (Sub.nil _) rfl) rfl) rfl) rfl) rfl) rfl) rfl) rfl) rfl) rfl) rfl) rfl) rfl) rfl) rfl) rfl) rfl) rfl) rfl) rfl) rfl) rfl) rfl) rfl) rfl) rfl) rfl) rfl)
       ·
        rcases Bool.eq_false_or_eq_true (decide ((i24 : Int) > 0)) with hb36 | hb36
        ·
         replace hF := ifT hb36 hF
         refine go_re 57 (v2 := .bool true) rfl (congrArg Value.bool hb36) (g_do rfl rfl rfl (gM rfl rfl (g_do rfl rfl rfl (gM rfl rfl (g_do rfl rfl rfl (gr rfl (r_bin (ot rfl) (oc rfl) rfl) (g_do rfl rfl rfl ?_)))))))
         obtain ⟨x38, hx38, hF⟩ := obind hF
         obtain ⟨q38, row38, i38, cl38, rc38, sp38⟩ := ix (ik := .i64) (cap := c11_0) (E := EE) (((((f11_0.ext e24.kn).ext e28.kn).ext e29.kn).ext e30.kn).ext e32.kn) hx38 ut_29 sz_56 rfl
         obtain rfl := rc38
         refine gr rfl (r_ia (ot rfl) (ot rfl) i38) (g_do rfl rfl rfl (gF (fs_56_0 sp38) rfl rfl (g_do rfl rfl rfl (gr rfl (r_load (ot rfl) (v := .string x38.Key) (lo_e (fun hf kn => ld_field (r := [.string x38.Key, .string x38.Val, .int .i64 x38.Rev]) ag_9 (kn.cellsAt cl38) rfl))) (g_do rfl rfl rfl (gM rfl rfl (g_do rfl rfl rfl (gM rfl rfl (g_do rfl rfl rfl ?_)))))))))
         obtain ⟨q39, row39, i39, cl39, rc39, sp39⟩ := ix (ik := .i64) (cap := c11_0) (E := EE) (((((f11_0.ext e24.kn).ext e28.kn).ext e29.kn).ext e30.kn).ext e32.kn) ((getI_nat _ _).trans hx24) ut_29 sz_56 rfl
         obtain rfl := rc39
         refine gr rfl (r_ia (ot rfl) (ot rfl) i39) (g_do rfl rfl rfl (gF (fs_56_0 sp39) rfl rfl (g_do rfl rfl rfl (gr rfl (r_load (ot rfl) (v := .string z24.Key) (lo_e (fun hf kn => ld_field (r := [.string z24.Key, .string z24.Val, .int .i64 z24.Rev]) ag_9 (kn.cellsAt cl39) rfl))) (g_do rfl rfl rfl (gr rfl (r_bin (ot rfl) (ot rfl) rfl) (g_do rfl rfl rfl (gr rfl (r_pkT (ot rfl) (ot rfl)) ?_))))))))
         obtain rfl := someI hF
         exact Goes.weak (J37 () _ (HExt.refl _) w32 trivial) (Sub.cons (Sub.cons (Sub.cons (Sub.cons (Sub.cons (Sub.cons (Sub.cons (Sub.cons (Sub.cons (Sub.cons (Sub.cons (Sub.cons (Sub.cons (Sub.cons (Sub.cons (Sub.cons (Sub.cons (Sub.cons (Sub.cons (Sub.cons (Sub.cons (Sub.cons (Sub.cons (Sub.cons (Sub.cons (Sub.cons (Sub.cons (Sub.cons (Sub.cons (Sub.cons (Sub.cons (Sub.nil _) rfl) rfl) rfl) rfl) rfl) rfl) rfl) rfl) rfl) rfl) rfl) rfl) rfl) rfl) rfl) rfl) rfl) rfl) rfl) rfl) rfl) rfl) rfl) rfl) rfl) rfl) rfl) rfl) rfl) rfl) rfl)
        ·
         replace hF := ifF hb36 hF
         refine go_re 57 (v2 := .bool false) rfl (congrArg Value.bool hb36) (g_no rfl rfl rfl rfl rfl (g_no rfl rfl rfl rfl rfl (g_no rfl rfl rfl rfl rfl (g_no rfl rfl rfl rfl rfl (g_no rfl rfl rfl rfl rfl (g_no rfl rfl rfl rfl rfl (g_no rfl rfl rfl rfl rfl (g_no rfl rfl rfl rfl rfl (g_no rfl rfl rfl rfl rfl (g_no rfl rfl rfl rfl rfl (g_no rfl rfl rfl rfl rfl (g_no rfl rfl rfl rfl rfl (g_do rfl rfl rfl (gr rfl (r_pkF (ot rfl) (oc rfl)) ?_))))))))))))))
         obtain rfl := someI hF
         exact Goes.weak (J37 () _ (HExt.refl _) w32 trivial) (Sub.cons (Sub.cons (Sub.cons (Sub.cons (Sub.cons (Sub.cons (Sub.cons (Sub.cons (Sub.cons (Sub.cons (Sub.cons (Sub.cons (Sub.cons (Sub.cons (Sub.cons (Sub.cons (Sub.cons (Sub.cons (Sub.cons (Sub.cons (Sub.cons (Sub.cons (Sub.cons (Sub.cons (Sub.cons (Sub.cons (Sub.cons (Sub.cons (Sub.cons (Sub.cons (Sub.cons (Sub.nil _) rfl) rfl) rfl) rfl) rfl) rfl) rfl) rfl) rfl) rfl) rfl) rfl) rfl) rfl) rfl) rfl) rfl) rfl) rfl) rfl) rfl) rfl) rfl) rfl) rfl) rfl) rfl) rfl) rfl) rfl) rfl)
    ·
     rcases Bool.eq_false_or_eq_true ((x30.length : Int) != 1) with hb31 | hb31
     ·
      replace hF := ifT hb31 hF
      refine go_re 44 (v2 := .bool true) rfl (congrArg Value.bool hb31) (g_no rfl rfl rfl rfl rfl (g_no rfl rfl rfl rfl rfl (g_no rfl rfl rfl rfl rfl (g_no rfl rfl rfl rfl rfl (g_no rfl rfl rfl rfl rfl (g_no rfl rfl rfl rfl rfl (g_no rfl rfl rfl rfl rfl (g_no rfl rfl rfl rfl rfl (gr rfl (r_pkT (ot rfl) (oc rfl)) ?_)))))))))
      obtain rfl := someI hF
      exact Goes.weak (J32 () _ (HExt.refl _) w30 trivial) (Sub.cons (Sub.cons (Sub.cons (Sub.cons (Sub.cons (Sub.cons (Sub.cons (Sub.cons (Sub.cons (Sub.cons (Sub.cons (Sub.cons (Sub.cons (Sub.cons (Sub.cons (Sub.cons (Sub.cons (Sub.cons (Sub.cons (Sub.cons (Sub.cons (Sub.cons (Sub.cons (Sub.cons (Sub.cons (Sub.cons (Sub.nil _) rfl) rfl) rfl) rfl) rfl) rfl) rfl) rfl) rfl) rfl) rfl) rfl) rfl) rfl) rfl) rfl) rfl) rfl) rfl) rfl) rfl) rfl) rfl) rfl) rfl) rfl)
     ·
      replace hF := ifF hb31 hF
      refine go_re 44 (v2 := .bool false) rfl (congrArg Value.bool hb31) (g_do rfl rfl rfl (gM rfl rfl (g_do rfl rfl rfl ?_)))
      obtain ⟨x40, hx40, hF⟩ := obind hF
      obtain ⟨q40, row40, i40, cl40, rc40, sp40⟩ := ix (ik := .i64) (cap := c30_0) (E := EE) f30_0 hx40 ut_29 sz_56 rfl
      obtain rfl := rc40
      refine gr rfl (r_ia (ot rfl) (oc rfl) i40) (g_do rfl rfl rfl (gr rfl (r_load (ot rfl) (v := .agg #[.string x40.Key, .string x40.Val, .int .i64 x40.Rev]) (lo_e (fun hf kn => ld_of (r := [.string x40.Key, .string x40.Val, .int .i64 x40.Rev]) ag_56 sz_56 (kn.cellsAt cl40)))) (g_do rfl rfl rfl (gM rfl rfl (g_do rfl rfl rfl (gM rfl rfl (g_do rfl rfl rfl ?_)))))))
      obtain ⟨q41, row41, i41, cl41, rc41, sp41⟩ := ix (ik := .i64) (cap := c11_0) (E := EE) ((((f11_0.ext e24.kn).ext e28.kn).ext e29.kn).ext e30.kn) ((getI_nat _ _).trans hx24) ut_29 sz_56 rfl
      obtain rfl := rc41
      refine gr rfl (r_ia (ot rfl) (ot rfl) i41) (g_do rfl rfl rfl (gr rfl (r_load (ot rfl) (v := .agg #[.string z24.Key, .string z24.Val, .int .i64 z24.Rev]) (lo_e (fun hf kn => ld_of (r := [.string z24.Key, .string z24.Val, .int .i64 z24.Rev]) ag_56 sz_56 (kn.cellsAt cl41)))) (g_do rfl rfl rfl (gr rfl (r_bin (ot rfl) (ot rfl) bn_56) (gr rfl (r_pkF (ot rfl) (ot rfl)) ?_)))))
      obtain rfl := someI hF
      exact Goes.weak (J32 () _ (HExt.refl _) w30 trivial) (Sub.cons (Sub.cons (Sub.cons (Sub.cons (Sub.cons (Sub.cons (Sub.cons (Sub.cons (Sub.cons (Sub.cons (Sub.cons (Sub.cons (Sub.cons (Sub.cons (Sub.cons (Sub.cons (Sub.cons (Sub.cons (Sub.cons (Sub.cons (Sub.cons (Sub.cons (Sub.cons (Sub.cons (Sub.cons (Sub.cons (Sub.nil _) rfl) rfl) rfl) rfl) rfl) rfl) rfl) rfl) rfl) rfl) rfl) rfl) rfl) rfl) rfl) rfl) rfl) rfl) rfl) rfl) rfl) rfl) rfl) rfl) rfl) rfl)
end Go.Proofs.YtndhbaidibioeaaGreat.V
