/- Walks.
   No condition: these are laws of the clean machine and of this program. -/
import Derived.Test.YtndhbaidibioeaaGreatRp
import Derived.Test.YtndhbaidibioeaaGreatCt
import Derived.Test.YtndhbaidibioeaaGreatXm
namespace Go.Proofs.YtndhbaidibioeaaGreat.V
open Go
set_option linter.unusedVariables false
set_option linter.unusedSimpArgs false
set_option maxRecDepth 100000
set_option maxHeartbeats 4000000
theorem s_crowd_Crowd_Idle {h : Heap} (hw : Wf h) (p0 : Ocrowd_Crowd) (p1 : Int) {bp0 : Nat} {z0 : List Blk} {bWT : Nat} (y0 : Zcrowd_Crowd h bWT bp0 z0 p0) {r : Bool × Ocrowd_Crowd} (hF : F_crowd_Crowd_Idle p0 p1 = some r) :
 EvO EE 30 [pt bp0, .int .i64 p1] [z0] h (fun v S h1 => ∃ zy0, v = .bool r.1 ∧ S = [zy0] ∧ Zcrowd_Crowd h1 bWT bp0 zy0 r.2) := by
 unfold F_crowd_Crowd_Idle at hF
 refine evo_of rfl at_30 rfl rfl ?_
 refine go_seq (go_region (gAc rfl rfl (go_nil (go_seq (go_region (gM rfl rfl (gM rfl rfl ?_)))))))
 obtain ⟨b4z_0, t4z_0, q4z_1, t4z_1, rfl, f4z0, f4z1⟩ := y0
 refine gs_unz ?_
 simp only [ca_, na_]
 cases hx3 : getI p0.threads p1 with
 | none =>
  rw [hx3] at hF
  dsimp only at hF
  refine kcX EE_fr hw (.cons .z .nil) rfl of (ops_t rfl (ops_t rfl os0)) hb_64 (s_crowd_thread_bad hw (getI_bad hx3)) ?_
  rintro _ _ h3 e3 w3 ⟨rfl, rfl⟩
  simp only [ca_, na_]
  refine gA rfl rfl (go_nil (go_seq (go_region (gM rfl rfl (gr rfl (r_bin (v := .bool false) (ot rfl) (oc rfl) (by first | rfl | kernel_rfl)) (gM rfl rfl (g_no rfl rfl rfl rfl rfl (g_no rfl rfl rfl rfl rfl (g_no rfl rfl rfl rfl rfl (g_no rfl rfl rfl rfl rfl (g_no rfl rfl rfl rfl rfl (gr rfl (r_pkF (ot rfl) (oc rfl)) (gA rfl rfl (go_nil (gs_pack (fun s => Zcrowd_Crowd h3 bWT bp0 s p0) (.cons .z (.cons .z (.cons .z .nil))) ⟨_, _, _, _, rfl, (f4z0.ext e3.kn), (f4z1.ext e3.kn)⟩ fun z5p y5p => ?_)))))))))))))))
  obtain rfl := someI hF
  exact g_retO (rst rfl rs0) (.cons .z .nil) e3 w3 (nd1 y5p.nd nd0) ⟨_, rfl, rfl, y5p⟩
 | some x3 =>
  rw [hx3] at hF
  dsimp only at hF
  refine gs_front (.s (.z)) (gs_thr f4z0 hx3 fun rs3 q3 s3 t3 hw3 hz3 hi3 hd3 hb3 o3 r3 => (kcX EE_fr hw (.cons (.s (.s (.s (.z)))) .nil) rfl of (ops_t rfl (ops_t rfl os0)) hb_64 (s_crowd_thread_ok hw hz3 hi3) ?_))
  rintro _ _ h3 e3 w3 ⟨rfl, rfl⟩
  simp only [ca_, na_]
  refine gA rfl rfl (go_nil (go_seq (go_region (gM rfl rfl (gr rfl (r_bin (v := .bool true) (ot rfl) (oc rfl) (by first | rfl | kernel_rfl)) (gM rfl rfl (g_do rfl rfl rfl (gM rfl rfl (g_do rfl rfl rfl (gN rfl rfl (g_do rfl rfl rfl (gF (fa_118_1 _ _) rfl rfl (g_do rfl rfl rfl (gr rfl (r_load (ot rfl) (lm_s (mem_seg 1 rfl) ag_3 (acc_cell (j := 1) hd3 rfl))) (g_do rfl rfl rfl (gr rfl (r_bin (ot rfl) (oc rfl) rfl) (gr rfl (r_pkT (ot rfl) (ot rfl)) (gA rfl rfl (go_nil (gs_pack (fun s => PO (ORbst_Call_2 bWT) 118 h3 b4z_0 s (setI p0.threads p1 ⟨x3.call, x3.at_⟩)) (.cons (.s (.z)) (.cons (.s (.z)) (.cons (.s (.z)) .nil))) (PO.shut (r3.ext e3.kn) hw3 (o3.ext e3.kn)) fun t6q y6q => ?_))))))))))))))))))))
  refine gs_retell (segs' := [t6q, [⟨bp0, .cells [.slice (some ⟨b4z_0, 0, none⟩) (setI p0.threads p1 ⟨x3.call, x3.at_⟩).length (setI p0.threads p1 ⟨x3.call, x3.at_⟩).length, .slice q4z_1 p0.calls.length p0.calls.length, .int .i64 p0.clock] 122⟩], t4z_1]) (by first | (simp only [setI_len]; done) | (simp only [setI_len]; rfl)) ?_
  refine gs_pack (fun s => Zcrowd_Crowd h3 bWT bp0 s (⟨(setI p0.threads p1 ⟨x3.call, x3.at_⟩), p0.calls, p0.clock⟩ : Ocrowd_Crowd)) (.cons (.s (.z)) (.cons .z (.cons .z .nil))) ⟨_, _, _, _, rfl, y6q, (f4z1.ext e3.kn)⟩ fun z7p y7p => ?_
  obtain rfl := someI hF
  exact g_retO (rst rfl rs0) (.cons .z .nil) e3 w3 (nd1 y7p.nd nd0) ⟨_, rfl, rfl, y7p⟩
theorem s_crowd_Crowd_Calls {h : Heap} (hw : Wf h) (p0 : Ocrowd_Crowd) {bp0 : Nat} {z0 : List Blk} {bWT : Nat} (y0 : Zcrowd_Crowd h bWT bp0 z0 p0) {r : (List Torder_Call) × Ocrowd_Crowd} (hF : F_crowd_Crowd_Calls p0 = some r) :
 EvO EE 33 [pt bp0] [z0] h (fun v S h1 => ∃ zy0 a0 c0, v = .slice a0 r.1.length c0 ∧ S = [zy0] ∧ Zcrowd_Crowd h1 bWT bp0 zy0 r.2 ∧ RL R_Torder_Call h1 a0 c0 r.1) := by
 unfold F_crowd_Crowd_Calls at hF
 refine evo_of rfl at_33 rfl rfl ?_
 refine go_seq (go_region (gAc rfl rfl (go_nil (go_seq (go_seq (go_region (gM rfl rfl (gr rfl (r_bin (v := .bool false) (ot rfl) (oc rfl) (by first | rfl | kernel_rfl)) (go_nil ?_)))))))))
 refine g_cond (b := false) (ot rfl) (fun hc2 => ?_) (fun hc2 => ?_)
 ·
  cases hc2
 refine go_skip (go_seq (go_region (gM rfl rfl (gN rfl rfl (gF (fa_122_1 _ _) rfl rfl ?_)))))
 obtain ⟨b3z_0, t3z_0, q3z_1, t3z_1, rfl, f3z0, f3z1⟩ := y0
 refine gs_unz ?_
 simp only [ca_, na_]
 refine gls 0 ag_74 rfl rfl rfl rfl ?_
 obtain ⟨x4, hx4, hF⟩ := obind hF
 refine kcX EE_fr hw (.cons (.s (.s (.z))) .nil) rfl of (ops_t rfl os0) hb_67 (evo_cloneA_67 hw f3z1 hx4) ?_
 rintro _ _ h4 e4 w4 ⟨q4, t4, rfl, rfl, f4_, fo4_⟩
 simp only [ca_, na_]
 refine gA rfl rfl (go_nil ?_)
 refine gs_accpub .z f4_ (fun h5 e5 w5 f5_ => ?_) rfl
 refine gs_pack (fun s => Zcrowd_Crowd h5 bWT bp0 s p0) (.cons (.s (.z)) (.cons (.s (.z)) (.cons .z .nil))) ⟨_, _, _, _, rfl, ((f3z0.ext e4.kn).ext e5.kn), (fo4_.ext e5.kn)⟩ fun z6p y6p => ?_
 obtain rfl := someI hF
 exact g_retO (rst rfl rs0) (.cons .z .nil) (e4.trans e5) w5 (nd1 y6p.nd nd0) ⟨_, _, _, rfl, rfl, y6p, f5_⟩
theorem s_crowd_Crowd_note {h : Heap} (hw : Wf h) (p0 : Ocrowd_Crowd) (p1 : (List Torder_Call)) {bp0 : Nat} {z0 : List Blk} {a1_0 : Option Addr} {c1_0 : Nat} {bWT : Nat} (y0 : Zcrowd_Crowd h bWT bp0 z0 p0) (f1_0 : RL R_Torder_Call h a1_0 c1_0 p1) {r : Ocrowd_Crowd} (hF : F_crowd_Crowd_note p0 p1 = some r) :
 EvO EE 95 [pt bp0, .slice a1_0 p1.length c1_0] [z0] h (fun v S h1 => ∃ zy0, v = .tuple #[] ∧ S = [zy0] ∧ Zcrowd_Crowd h1 bWT bp0 zy0 r) := by
 unfold F_crowd_Crowd_note at hF
 refine evo_of rfl at_95 rfl rfl ?_
 refine go_region (gM rfl rfl (gM rfl rfl (gN rfl rfl (gF (fa_122_1 _ _) rfl rfl ?_))))
 obtain ⟨b3z_0, t3z_0, q3z_1, t3z_1, rfl, f3z0, f3z1⟩ := y0
 refine gs_unz ?_
 simp only [ca_, na_]
 refine gls 0 ag_74 rfl rfl rfl rfl (gM rfl rfl ?_)
 obtain ⟨x4, hx4, hF⟩ := obind hF
 obtain ⟨hr4, hz4_⟩ := appL_some hx4; subst x4
 refine gs_front (.s (.s (.z))) ?_
 obtain ⟨rw4, hw4, hq4⟩ := RL.first f1_0 (by decide)
 refine gs_app (rows2 := rw4) (R := R_Torder_Call) rfl (os1 (ot rfl) (os1 (ot rfl) os0)) rfl ut_74 sz_76 rfl (by decide) by_76 zo_76 rfl zs_74_74 rfl rfl (first_e hq4 (fun h' kn => kn.firstV hq4)) hw4 f3z1 hr4 (fun p4_ tl4 f4_ => gN rfl rfl (gF (fa_122_1 _ _) rfl rfl (gs_store (ot rfl) (ot rfl) sz_74 rfl rfl rfl rfl rfl (.s (.z)) (go_nil (gs_pack (fun s => Zcrowd_Crowd h bWT bp0 s (⟨p0.threads, (p0.calls ++ p1), p0.clock⟩ : Ocrowd_Crowd)) (.cons (.s (.z)) (.cons (.s (.z)) (.cons .z .nil))) ⟨_, _, _, _, rfl, f3z0, f4_⟩ fun z5p y5p => ?_)))))
 obtain rfl := someI hF
 exact g_endO rs0 (.cons .z .nil) (HExt.refl _) hw (nd1 y5p.nd nd0) ⟨_, rfl, rfl, y5p⟩
theorem s_crowd_Crowd_Begin {h : Heap} (hw : Wf h) (p0 : Ocrowd_Crowd) (p1 : Int) (p2 : Obst_Call_2) (p3 : Int) (p4 : ByteArray) {bp0 : Nat} {z0 : List Blk} {bp2 : Nat} {z2 : List Blk} {bWT : Nat} (y0 : Zcrowd_Crowd h bWT bp0 z0 p0) (y2 : Zbst_Call_2 h bWT bp2 z2 p2) {r : Int × Ocrowd_Crowd} (hF : F_crowd_Crowd_Begin p0 p1 p2 p3 p4 = some r) :
 EvO EE 58 [pt bp0, .int .i64 p1, pt bp2, .int .i64 p3, .string p4] [z0, z2] h (fun v S h1 => ∃ zy0, v = .int .i64 r.1 ∧ S = [zy0] ∧ Zcrowd_Crowd h1 bWT bp0 zy0 r.2) := by
 unfold F_crowd_Crowd_Begin at hF
 refine evo_of rfl at_58 rfl rfl ?_
 refine go_seq (go_region (gAc rfl rfl (go_nil (go_seq (go_region (gM rfl rfl (gM rfl rfl ?_)))))))
 obtain ⟨b7z_0, t7z_0, q7z_1, t7z_1, rfl, f7z0, f7z1⟩ := y0
 refine gs_unz ?_
 simp only [ca_, na_]
 cases hx6 : getI p0.threads p1 with
 | none =>
  rw [hx6] at hF
  dsimp only at hF
  refine kcX EE_fr hw (.cons .z .nil) rfl of (ops_t rfl (ops_t rfl os0)) hb_64 (s_crowd_thread_bad hw (getI_bad hx6)) ?_
  rintro _ _ h6 e6 w6 ⟨rfl, rfl⟩
  simp only [ca_, na_]
  refine gA rfl rfl (go_nil (go_seq (go_block (go_seq (go_region (gM rfl rfl (gr rfl (r_bin (v := .bool true) (ot rfl) (oc rfl) (by first | rfl | kernel_rfl)) (gM rfl rfl (g_no rfl rfl rfl rfl rfl (g_no rfl rfl rfl rfl rfl (gr rfl (r_pkT (ot rfl) (oc rfl)) (gA rfl rfl (go_nil ?_)))))))))))))
  refine g_cond (b := true) (ot rfl) (fun hc8 => ?_) (fun hc8 => ?_)
  rotate_left
  ·
   cases hc8
  refine go_seq (go_region (gAc rfl rfl (go_nil (gs_pack (fun s => Zcrowd_Crowd h6 bWT bp0 s p0) (.cons .z (.cons .z (.cons .z .nil))) ⟨_, _, _, _, rfl, (f7z0.ext e6.kn), (f7z1.ext e6.kn)⟩ fun z9p y9p => ?_))))
  obtain rfl := someI hF
  exact g_retO (rst rfl rs0) (.cons .z .nil) e6 w6 (nd1 y9p.nd nd0) ⟨_, rfl, rfl, y9p⟩
 | some x6 =>
  rw [hx6] at hF
  dsimp only at hF
  refine gs_front (.s (.z)) (gs_thr f7z0 hx6 fun rs6 q6 s6 t6 hw6 hz6 hi6 hd6 hb6 o6 r6 => (kcX EE_fr hw (.cons (.s (.s (.s (.z)))) .nil) rfl of (ops_t rfl (ops_t rfl os0)) hb_64 (s_crowd_thread_ok hw hz6 hi6) ?_))
  rintro _ _ h6 e6 w6 ⟨rfl, rfl⟩
  simp only [ca_, na_]
  refine gA rfl rfl (go_nil (go_seq (go_block (go_seq (go_region (gM rfl rfl (gr rfl (r_bin (v := .bool false) (ot rfl) (oc rfl) (by first | rfl | kernel_rfl)) (gM rfl rfl (g_do rfl rfl rfl (gM rfl rfl (g_do rfl rfl rfl (gr rfl (r_bin (v := .bool false) (ot rfl) (oc rfl) (by first | rfl | kernel_rfl)) (gr rfl (r_pkF (ot rfl) (ot rfl)) (gA rfl rfl (go_nil ?_)))))))))))))))
  refine g_cond (b := false) (ot rfl) (fun hc10 => ?_) (fun hc10 => ?_)
  ·
   cases hc10
  refine go_seq (go_region (gM rfl rfl (gN rfl rfl (gF (fa_118_1 _ _) rfl rfl (gr rfl (r_load (ot rfl) (lm_s (mem_seg 1 rfl) ag_3 (acc_cell (j := 1) hd6 rfl))) (gr rfl (r_bin (ot rfl) (oc rfl) rfl) (gA rfl rfl (go_nil ?_))))))))
  refine g_cond (b := (decide (x6.at_ ≥ 0))) (ot rfl) (fun hc11 => ?_) (fun hc11 => ?_)
  ·
   replace hF := ifT hc11 hF
   refine go_seq (go_region (gAc rfl rfl (go_nil (gs_pack (fun s => PO (ORbst_Call_2 bWT) 118 h6 b7z_0 s (setI p0.threads p1 ⟨x6.call, x6.at_⟩)) (.cons (.s (.z)) (.cons (.s (.z)) (.cons (.s (.z)) .nil))) (PO.shut (r6.ext e6.kn) hw6 (o6.ext e6.kn)) fun t12q y12q => ?_))))
   refine gs_retell (segs' := [t12q, [⟨bp0, .cells [.slice (some ⟨b7z_0, 0, none⟩) (setI p0.threads p1 ⟨x6.call, x6.at_⟩).length (setI p0.threads p1 ⟨x6.call, x6.at_⟩).length, .slice q7z_1 p0.calls.length p0.calls.length, .int .i64 p0.clock] 122⟩], t7z_1, z2]) (by first | (simp only [setI_len]; done) | (simp only [setI_len]; rfl)) ?_
   refine gs_pack (fun s => Zcrowd_Crowd h6 bWT bp0 s (⟨(setI p0.threads p1 ⟨x6.call, x6.at_⟩), p0.calls, p0.clock⟩ : Ocrowd_Crowd)) (.cons (.s (.z)) (.cons .z (.cons .z .nil))) ⟨_, _, _, _, rfl, y12q, (f7z1.ext e6.kn)⟩ fun z13p y13p => ?_
   obtain rfl := someI hF
   exact g_retO (rst rfl rs0) (.cons .z .nil) e6 w6 (nd1 y13p.nd nd0) ⟨_, rfl, rfl, y13p⟩
  ·
   replace hF := ifF hc11 hF
   refine go_skip (go_endb (go_seq (go_region (gM rfl rfl (gM rfl rfl (gM rfl rfl (gN rfl rfl (gF (fa_122_1 _ _) rfl rfl (gls 0 ag_74 rfl rfl rfl rfl (gr rfl (r_len rfl (os1 (ot rfl) os0) (fun _ _ => ln_74)) (gr rfl (r_build (op1 (ot rfl) (op1 (ot rfl) op0)) rfl) (gN rfl rfl (gs_store (vs := [pt bp2, .int .i64 (p0.calls.length : Int)]) (cs' := ((rs6.map Rw.c).set p1.toNat [pt bp2, .int .i64 (p0.calls.length : Int)]).flatten) (ot rfl) (ot rfl) sz_118 rfl rfl (acc_ble (j := 0) (m := 2) hb6 (by decide)) rfl (flat_splice_part (j := 0) _ _ (rw_k _) hw6 (Nat.le_of_ble_eq_true rfl)) (.s (.z)) (go_nil (go_seq (go_region (gM rfl rfl (gM rfl rfl (gM rfl rfl (gM rfl rfl (gN rfl rfl (gF (fa_122_2 _ _) rfl rfl (gls 0 ag_3 rfl rfl rfl rfl ?_)))))))))))))))))))))))
   refine gr rfl (r_build (op1 (ot rfl) (op1 (ot rfl) (op1 (ot rfl) (op1 (oc rfl) op0)))) rfl) (gs_bslice (cs := [.int .i64 p3, .string p4, .bool false, .int .i64 p0.clock, .int .i64 (-1)]) rfl (op1 (ot rfl) op0) ut_74 sz_76 zo_76 rfl rfl (fun b45_15 => gs_pub .z (fun h17 e17 w17 hb17 => ?_)))
   have f17_ : RL R_Torder_Call h17 (some ⟨b45_15, 0, none⟩) 1 ([(⟨p3, p4, false, p0.clock, (-1)⟩ : Torder_Call)] : List Torder_Call) := RL.of_blk (R := R_Torder_Call) (rows := [[.int .i64 p3, .string p4, .bool false, .int .i64 p0.clock, .int .i64 (-1)]]) (.inl rfl) hb17 rfl (Rws.cons (x := (⟨p3, p4, false, p0.clock, (-1)⟩ : Torder_Call)) rfl Rws.nil) (by simp) (by simp) rfl
   refine gs_pack (fun s => PO (ORbst_Call_2 bWT) 118 h17 b7z_0 s (setI p0.threads p1 ⟨(some p2), (p0.calls.length : Int)⟩)) (.cons (.s (.z)) (.cons (.s (.s (.s (.s (.z))))) (.cons (.s (.s (.z))) .nil))) (PO.close ((r6.ext e6.kn).ext e17.kn) (OO.mk ((y2.ext e6.kn).ext e17.kn))) fun t18q y18q => ?_
   refine gs_retell (segs' := [t18q, [⟨bp0, .cells [.slice (some ⟨b7z_0, 0, none⟩) (setI p0.threads p1 ⟨(some p2), (p0.calls.length : Int)⟩).length (setI p0.threads p1 ⟨(some p2), (p0.calls.length : Int)⟩).length, .slice q7z_1 p0.calls.length p0.calls.length, .int .i64 p0.clock] 122⟩], s6, t7z_1]) (by first | (simp only [setI_len]; done) | (simp only [setI_len]; rfl)) ?_
   refine gs_pack (fun s => Zcrowd_Crowd h17 bWT bp0 s (⟨(setI p0.threads p1 ⟨(some p2), (p0.calls.length : Int)⟩), p0.calls, p0.clock⟩ : Ocrowd_Crowd)) (.cons (.s (.z)) (.cons .z (.cons (.s (.z)) .nil))) ⟨_, _, _, _, rfl, y18q, ((f7z1.ext e6.kn).ext e17.kn)⟩ fun z19p y19p => ?_
   obtain ⟨x16, hx16, hF⟩ := obind hF
   refine kcX EE_fr w17 (.cons .z .nil) rfl of (ops_t rfl (ops_t rfl os0)) hb_95 (s_crowd_Crowd_note (bWT := bWT) w17 (⟨(setI p0.threads p1 ⟨(some p2), (p0.calls.length : Int)⟩), p0.calls, p0.clock⟩ : Ocrowd_Crowd) ([(⟨p3, p4, false, p0.clock, (-1)⟩ : Torder_Call)] : List Torder_Call) y19p f17_ hx16) ?_
   rintro _ _ h16 e16 w16 ⟨z16_y0, rfl, rfl, f16_0⟩
   simp only [ca_, na_]
   refine go_nil (go_seq (go_region (gM rfl rfl (gN rfl rfl (gF (fa_122_2 _ _) rfl rfl ?_)))))
   obtain ⟨b20z_0, t20z_0, q20z_1, t20z_1, rfl, f20z0, f20z1⟩ := f16_0
   refine gs_unz ?_
   simp only [ca_, na_]
   refine gls 0 ag_3 rfl rfl rfl rfl (gr rfl (r_bin (ot rfl) (oc rfl) rfl) (gN rfl rfl (gF (fa_122_2 _ _) rfl rfl (gs_store (ot rfl) (ot rfl) sz_3 rfl rfl rfl rfl rfl .z (go_nil (go_seq (go_region (gAc rfl rfl (go_nil (gs_pack (fun s => Zcrowd_Crowd h16 bWT bp0 s (⟨x16.threads, x16.calls, (IntKind.i64.wrap (x16.clock + 1))⟩ : Ocrowd_Crowd)) (.cons .z (.cons .z (.cons .z .nil))) ⟨_, _, _, _, rfl, f20z0, f20z1⟩ fun z21p y21p => ?_))))))))))
   obtain rfl := someI hF
   exact g_retO (rst rfl rs0) (.cons .z .nil) (e6.trans (e17.trans e16)) w16 (nd1 y21p.nd nd0) ⟨_, rfl, rfl, y21p⟩
theorem s_crowd_Crowd_Pick (n : Nat) {h : Heap} (hw : Wf h) (p0 : Obst_Tree) (p0o0 : Omem_Mem) (p1 : Ocrowd_Crowd) (p2 : Int) {bp0 bp0_1 : Nat} {z0 : List Blk} {bp1 : Nat} {z1 : List Blk} (y0 : Zbst_Tree h bp0 bp0_1 z0 p0 p0o0) (y1 : Zcrowd_Crowd h bp0 bp1 z1 p1) {r : Bool × Obst_Tree × Omem_Mem × Ocrowd_Crowd} (hF : F_crowd_Crowd_Pick n p0 p0o0 p1 p2 = some r) :
 EvO EE 31 [pt bp1, .int .i64 p2] [z0, z1] h (fun v S h1 => ∃ zy0 zy1, v = .bool r.1 ∧ S = [zy0, zy1] ∧ Zbst_Tree h1 bp0 bp0_1 zy0 r.2.1 r.2.2.1 ∧ Zcrowd_Crowd h1 bp0 bp1 zy1 r.2.2.2) := by
 unfold F_crowd_Crowd_Pick at hF
 refine evo_of rfl at_31 rfl rfl ?_
 refine go_seq (go_region (gAc rfl rfl (go_nil (go_seq (go_region (gM rfl rfl (gM rfl rfl (gs_front (.s (.z)) ?_))))))))
 obtain ⟨b5z_0, t5z_0, q5z_1, t5z_1, rfl, f5z0, f5z1⟩ := y1
 refine gs_unz ?_
 simp only [ca_, na_]
 cases hx4 : getI p1.threads p2 with
 | none =>
  rw [hx4] at hF
  dsimp only at hF
  refine kcX EE_fr hw (.cons .z .nil) rfl of (ops_t rfl (ops_t rfl os0)) hb_64 (s_crowd_thread_bad hw (getI_bad hx4)) ?_
  rintro _ _ h4 e4 w4 ⟨rfl, rfl⟩
  simp only [ca_, na_]
  refine gA rfl rfl (go_nil (go_seq (go_seq (go_region (gM rfl rfl (gr rfl (r_bin (v := .bool true) (ot rfl) (oc rfl) (by first | rfl | kernel_rfl)) (gM rfl rfl (g_no rfl rfl rfl rfl rfl (g_no rfl rfl rfl rfl rfl (g_no rfl rfl rfl rfl rfl (g_no rfl rfl rfl rfl rfl (g_no rfl rfl rfl rfl rfl (gr rfl (r_pkT (ot rfl) (oc rfl)) (go_nil ?_))))))))))))))
  refine g_cond (b := true) (ot rfl) (fun hc6 => ?_) (fun hc6 => ?_)
  rotate_left
  ·
   cases hc6
  refine go_seq (go_region (gAc rfl rfl (go_nil (gs_pack (fun s => Zcrowd_Crowd h4 bp0 bp1 s p1) (.cons .z (.cons .z (.cons .z .nil))) ⟨_, _, _, _, rfl, (f5z0.ext e4.kn), (f5z1.ext e4.kn)⟩ fun z7p y7p => ?_))))
  obtain rfl := someI hF
  exact g_retO (rst rfl rs0) (.cons (.s (.z)) (.cons .z .nil)) e4 w4 (nd1 (y0.ext e4.kn).nd (nd1 y7p.nd nd0)) ⟨_, _, rfl, rfl, (y0.ext e4.kn), y7p⟩
 | some x4 =>
  rw [hx4] at hF
  dsimp only at hF
  refine gs_front (.s (.z)) (gs_thr f5z0 hx4 fun rs4 q4 s4 t4 hw4 hz4 hi4 hd4 hb4 o4 r4 => (kcX EE_fr hw (.cons (.s (.s (.s (.z)))) .nil) rfl of (ops_t rfl (ops_t rfl os0)) hb_64 (s_crowd_thread_ok hw hz4 hi4) ?_))
  rintro _ _ h4 e4 w4 ⟨rfl, rfl⟩
  simp only [ca_, na_]
  refine gA rfl rfl (go_nil (go_seq (go_seq (go_region (gM rfl rfl (gr rfl (r_bin (v := .bool false) (ot rfl) (oc rfl) (by first | rfl | kernel_rfl)) (gM rfl rfl (g_do rfl rfl rfl (gM rfl rfl (g_do rfl rfl rfl (gN rfl rfl (g_do rfl rfl rfl (gF (fa_118_1 _ _) rfl rfl (g_do rfl rfl rfl (gr rfl (r_load (ot rfl) (lm_s (mem_seg 1 rfl) ag_3 (acc_cell (j := 1) hd4 rfl))) (g_do rfl rfl rfl (gr rfl (r_bin (ot rfl) (oc rfl) rfl) (gr rfl (r_pkF (ot rfl) (ot rfl)) (go_nil ?_)))))))))))))))))))
  refine g_cond (b := (decide (x4.at_ < 0))) (ot rfl) (fun hc8 => ?_) (fun hc8 => ?_)
  ·
   replace hF := ifT hc8 hF
   refine go_seq (go_region (gAc rfl rfl (go_nil (gs_pack (fun s => PO (ORbst_Call_2 bp0) 118 h4 b5z_0 s (setI p1.threads p2 ⟨x4.call, x4.at_⟩)) (.cons (.s (.z)) (.cons (.s (.z)) (.cons (.s (.z)) .nil))) (PO.shut (r4.ext e4.kn) hw4 (o4.ext e4.kn)) fun t9q y9q => ?_))))
   refine gs_retell (segs' := [t9q, [⟨bp1, .cells [.slice (some ⟨b5z_0, 0, none⟩) (setI p1.threads p2 ⟨x4.call, x4.at_⟩).length (setI p1.threads p2 ⟨x4.call, x4.at_⟩).length, .slice q5z_1 p1.calls.length p1.calls.length, .int .i64 p1.clock] 122⟩], t5z_1, z0]) (by first | (simp only [setI_len]; done) | (simp only [setI_len]; rfl)) ?_
   refine gs_pack (fun s => Zcrowd_Crowd h4 bp0 bp1 s (⟨(setI p1.threads p2 ⟨x4.call, x4.at_⟩), p1.calls, p1.clock⟩ : Ocrowd_Crowd)) (.cons (.s (.z)) (.cons .z (.cons .z .nil))) ⟨_, _, _, _, rfl, y9q, (f5z1.ext e4.kn)⟩ fun z10p y10p => ?_
   obtain rfl := someI hF
   exact g_retO (rst rfl rs0) (.cons (.s (.z)) (.cons .z .nil)) e4 w4 (nd1 (y0.ext e4.kn).nd (nd1 y10p.nd nd0)) ⟨_, _, rfl, rfl, (y0.ext e4.kn), y10p⟩
  ·
   replace hF := ifF hc8 hF
   refine go_skip (go_seq (go_regionq (by kernel_rfl) (gM rfl rfl (gN rfl rfl (gF (fa_118_0 _ _) rfl rfl ?_)))))
   obtain ⟨x11, hx11, hF⟩ := obind hF
   obtain ⟨bt11, rfl, yt11⟩ := OO.get (o4.ext e4.kn) hx11
   replace yt11 : Zbst_Call_2 h4 bp0 bt11 s4 x11 := yt11
   refine gr rfl (r_load (ot rfl) (lm_s (mem_seg 1 rfl) ag_85 (acc_cell (j := 0) hd4 rfl))) (gr rfl (r_func (os1 (ot rfl) os0) os0) (gM rfl rfl (gN rfl rfl (gF (fa_118_0 _ _) rfl rfl (gr rfl (r_load (ot rfl) (lm_s (mem_seg 1 rfl) ag_85 (acc_cell (j := 0) hd4 rfl))) (gr rfl (r_func (os1 (ot rfl) os0) os0) (gA rfl rfl (gA rfl rfl (go_nil (go_seq (go_seq (go_region (gM rfl rfl ?_)))))))))))))
   obtain ⟨x12, hx12, hF⟩ := obind hF
   refine kcX EE_fr w4 (.cons (.s (.s (.s (.s (.s (.z)))))) (.cons (.s (.s (.z))) .nil)) rfl (ot rfl) os0 hb_65 (s_bst_Call_Step n w4 p0 p0o0 x11 (y0.ext e4.kn) yt11 hx12) ?_
   rintro _ _ h12 e12 w12 ⟨z12_y0, z12_y1, rfl, rfl, f12_0, f12_1⟩
   simp only [ca_, na_]
   refine go_nil ?_
   refine g_cond (b := x12.1) (ot rfl) (fun hc13 => ?_) (fun hc13 => ?_)
   ·
    replace hF := ifT hc13 hF
    refine go_seq (go_region (gM rfl rfl ?_))
    obtain ⟨x14, hx14, hF⟩ := obind hF
    refine kcX EE_fr w12 (.cons .z (.cons .z .nil)) rfl (ot rfl) os0 hb_44 (s_bst_Call_Answer w12 x12.2.1 x12.2.2.1 x12.2.2.2 f12_0 f12_1 hx14) ?_
    rintro _ _ h14 e14 w14 ⟨z14_y0, z14_y1, rfl, rfl, f14_0, f14_1⟩
    simp only [ca_, na_]
    refine gM rfl rfl (gE rfl rfl rfl (gE rfl rfl rfl (gs_alloc rfl zo_95 rfl (fun b8_15 => gs_store (ot rfl) (ot rfl) sz_95 rfl rfl rfl rfl rfl .z (gA rfl rfl (go_nil (go_seq (go_seq (go_regionq (by kernel_rfl) (gM rfl rfl (gN rfl rfl (gF (fa_122_1 _ _) rfl rfl (gls 3 ag_74 rfl rfl rfl rfl (gM rfl rfl (gN rfl rfl (gF (fa_118_1 _ _) rfl rfl (gr rfl (r_load (ot rfl) (lm_s (mem_seg 4 rfl) ag_3 (acc_cell (j := 1) hd4 rfl))) ?_)))))))))))))))))
    obtain ⟨x16, hx16, hF⟩ := obind hF
    obtain ⟨bb16, rw16, row16, hp16, ht16, hR16, hw16, rc16, hz16, hi16, hd16, hb16, hl16⟩ := AccR.at_ (((f5z1.ext e4.kn).ext e12.kn).ext e14.kn) hx16
    have hF16_ := hF
    subst hp16; subst ht16
    replace hF := hF16_
    obtain rfl := rc16
    refine gr rfl (r_ia (ot rfl) (ot rfl) (ia_acc (k := 5) ut_74 sz_76 hz16 hi16)) (gA rfl rfl (go_nil (go_seq (go_region (gF (fa_95_3 _ _) rfl rfl (gls 0 ag_45 rfl rfl rfl rfl (gr rfl (r_bin (ot rfl) (oc rfl) rfl) (go_nil ?_))))))))
    refine g_cond (b := (x14.1.Err == 0)) (ot rfl) (fun hc17 => ?_) (fun hc17 => ?_)
    ·
     replace hF := ifT hc17 hF
     refine go_regions (L := sq 0 14) (by kernel_rfl) (by kernel_rfl) (fun _ => rfl) (go_sop rfl rfl (gM rfl rfl (go_nil (go_sop rfl rfl (gM rfl rfl (go_nil (go_sop rfl rfl (gF (fa_95_0 _ _) rfl rfl (go_nil (go_sop rfl rfl (gls 0 ag_4 rfl rfl rfl rfl (go_nil (go_sop rfl rfl (gM rfl rfl (go_nil (go_sop rfl rfl (gN rfl rfl (go_nil (go_sop rfl rfl (gF (fa_122_2 _ _) rfl rfl (go_nil (go_sop rfl rfl (gls 3 ag_3 rfl rfl rfl rfl ?_)))))))))))))))))))))))
     refine go_nil (go_sop rfl rfl (gN rfl rfl (go_nil (go_sop rfl rfl (gF (fa_76_2 _ _) rfl rfl (go_nil (go_sop rfl rfl ?_)))))))
     have hc18 : R_Torder_Call.C h14 [.int .i64 x16.Kind, .string x16.Key, .bool x14.1.Ok, .int .i64 x16.Inv, .int .i64 x16.Ret] (⟨x16.Kind, x16.Key, x14.1.Ok, x16.Inv, x16.Ret⟩ : Torder_Call) := rfl
     have hR18 : Rws R_Torder_Call h14 (rw16.set x4.at_.toNat [.int .i64 x16.Kind, .string x16.Key, .bool x14.1.Ok, .int .i64 x16.Inv, .int .i64 x16.Ret]) (setI p1.calls x4.at_ (⟨x16.Kind, x16.Key, x14.1.Ok, x16.Inv, x16.Ret⟩ : Torder_Call)) := Rws.set hR16 hc18 _
     have hq18 := (List.getElem?_eq_some_iff.mp hw16).1
     have hl18 : (setI p1.calls x4.at_ (⟨x16.Kind, x16.Key, x14.1.Ok, x16.Inv, x16.Ret⟩ : Torder_Call)).length < 9223372036854775808 := by rw [setI_len]; exact hl16
     have f18_ : AccR R_Torder_Call 76 h14 [⟨bb16, .cells (rw16.set x4.at_.toNat [.int .i64 x16.Kind, .string x16.Key, .bool x14.1.Ok, .int .i64 x16.Inv, .int .i64 x16.Ret]).flatten 76⟩] (.slice (some ⟨bb16, 0, some 0⟩) (setI p1.calls x4.at_ (⟨x16.Kind, x16.Key, x14.1.Ok, x16.Inv, x16.Ret⟩ : Torder_Call)).length (setI p1.calls x4.at_ (⟨x16.Kind, x16.Key, x14.1.Ok, x16.Inv, x16.Ret⟩ : Torder_Call)).length) (setI p1.calls x4.at_ (⟨x16.Kind, x16.Key, x14.1.Ok, x16.Inv, x16.Ret⟩ : Torder_Call)) := AccR.set_ hl16 hR16 rfl hc18
     obtain ⟨hd18, hb18⟩ := flat_at_set (row' := [.int .i64 x16.Kind, .string x16.Key, .bool x14.1.Ok, .int .i64 x16.Inv, .int .i64 x16.Ret]) hR16.k hq18 rfl
     have hw18 : (rw16.set x4.at_.toNat [.int .i64 x16.Kind, .string x16.Key, .bool x14.1.Ok, .int .i64 x16.Inv, .int .i64 x16.Ret])[x4.at_.toNat]? = some [.int .i64 x16.Kind, .string x16.Key, .bool x14.1.Ok, .int .i64 x16.Inv, .int .i64 x16.Ret] := List.getElem?_set_self hq18
     refine gs_store (vs := [.bool x14.1.Ok]) (cs' := (rw16.set x4.at_.toNat [.int .i64 x16.Kind, .string x16.Key, .bool x14.1.Ok, .int .i64 x16.Inv, .int .i64 x16.Ret]).flatten) (ot rfl) (ot rfl) sz_4 rfl rfl (acc_ble (j := 2) (m := 1) hb16 (by decide)) rfl (flat_splice_part (j := 2) _ _ hR16.k hw16 (Nat.le_of_ble_eq_true rfl)) (.s (.s (.s (.s (.s (.s (.z))))))) (go_re 43 (v2 := .slice (some ⟨bb16, 0, some 0⟩) (setI p1.calls x4.at_ (⟨x16.Kind, x16.Key, x14.1.Ok, x16.Inv, x16.Ret⟩ : Torder_Call)).length (setI p1.calls x4.at_ (⟨x16.Kind, x16.Key, x14.1.Ok, x16.Inv, x16.Ret⟩ : Torder_Call)).length) rfl (by first | (simp only [setI_len]; done) | (simp only [setI_len]; rfl)) ?_)
     refine gs_retell (segs' := [[⟨b8_15, .cells [.bool x14.1.Ok, .string x14.1.Key, .int .u64 x14.1.Val, .int .i64 x14.1.Err] 95⟩], z14_y0, z14_y1, [⟨bp1, .cells [.slice (some ⟨b5z_0, 0, none⟩) p1.threads.length p1.threads.length, .slice (some ⟨bb16, 0, some 0⟩) (setI p1.calls x4.at_ (⟨x16.Kind, x16.Key, x14.1.Ok, x16.Inv, x16.Ret⟩ : Torder_Call)).length (setI p1.calls x4.at_ (⟨x16.Kind, x16.Key, x14.1.Ok, x16.Inv, x16.Ret⟩ : Torder_Call)).length, .int .i64 p1.clock] 122⟩], [⟨b5z_0, .cells (rs4.map Rw.c).flatten 118⟩], t4, [⟨bb16, .cells (rw16.set x4.at_.toNat [.int .i64 x16.Kind, .string x16.Key, .bool x14.1.Ok, .int .i64 x16.Inv, .int .i64 x16.Ret]).flatten 76⟩]]) (by first | (simp only [setI_len]; done) | (simp only [setI_len]; rfl)) ?_
     refine go_nil (go_sop rfl rfl (gN rfl rfl (go_nil (go_sop rfl rfl (gF (fa_76_4 _ _) rfl rfl (go_nil (go_sop rfl rfl ?_)))))))
     have hc19 : R_Torder_Call.C h14 [.int .i64 x16.Kind, .string x16.Key, .bool x14.1.Ok, .int .i64 x16.Inv, .int .i64 p1.clock] (⟨x16.Kind, x16.Key, x14.1.Ok, x16.Inv, p1.clock⟩ : Torder_Call) := rfl
     have hR19 : Rws R_Torder_Call h14 ((rw16.set x4.at_.toNat [.int .i64 x16.Kind, .string x16.Key, .bool x14.1.Ok, .int .i64 x16.Inv, .int .i64 x16.Ret]).set x4.at_.toNat [.int .i64 x16.Kind, .string x16.Key, .bool x14.1.Ok, .int .i64 x16.Inv, .int .i64 p1.clock]) (setI (setI p1.calls x4.at_ (⟨x16.Kind, x16.Key, x14.1.Ok, x16.Inv, x16.Ret⟩ : Torder_Call)) x4.at_ (⟨x16.Kind, x16.Key, x14.1.Ok, x16.Inv, p1.clock⟩ : Torder_Call)) := Rws.set hR18 hc19 _
     have hq19 := (List.getElem?_eq_some_iff.mp hw18).1
     have hl19 : (setI (setI p1.calls x4.at_ (⟨x16.Kind, x16.Key, x14.1.Ok, x16.Inv, x16.Ret⟩ : Torder_Call)) x4.at_ (⟨x16.Kind, x16.Key, x14.1.Ok, x16.Inv, p1.clock⟩ : Torder_Call)).length < 9223372036854775808 := by rw [setI_len]; exact hl18
     have f19_ : AccR R_Torder_Call 76 h14 [⟨bb16, .cells ((rw16.set x4.at_.toNat [.int .i64 x16.Kind, .string x16.Key, .bool x14.1.Ok, .int .i64 x16.Inv, .int .i64 x16.Ret]).set x4.at_.toNat [.int .i64 x16.Kind, .string x16.Key, .bool x14.1.Ok, .int .i64 x16.Inv, .int .i64 p1.clock]).flatten 76⟩] (.slice (some ⟨bb16, 0, some 0⟩) (setI (setI p1.calls x4.at_ (⟨x16.Kind, x16.Key, x14.1.Ok, x16.Inv, x16.Ret⟩ : Torder_Call)) x4.at_ (⟨x16.Kind, x16.Key, x14.1.Ok, x16.Inv, p1.clock⟩ : Torder_Call)).length (setI (setI p1.calls x4.at_ (⟨x16.Kind, x16.Key, x14.1.Ok, x16.Inv, x16.Ret⟩ : Torder_Call)) x4.at_ (⟨x16.Kind, x16.Key, x14.1.Ok, x16.Inv, p1.clock⟩ : Torder_Call)).length) (setI (setI p1.calls x4.at_ (⟨x16.Kind, x16.Key, x14.1.Ok, x16.Inv, x16.Ret⟩ : Torder_Call)) x4.at_ (⟨x16.Kind, x16.Key, x14.1.Ok, x16.Inv, p1.clock⟩ : Torder_Call)) := AccR.set_ hl18 hR18 rfl hc19
     obtain ⟨hd19, hb19⟩ := flat_at_set (row' := [.int .i64 x16.Kind, .string x16.Key, .bool x14.1.Ok, .int .i64 x16.Inv, .int .i64 p1.clock]) hR18.k hq19 rfl
     have hw19 : ((rw16.set x4.at_.toNat [.int .i64 x16.Kind, .string x16.Key, .bool x14.1.Ok, .int .i64 x16.Inv, .int .i64 x16.Ret]).set x4.at_.toNat [.int .i64 x16.Kind, .string x16.Key, .bool x14.1.Ok, .int .i64 x16.Inv, .int .i64 p1.clock])[x4.at_.toNat]? = some [.int .i64 x16.Kind, .string x16.Key, .bool x14.1.Ok, .int .i64 x16.Inv, .int .i64 p1.clock] := List.getElem?_set_self hq19
     refine gs_store (vs := [.int .i64 p1.clock]) (cs' := ((rw16.set x4.at_.toNat [.int .i64 x16.Kind, .string x16.Key, .bool x14.1.Ok, .int .i64 x16.Inv, .int .i64 x16.Ret]).set x4.at_.toNat [.int .i64 x16.Kind, .string x16.Key, .bool x14.1.Ok, .int .i64 x16.Inv, .int .i64 p1.clock]).flatten) (ot rfl) (ot rfl) sz_3 rfl rfl (acc_ble (j := 4) (m := 1) hb18 (by decide)) rfl (flat_splice_part (j := 4) _ _ hR18.k hw18 (Nat.le_of_ble_eq_true rfl)) (.s (.s (.s (.s (.s (.s (.z))))))) (go_re 43 (v2 := .slice (some ⟨bb16, 0, some 0⟩) (setI (setI p1.calls x4.at_ (⟨x16.Kind, x16.Key, x14.1.Ok, x16.Inv, x16.Ret⟩ : Torder_Call)) x4.at_ (⟨x16.Kind, x16.Key, x14.1.Ok, x16.Inv, p1.clock⟩ : Torder_Call)).length (setI (setI p1.calls x4.at_ (⟨x16.Kind, x16.Key, x14.1.Ok, x16.Inv, x16.Ret⟩ : Torder_Call)) x4.at_ (⟨x16.Kind, x16.Key, x14.1.Ok, x16.Inv, p1.clock⟩ : Torder_Call)).length) rfl (by first | (simp only [setI_len]; done) | (simp only [setI_len]; rfl)) ?_)
     refine gs_retell (segs' := [[⟨b8_15, .cells [.bool x14.1.Ok, .string x14.1.Key, .int .u64 x14.1.Val, .int .i64 x14.1.Err] 95⟩], z14_y0, z14_y1, [⟨bp1, .cells [.slice (some ⟨b5z_0, 0, none⟩) p1.threads.length p1.threads.length, .slice (some ⟨bb16, 0, some 0⟩) (setI (setI p1.calls x4.at_ (⟨x16.Kind, x16.Key, x14.1.Ok, x16.Inv, x16.Ret⟩ : Torder_Call)) x4.at_ (⟨x16.Kind, x16.Key, x14.1.Ok, x16.Inv, p1.clock⟩ : Torder_Call)).length (setI (setI p1.calls x4.at_ (⟨x16.Kind, x16.Key, x14.1.Ok, x16.Inv, x16.Ret⟩ : Torder_Call)) x4.at_ (⟨x16.Kind, x16.Key, x14.1.Ok, x16.Inv, p1.clock⟩ : Torder_Call)).length, .int .i64 p1.clock] 122⟩], [⟨b5z_0, .cells (rs4.map Rw.c).flatten 118⟩], t4, [⟨bb16, .cells ((rw16.set x4.at_.toNat [.int .i64 x16.Kind, .string x16.Key, .bool x14.1.Ok, .int .i64 x16.Inv, .int .i64 x16.Ret]).set x4.at_.toNat [.int .i64 x16.Kind, .string x16.Key, .bool x14.1.Ok, .int .i64 x16.Inv, .int .i64 p1.clock]).flatten 76⟩]]) (by first | (simp only [setI_len]; done) | (simp only [setI_len]; rfl)) ?_
     refine go_nil (go_snil (go_region (gM rfl rfl (gr rfl (r_build (op1 (oc rfl) (op1 (oc rfl) op0)) rfl) (gN rfl rfl (gs_store (vs := [.pointer none, .int .i64 (-1)]) (cs' := ((rs4.map Rw.c).set p2.toNat [.pointer none, .int .i64 (-1)]).flatten) (ot rfl) (ot rfl) sz_118 rfl rfl (acc_ble (j := 0) (m := 2) hb4 (by decide)) rfl (flat_splice_part (j := 0) _ _ (rw_k _) hw4 (Nat.le_of_ble_eq_true rfl)) (.s (.s (.s (.s (.z))))) (go_nil (go_seq (go_region (gM rfl rfl (gN rfl rfl (gF (fa_122_2 _ _) rfl rfl (gls 3 ag_3 rfl rfl rfl rfl (gr rfl (r_bin (ot rfl) (oc rfl) rfl) (gN rfl rfl (gF (fa_122_2 _ _) rfl rfl (gs_store (ot rfl) (ot rfl) sz_3 rfl rfl rfl rfl rfl (.s (.s (.s (.z)))) (go_nil (go_seq (go_region (gAc rfl rfl (go_nil (gs_pack (fun s => PO (ORbst_Call_2 bp0) 118 h14 b5z_0 s (setI p1.threads p2 ⟨none, (-1)⟩)) (.cons (.s (.s (.s (.s (.z))))) (.emp (.cons (.s (.s (.s (.s (.z))))) .nil))) (PO.close (((r4.ext e4.kn).ext e12.kn).ext e14.kn) OO.none_) fun t21q y21q => ?_)))))))))))))))))))))))
     refine gs_retell (segs' := [t21q, [⟨b8_15, .cells [.bool x14.1.Ok, .string x14.1.Key, .int .u64 x14.1.Val, .int .i64 x14.1.Err] 95⟩], z14_y0, z14_y1, [⟨bp1, .cells [.slice (some ⟨b5z_0, 0, none⟩) (setI p1.threads p2 ⟨none, (-1)⟩).length (setI p1.threads p2 ⟨none, (-1)⟩).length, .slice (some ⟨bb16, 0, some 0⟩) (setI (setI p1.calls x4.at_ (⟨x16.Kind, x16.Key, x14.1.Ok, x16.Inv, x16.Ret⟩ : Torder_Call)) x4.at_ (⟨x16.Kind, x16.Key, x14.1.Ok, x16.Inv, p1.clock⟩ : Torder_Call)).length (setI (setI p1.calls x4.at_ (⟨x16.Kind, x16.Key, x14.1.Ok, x16.Inv, x16.Ret⟩ : Torder_Call)) x4.at_ (⟨x16.Kind, x16.Key, x14.1.Ok, x16.Inv, p1.clock⟩ : Torder_Call)).length, .int .i64 (IntKind.i64.wrap (p1.clock + 1))] 122⟩], [⟨bb16, .cells ((rw16.set x4.at_.toNat [.int .i64 x16.Kind, .string x16.Key, .bool x14.1.Ok, .int .i64 x16.Inv, .int .i64 x16.Ret]).set x4.at_.toNat [.int .i64 x16.Kind, .string x16.Key, .bool x14.1.Ok, .int .i64 x16.Inv, .int .i64 p1.clock]).flatten 76⟩]]) (by first | (simp only [setI_len]; done) | (simp only [setI_len]; rfl)) ?_
     refine gs_pack (fun s => Zcrowd_Crowd h14 bp0 bp1 s (⟨(setI p1.threads p2 ⟨none, (-1)⟩), (setI (setI p1.calls x4.at_ (⟨x16.Kind, x16.Key, x14.1.Ok, x16.Inv, x16.Ret⟩ : Torder_Call)) x4.at_ (⟨x16.Kind, x16.Key, x14.1.Ok, x16.Inv, p1.clock⟩ : Torder_Call)), (IntKind.i64.wrap (p1.clock + 1))⟩ : Ocrowd_Crowd)) (.cons (.s (.s (.s (.s (.z))))) (.cons .z (.cons (.s (.s (.s (.z)))) .nil))) ⟨_, _, _, _, rfl, y21q, f19_⟩ fun z22p y22p => ?_
     obtain rfl := someI hF
     exact g_retO (rst rfl rs0) (.cons (.s (.s (.z))) (.cons .z .nil)) (e4.trans (e12.trans e14)) w14 (nd1 f14_0.nd (nd1 y22p.nd nd0)) ⟨_, _, rfl, rfl, f14_0, y22p⟩
    ·
     replace hF := ifF hc17 hF
     refine go_skip (go_region (gM rfl rfl (gr rfl (r_build (op1 (oc rfl) (op1 (oc rfl) op0)) rfl) (gN rfl rfl (gs_store (vs := [.pointer none, .int .i64 (-1)]) (cs' := ((rs4.map Rw.c).set p2.toNat [.pointer none, .int .i64 (-1)]).flatten) (ot rfl) (ot rfl) sz_118 rfl rfl (acc_ble (j := 0) (m := 2) hb4 (by decide)) rfl (flat_splice_part (j := 0) _ _ (rw_k _) hw4 (Nat.le_of_ble_eq_true rfl)) (.s (.s (.s (.s (.z))))) (go_nil (go_seq (go_region (gM rfl rfl (gN rfl rfl (gF (fa_122_2 _ _) rfl rfl (gls 3 ag_3 rfl rfl rfl rfl (gr rfl (r_bin (ot rfl) (oc rfl) rfl) (gN rfl rfl (gF (fa_122_2 _ _) rfl rfl (gs_store (ot rfl) (ot rfl) sz_3 rfl rfl rfl rfl rfl (.s (.s (.s (.z)))) (go_nil (go_seq (go_region (gAc rfl rfl (go_nil (gs_pack (fun s => PO (ORbst_Call_2 bp0) 118 h14 b5z_0 s (setI p1.threads p2 ⟨none, (-1)⟩)) (.cons (.s (.s (.s (.s (.z))))) (.emp (.cons (.s (.s (.s (.s (.z))))) .nil))) (PO.close (((r4.ext e4.kn).ext e12.kn).ext e14.kn) OO.none_) fun t24q y24q => ?_))))))))))))))))))))))
     refine gs_retell (segs' := [t24q, [⟨b8_15, .cells [.bool x14.1.Ok, .string x14.1.Key, .int .u64 x14.1.Val, .int .i64 x14.1.Err] 95⟩], z14_y0, z14_y1, [⟨bp1, .cells [.slice (some ⟨b5z_0, 0, none⟩) (setI p1.threads p2 ⟨none, (-1)⟩).length (setI p1.threads p2 ⟨none, (-1)⟩).length, .slice (some ⟨bb16, 0, some 0⟩) p1.calls.length p1.calls.length, .int .i64 (IntKind.i64.wrap (p1.clock + 1))] 122⟩], [⟨bb16, .cells rw16.flatten 76⟩]]) (by first | (simp only [setI_len]; done) | (simp only [setI_len]; rfl)) ?_
     refine gs_pack (fun s => Zcrowd_Crowd h14 bp0 bp1 s (⟨(setI p1.threads p2 ⟨none, (-1)⟩), p1.calls, (IntKind.i64.wrap (p1.clock + 1))⟩ : Ocrowd_Crowd)) (.cons (.s (.s (.s (.s (.z))))) (.cons .z (.cons (.s (.s (.s (.z)))) .nil))) ⟨_, _, _, _, rfl, y24q, (((f5z1.ext e4.kn).ext e12.kn).ext e14.kn)⟩ fun z25p y25p => ?_
     obtain rfl := someI hF
     exact g_retO (rst rfl rs0) (.cons (.s (.s (.z))) (.cons .z .nil)) (e4.trans (e12.trans e14)) w14 (nd1 f14_0.nd (nd1 y25p.nd nd0)) ⟨_, _, rfl, rfl, f14_0, y25p⟩
   ·
    replace hF := ifF hc13 hF
    refine go_skip (go_seq (go_region (gM rfl rfl (gN rfl rfl (gF (fa_122_2 _ _) rfl rfl (gls 2 ag_3 rfl rfl rfl rfl (gr rfl (r_bin (ot rfl) (oc rfl) rfl) (gN rfl rfl (gF (fa_122_2 _ _) rfl rfl (gs_store (ot rfl) (ot rfl) sz_3 rfl rfl rfl rfl rfl (.s (.s (.z))) (go_nil (go_seq (go_region (gAc rfl rfl (go_nil (gs_pack (fun s => PO (ORbst_Call_2 bp0) 118 h12 b5z_0 s (setI p1.threads p2 ⟨(some x12.2.2.2), x4.at_⟩)) (.cons (.s (.s (.s (.z)))) (.cons (.s (.z)) (.cons (.s (.s (.z))) .nil))) (PO.shut ((r4.ext e4.kn).ext e12.kn) hw4 (OO.mk f12_1)) fun t26q y26q => ?_))))))))))))))))
    refine gs_retell (segs' := [t26q, z12_y0, [⟨bp1, .cells [.slice (some ⟨b5z_0, 0, none⟩) (setI p1.threads p2 ⟨(some x12.2.2.2), x4.at_⟩).length (setI p1.threads p2 ⟨(some x12.2.2.2), x4.at_⟩).length, .slice q5z_1 p1.calls.length p1.calls.length, .int .i64 (IntKind.i64.wrap (p1.clock + 1))] 122⟩], t5z_1]) (by first | (simp only [setI_len]; done) | (simp only [setI_len]; rfl)) ?_
    refine gs_pack (fun s => Zcrowd_Crowd h12 bp0 bp1 s (⟨(setI p1.threads p2 ⟨(some x12.2.2.2), x4.at_⟩), p1.calls, (IntKind.i64.wrap (p1.clock + 1))⟩ : Ocrowd_Crowd)) (.cons (.s (.s (.z))) (.cons .z (.cons (.s (.z)) .nil))) ⟨_, _, _, _, rfl, y26q, ((f5z1.ext e4.kn).ext e12.kn)⟩ fun z27p y27p => ?_
    obtain rfl := someI hF
    exact g_retO (rst rfl rs0) (.cons (.s (.z)) (.cons .z .nil)) (e4.trans e12) w12 (nd1 f12_0.nd (nd1 y27p.nd nd0)) ⟨_, _, rfl, rfl, f12_0, y27p⟩
theorem s_crowd_New_nil {h : Heap} (hw : Wf h)  {bWT : Nat}  {r : Ocrowd_Crowd} (hF : F_crowd_New_nil  = some r) :
 EvO EE 57 [.int .i64 4] [] h (fun v S h1 => ∃ bw0 zw0, v = pt bw0 ∧ S = [zw0] ∧ Zcrowd_Crowd h1 bWT bw0 zw0 r) := by
 unfold F_crowd_New_nil at hF
 refine evo_of rfl at_57 rfl rfl ?_
 refine go_seq (go_region (gAc rfl rfl (go_nil (go_seq (go_seq (go_region (gM rfl rfl (gr rfl (r_bin (ot rfl) (oc rfl) rfl) (gM rfl rfl (g_do rfl rfl rfl (gM rfl rfl (g_do rfl rfl rfl (gr rfl (r_bin (ot rfl) (oc rfl) rfl) (gr rfl (r_pkF (ot rfl) (ot rfl)) (go_nil ?_)))))))))))))))
 refine g_cond (b := false) (ot rfl) (fun hc2 => ?_) (fun hc2 => ?_)
 ·
  cases hc2
 refine go_skip (go_seq (go_region (gr rfl (r_build (op1 (oc rfl) (op1 (oc rfl) op0)) rfl) (gs_bslice (cs := [.pointer none, .int .i64 (-1)]) rfl (op1 (ot rfl) op0) ut_120 sz_118 zo_118 rfl rfl (fun b10_3 => gM rfl rfl ?_)))))
 obtain ⟨x4, hx4, hF⟩ := obind hF
 obtain ⟨he4, ha4, hb4⟩ := repN_some hx4
 refine kcX EE_fr hw (.cons .z .nil) rfl of (ops_t rfl (ops_t rfl os0)) hb_94 (by rw [he4]; exact evo_repeat hw ha4 hb4) ?_
 rintro _ _ h4 e4 w4 ⟨br4, rfl, rfl⟩
 simp only [ca_, na_]
 refine gs_pack (fun s => PO (ORbst_Call_2 bWT) 118 h4 br4 s (List.replicate x4 (⟨none, -1⟩ : Th Obst_Call_2))) (.cons (.s .z) .nil) (PO.new (by omega) (repC_rw x4)) fun t4r y4r => (go_cast (.slice (some ⟨br4, 0, none⟩) (List.replicate x4 (⟨none, -1⟩ : Th Obst_Call_2)).length (List.replicate x4 (⟨none, -1⟩ : Th Obst_Call_2)).length) (by simp only [List.length_replicate]) (gr rfl (r_build (op1 (ot rfl) op0) rfl) (gs_box rfl (ot rfl) rfl (fun b14_5 => gA rfl rfl (go_nil (gs_pack (fun s => Zcrowd_Crowd h4 bWT b14_5 s (⟨(List.replicate x4 (⟨none, -1⟩ : Th Obst_Call_2)), ([] : List Torder_Call), 0⟩ : Ocrowd_Crowd)) (.cons .z (.cons .z (.emp .nil))) ⟨_, _, _, _, rfl, y4r, (AccR.nil _ _ _)⟩ fun z6p y6p => ?_))))))
 obtain rfl := someI hF
 exact g_retO (rst rfl rs0) (.cons .z .nil) e4 w4 (nd1 y6p.nd nd0) ⟨_, _, rfl, rfl, y6p⟩
theorem s_law16_do (n : Nat) {h : Heap} (hw : Wf h) (p0 : Obst_Tree) (p0o0 : Omem_Mem) (p1 : Ocrowd_Crowd) (p2 : Timpostlaw16_Deed) {bp0 bp0_1 : Nat} {z0 : List Blk} {bp1 : Nat} {z1 : List Blk} (y0 : Zbst_Tree h bp0 bp0_1 z0 p0 p0o0) (y1 : Zcrowd_Crowd h bp0 bp1 z1 p1) {r : Int × Obst_Tree × Omem_Mem × Ocrowd_Crowd} (hF : F_law16_do n p0 p0o0 p1 p2 = some r) :
 EvO EE 29 [pt bp0, pt bp1, .agg #[.int .i64 p2.Kind, .int .i64 p2.T, .string p2.Key]] [z0, z1] h (fun v S h1 => ∃ zy0 zy1, v = .int .i64 r.1 ∧ S = [zy0, zy1] ∧ Zbst_Tree h1 bp0 bp0_1 zy0 r.2.1 r.2.2.1 ∧ Zcrowd_Crowd h1 bp0 bp1 zy1 r.2.2.2) := by
 unfold F_law16_do at hF
 refine evo_of rfl at_29 rfl rfl ?_
 refine go_seq (go_region (gs_box rfl (ot rfl) rfl (fun b5_4 => gAc rfl rfl (go_nil (go_seq (go_seq (go_region (gF (fa_67_0 _ _) rfl rfl (gls 0 ag_3 rfl rfl rfl rfl (go_nil (go_block (go_seq (go_region (gr rfl (r_bin (ot rfl) (oc rfl) rfl) (gA rfl rfl (go_nil ?_))))))))))))))))
 refine g_cond (b := (p2.Kind == 1)) (ot rfl) (fun hc5 => ?_) (fun hc5 => ?_)
 ·
  replace hF := ifT hc5 hF
  refine go_seq (go_regions (L := sq 0 6 ++ [(7, []), (8, []), (6, [2, 8]), (9, []), (10, [])]) (by kernel_rfl) (by kernel_rfl) (fun _ => rfl) (go_sop rfl rfl (gM rfl rfl (go_nil (go_sop rfl rfl (gF (fa_67_1 _ _) rfl rfl (go_nil (go_sop rfl rfl (gls 0 ag_3 rfl rfl rfl rfl (go_nil (go_sop rfl rfl (gM rfl rfl (go_nil (go_sop rfl rfl (gF (fa_67_2 _ _) rfl rfl (go_nil (go_sop rfl rfl (gls 0 ag_9 rfl rfl rfl rfl (go_nil (go_sop rfl rfl (gF (fa_67_2 _ _) rfl rfl (go_nil (go_sop rfl rfl ?_)))))))))))))))))))))))
  refine gls 0 ag_9 rfl rfl rfl rfl (go_nil (go_sopc [(2, .int .i64 p2.T), (8, .string p2.Key)] rfl rfl rfl (rc1 rfl (r_load (ot rfl) (lm_s (mem_seg 0 rfl) ag_3 rfl)) (rc1 rfl (r_load (ot rfl) (lm_s (mem_seg 0 rfl) ag_9 rfl)) rc0)) (vq1 (veq_int _ _ _) (vq1 (veq_str _ _) vq0)) rfl ?_))
  obtain ⟨x6, hx6, hF⟩ := obind hF
  refine kcX EE_fr hw (.cons (.s (.z)) .nil) rfl of (ops_t rfl (ops_t rfl (ops_c rfl os0))) hb_59 (s_bst_Tree_Insert n hw p0 p0o0 p2.Key 5 y0 hx6) ?_
  rintro _ _ h6 e6 w6 ⟨z6_y0, b6_w0, z6_w0, rfl, rfl, f6_0, f6_1⟩
  simp only [ca_, na_]
  refine go_nil (go_rck (rcs 2 ag_3 rfl rfl rfl rfl (rcs 2 ag_9 rfl rfl rfl rfl rc0)) (go_sop rfl rfl ?_))
  obtain ⟨x7, hx7, hF⟩ := obind hF
  refine kcX EE_fr w6 (.cons (.s (.s (.s (.z)))) (.cons (.s (.z)) .nil)) rfl of (ops_t rfl (ops_t rfl (ops_t rfl (ops_c rfl (ops_t rfl os0))))) hb_58 (s_crowd_Crowd_Begin (bWT := bp0) w6 p1 p2.T x6.1 1 p2.Key (y1.ext e6.kn) f6_1 hx7) ?_
  rintro _ _ h7 e7 w7 ⟨z7_y0, rfl, rfl, f7_0⟩
  simp only [ca_, na_]
  refine go_nil (go_sop rfl rfl (gA rfl rfl (go_nil (go_snil ?_))))
  obtain rfl := someI hF
  exact g_retO (rst rfl rs0) (.cons (.s (.z)) (.cons .z .nil)) (e6.trans e7) w7 (nd1 (f6_0.ext e7.kn).nd (nd1 f7_0.nd nd0)) ⟨_, _, rfl, rfl, (f6_0.ext e7.kn), f7_0⟩
 ·
  replace hF := ifF hc5 hF
  refine go_seq (go_region (gr rfl (r_bin (ot rfl) (oc rfl) rfl) (gA rfl rfl (go_nil ?_))))
  refine g_cond (b := (p2.Kind == 2)) (ot rfl) (fun hc8 => ?_) (fun hc8 => ?_)
  ·
   replace hF := ifT hc8 hF
   refine go_seq (go_regions (L := sq 0 6 ++ [(7, []), (8, []), (6, [2, 8]), (9, []), (10, [])]) (by kernel_rfl) (by kernel_rfl) (fun _ => rfl) (go_sop rfl rfl (gM rfl rfl (go_nil (go_sop rfl rfl (gF (fa_67_1 _ _) rfl rfl (go_nil (go_sop rfl rfl (gls 0 ag_3 rfl rfl rfl rfl (go_nil (go_sop rfl rfl (gM rfl rfl (go_nil (go_sop rfl rfl (gF (fa_67_2 _ _) rfl rfl (go_nil (go_sop rfl rfl (gls 0 ag_9 rfl rfl rfl rfl (go_nil (go_sop rfl rfl (gF (fa_67_2 _ _) rfl rfl (go_nil (go_sop rfl rfl ?_)))))))))))))))))))))))
   refine gls 0 ag_9 rfl rfl rfl rfl (go_nil (go_sopc [(2, .int .i64 p2.T), (8, .string p2.Key)] rfl rfl rfl (rc1 rfl (r_load (ot rfl) (lm_s (mem_seg 0 rfl) ag_3 rfl)) (rc1 rfl (r_load (ot rfl) (lm_s (mem_seg 0 rfl) ag_9 rfl)) rc0)) (vq1 (veq_int _ _ _) (vq1 (veq_str _ _) vq0)) rfl ?_))
   obtain ⟨x9, hx9, hF⟩ := obind hF
   refine kcX EE_fr hw (.cons (.s (.z)) .nil) rfl of (ops_t rfl (ops_t rfl os0)) hb_63 (s_bst_Tree_Delete n hw p0 p0o0 p2.Key y0 hx9) ?_
   rintro _ _ h9 e9 w9 ⟨z9_y0, b9_w0, z9_w0, rfl, rfl, f9_0, f9_1⟩
   simp only [ca_, na_]
   refine go_nil (go_rck (rcs 2 ag_3 rfl rfl rfl rfl (rcs 2 ag_9 rfl rfl rfl rfl rc0)) (go_sop rfl rfl ?_))
   obtain ⟨x10, hx10, hF⟩ := obind hF
   refine kcX EE_fr w9 (.cons (.s (.s (.s (.z)))) (.cons (.s (.z)) .nil)) rfl of (ops_t rfl (ops_t rfl (ops_t rfl (ops_c rfl (ops_t rfl os0))))) hb_58 (s_crowd_Crowd_Begin (bWT := bp0) w9 p1 p2.T x9.1 2 p2.Key (y1.ext e9.kn) f9_1 hx10) ?_
   rintro _ _ h10 e10 w10 ⟨z10_y0, rfl, rfl, f10_0⟩
   simp only [ca_, na_]
   refine go_nil (go_sop rfl rfl (gA rfl rfl (go_nil (go_snil ?_))))
   obtain rfl := someI hF
   exact g_retO (rst rfl rs0) (.cons (.s (.z)) (.cons .z .nil)) (e9.trans e10) w10 (nd1 (f9_0.ext e10.kn).nd (nd1 f10_0.nd nd0)) ⟨_, _, rfl, rfl, (f9_0.ext e10.kn), f10_0⟩
  ·
   replace hF := ifF hc8 hF
   refine go_seq (go_region (gr rfl (r_bin (ot rfl) (oc rfl) rfl) (gA rfl rfl (go_nil ?_))))
   refine g_cond (b := (p2.Kind == 3)) (ot rfl) (fun hc11 => ?_) (fun hc11 => ?_)
   ·
    replace hF := ifT hc11 hF
    refine go_seq (go_regions (L := sq 0 6 ++ [(7, []), (8, []), (6, [2, 8]), (9, []), (10, [])]) (by kernel_rfl) (by kernel_rfl) (fun _ => rfl) (go_sop rfl rfl (gM rfl rfl (go_nil (go_sop rfl rfl (gF (fa_67_1 _ _) rfl rfl (go_nil (go_sop rfl rfl (gls 0 ag_3 rfl rfl rfl rfl (go_nil (go_sop rfl rfl (gM rfl rfl (go_nil (go_sop rfl rfl (gF (fa_67_2 _ _) rfl rfl (go_nil (go_sop rfl rfl (gls 0 ag_9 rfl rfl rfl rfl (go_nil (go_sop rfl rfl (gF (fa_67_2 _ _) rfl rfl (go_nil (go_sop rfl rfl ?_)))))))))))))))))))))))
    refine gls 0 ag_9 rfl rfl rfl rfl (go_nil (go_sopc [(2, .int .i64 p2.T), (8, .string p2.Key)] rfl rfl rfl (rc1 rfl (r_load (ot rfl) (lm_s (mem_seg 0 rfl) ag_3 rfl)) (rc1 rfl (r_load (ot rfl) (lm_s (mem_seg 0 rfl) ag_9 rfl)) rc0)) (vq1 (veq_int _ _ _) (vq1 (veq_str _ _) vq0)) rfl ?_))
    obtain ⟨x12, hx12, hF⟩ := obind hF
    refine kcX EE_fr hw (.cons (.s (.z)) .nil) rfl of (ops_t rfl (ops_t rfl os0)) hb_41 (s_bst_Tree_Find n hw p0 p0o0 p2.Key y0 hx12) ?_
    rintro _ _ h12 e12 w12 ⟨z12_y0, b12_w0, z12_w0, rfl, rfl, f12_0, f12_1⟩
    simp only [ca_, na_]
    refine go_nil (go_rck (rcs 2 ag_3 rfl rfl rfl rfl (rcs 2 ag_9 rfl rfl rfl rfl rc0)) (go_sop rfl rfl ?_))
    obtain ⟨x13, hx13, hF⟩ := obind hF
    refine kcX EE_fr w12 (.cons (.s (.s (.s (.z)))) (.cons (.s (.z)) .nil)) rfl of (ops_t rfl (ops_t rfl (ops_t rfl (ops_c rfl (ops_t rfl os0))))) hb_58 (s_crowd_Crowd_Begin (bWT := bp0) w12 p1 p2.T x12.1 3 p2.Key (y1.ext e12.kn) f12_1 hx13) ?_
    rintro _ _ h13 e13 w13 ⟨z13_y0, rfl, rfl, f13_0⟩
    simp only [ca_, na_]
    refine go_nil (go_sop rfl rfl (gA rfl rfl (go_nil (go_snil ?_))))
    obtain rfl := someI hF
    exact g_retO (rst rfl rs0) (.cons (.s (.z)) (.cons .z .nil)) (e12.trans e13) w13 (nd1 (f12_0.ext e13.kn).nd (nd1 f13_0.nd nd0)) ⟨_, _, rfl, rfl, (f12_0.ext e13.kn), f13_0⟩
   ·
    replace hF := ifF hc11 hF
    refine go_skip (go_endb (go_seq (go_region (gM rfl rfl (gF (fa_67_1 _ _) rfl rfl (gls 0 ag_3 rfl rfl rfl rfl ?_))))))
    obtain ⟨x14, hx14, hF⟩ := obind hF
    refine kcX EE_fr hw (.cons (.s (.z)) (.cons (.s (.z)) .nil)) rfl of (ops_t rfl (ops_t rfl os0)) hb_31 (s_crowd_Crowd_Pick n hw p0 p0o0 p1 p2.T y0 y1 hx14) ?_
    rintro _ _ h14 e14 w14 ⟨z14_y0, z14_y1, rfl, rfl, f14_0, f14_1⟩
    simp only [ca_, na_]
    refine go_nil (go_seq (go_region (gAc rfl rfl (go_nil ?_))))
    obtain rfl := someI hF
    exact g_retO (rst rfl rs0) (.cons .z (.cons .z .nil)) e14 w14 (nd1 f14_0.nd (nd1 f14_1.nd nd0)) ⟨_, _, rfl, rfl, f14_0, f14_1⟩
theorem s_law16_begun (n : Nat) {h : Heap} (hw : Wf h) (p0 : (List ByteArray)) {a0_0 : Option Addr} {c0_0 : Nat} {bWT : Nat} (f0_0 : RL (RS_ 9) h a0_0 c0_0 p0) {r : Obst_Tree × Omem_Mem × Ocrowd_Crowd} (hF : F_law16_begun n p0 = some r) :
 EvO EE 28 [.slice a0_0 p0.length c0_0] [] h (fun v S h1 => ∃ bw0 bw0_1 zw0 bw1 zw1, v = .tuple #[pt bw0, pt bw1] ∧ S = [zw0, zw1] ∧ Zbst_Tree h1 bw0 bw0_1 zw0 r.1 r.2.1 ∧ Zcrowd_Crowd h1 bw0 bw1 zw1 r.2.2) := by
 unfold F_law16_begun at hF
 refine evo_of rfl at_28 rfl rfl ?_
 refine go_seq (go_region (gAc rfl rfl (gAc rfl rfl (go_nil (go_seq (go_region ?_))))))
 obtain ⟨x2, hx2, hF⟩ := obind hF
 refine kcX EE_fr hw .nil rfl of (ops_c rfl os0) hb_24 (s_mem_New_nil hw   hx2) ?_
 rintro _ _ h2 e2 w2 ⟨b2_w0, z2_w0, rfl, rfl, f2_0⟩
 simp only [ca_, na_]
 obtain ⟨x3, hx3, hF⟩ := obind hF
 refine kcX EE_fr w2 (.cons .z .nil) rfl of (ops_t rfl os0) hb_52 (s_bst_New w2 x2 f2_0 hx3) ?_
 rintro _ _ h3 e3 w3 ⟨b3_w0, z3_w0, rfl, rfl, f3_0⟩
 simp only [ca_, na_]
 refine gA rfl rfl (go_nil (go_seq (go_seq (go_region (gAc rfl rfl (go_nil ?_))))))
 obtain ⟨s4, hF, hK4⟩ := obind hF
 refine go_joinc (β := List Blk) (fun s h' => Zbst_Tree h' b3_w0 b2_w0 s s4.1 s4.2) (fun s => [(2, true, .pointer none), (3, true, .pointer none), (4, true, pt b3_w0)]) (fun s => (List.flatten [s] : List Blk)) ?_ (fun J4 => ?_)
 ·
  rintro a4_0 h4 e4 w4 f4_0
  try dsimp only at f4_0
  replace hF := hK4
  refine go_seq (go_region (gM rfl rfl ?_))
  obtain ⟨x5, hx5, hF⟩ := obind hF
  refine kcX EE_fr w4 .nil rfl of (ops_c rfl os0) hb_57 (s_crowd_New_nil (bWT := b3_w0) w4   hx5) ?_
  rintro _ _ h5 e5 w5 ⟨b5_w0, z5_w0, rfl, rfl, f5_0⟩
  simp only [ca_, na_]
  refine gA rfl rfl (gA rfl rfl (go_nil ?_))
  obtain rfl := someI hF
  exact g_retO (rst rfl (rst rfl rs0)) (.cons (.s (.z)) (.cons .z .nil)) (e2.trans (e3.trans (e4.trans e5))) w5 (nd1 (f4_0.ext e5.kn).nd (nd1 f5_0.nd nd0)) ⟨_, _, _, _, _, rfl, rfl, (f4_0.ext e5.kn), f5_0⟩
 ·
  refine go_block ?_
  refine go_loop (α := (List ByteArray) × Nat × (Obst_Tree × Omem_Mem) × List Blk × Heap) (fun a => a.1 = List.drop a.2.1 p0 ∧ HExt h3 a.2.2.2.2 ∧ Wf a.2.2.2.2 ∧ F_law16_begun_L1 n a.1 a.2.1 a.2.2.1 = some s4 ∧ Zbst_Tree a.2.2.2.2 b3_w0 b2_w0 a.2.2.2.1 a.2.2.1.1 a.2.2.1.2) (fun a => a.1.length) (fun a => [(0, true, .slice a0_0 p0.length c0_0), (2, true, .pointer none), (3, true, .pointer none), (4, true, pt b3_w0), (5, true, .int .i64 (a.2.1 : Int))]) (fun a => (List.flatten [a.2.2.2.1] : List Blk)) (fun a => a.2.2.2.2) ?_ (p0, 0, (x3.1, x3.2), z3_w0, h3) ⟨rfl, HExt.refl _, w3, hF, f3_0⟩ (Sub.cons (Sub.cons (Sub.cons (Sub.cons (Sub.cons (Sub.nil _) rfl) rfl) rfl) rfl) rfl) rfl rfl
  rintro ⟨r6, i6, y6_0, a6_0, h6⟩ ⟨hr6, e6, w6, hF, f6_0⟩ ih6
  try dsimp only at f6_0
  rcases r6 with _ | ⟨z6, r6⟩
  ·
   have hi6 := drop_nil hr6
   rw [F_law16_begun_L1.eq_1] at hF
   refine go_seq (go_seq (go_region (gM rfl rfl (gM rfl rfl (gr rfl (r_len rfl (os1 (ot rfl) os0) (fun _ _ => ln_65)) (gr rfl (r_bin (ot rfl) (ot rfl) rfl) (go_cast (.bool false) (congrArg Value.bool (decide_eq_false hi6)) (gM rfl rfl (g_no rfl rfl rfl rfl rfl (g_no rfl rfl rfl rfl rfl (gr rfl (r_pkF (ot rfl) (oc rfl)) (go_nil ?_))))))))))))
   refine g_cond (b := false) (ot rfl) (fun hc7 => ?_) (fun hc7 => ?_)
   ·
    cases hc7
   refine go_exit rfl ?_
   obtain rfl := someI hF
   exact Goes.weak (J4 a6_0 _ e6 w6 f6_0) (Sub.cons (Sub.cons (Sub.cons (Sub.nil _) rfl) rfl) rfl)
  ·
   obtain ⟨hi6, hx6, hr6⟩ := drop_cons hr6
   have hb6 := (((f0_0.ext e2.kn).ext e3.kn).ext e6.kn).1
   rw [F_law16_begun_L1.eq_2] at hF
   refine go_seq (go_seq (go_region (gM rfl rfl (gM rfl rfl (gr rfl (r_len rfl (os1 (ot rfl) os0) (fun _ _ => ln_65)) (gr rfl (r_bin (ot rfl) (ot rfl) rfl) (go_cast (.bool true) (congrArg Value.bool (decide_eq_true (Int.ofNat_lt.mpr hi6))) (gM rfl rfl (g_do rfl rfl rfl (gM rfl rfl (g_do rfl rfl rfl (gr rfl (r_bin (ot rfl) (oc rfl) rfl) (gr rfl (r_pkT (ot rfl) (ot rfl)) (go_nil ?_))))))))))))))
   refine g_cond (b := (decide ((i6 : Int) < 20))) (ot rfl) (fun hc8 => ?_) (fun hc8 => ?_)
   ·
    replace hF := ifT hc8 hF
    refine go_skip (go_seq (go_block (go_region (gM rfl rfl (gM rfl rfl (gM rfl rfl ?_))))))
    obtain ⟨q9, row9, i9, cl9, rc9, sp9⟩ := ix (ik := .i64) (cap := c0_0) (E := EE) (((f0_0.ext e2.kn).ext e3.kn).ext e6.kn) ((getI_nat _ _).trans hx6) ut_65 sz_9 rfl
    obtain rfl := rc9
    refine gr rfl (r_ia (ot rfl) (ot rfl) i9) (gr rfl (r_load (ot rfl) (v := .string z6) (lo_e (fun hf kn => ld_one ag_9 (kn.cellsAt cl9)))) ?_)
    obtain ⟨x10, hx10, hF⟩ := obind hF
    refine kcX EE_fr w6 (.cons .z .nil) rfl of (ops_t rfl (ops_t rfl (ops_c rfl os0))) hb_59 (s_bst_Tree_Insert n w6 y6_0.1 y6_0.2 z6 1 f6_0 hx10) ?_
    rintro _ _ h10 e10 w10 ⟨z10_y0, b10_w0, z10_w0, rfl, rfl, f10_0, f10_1⟩
    simp only [ca_, na_]
    obtain ⟨x11, hx11, hF⟩ := obind hF
    refine kcX EE_fr w10 (.cons .z (.cons .z .nil)) rfl of (ops_t rfl os0) hb_62 (s_bst_Run n w10 x10.2.1 x10.2.2 x10.1 f10_0 f10_1 hx11) ?_
    rintro _ _ h11 e11 w11 ⟨z11_y0, z11_y1, rfl, rfl, f11_0, f11_1⟩
    simp only [ca_, na_]
    refine go_nil (go_endb (go_region (gM rfl rfl (gr rfl (r_bin (ot rfl) (oc rfl) rfl) (gA rfl rfl (go_nil (gs_sub (.cons_cons _ (.cons _ (.refl _))) (go_re 5 (v2 := .int .i64 ((i6 + 1 : Nat) : Int)) rfl (wrap_succ hi6 hb6) ?_))))))))
    exact Goes.weak (ih6 (r6, i6 + 1, (x11.2.1, x11.2.2.1), z11_y0, h11) ⟨hr6, (e6.trans (e10.trans e11)), w11, hF, f11_0⟩ (Nat.lt_succ_self _)) (Sub.cons (Sub.cons (Sub.cons (Sub.cons (Sub.cons (Sub.nil _) rfl) rfl) rfl) rfl) rfl)
   ·
    replace hF := ifF hc8 hF
    refine go_exit rfl ?_
    obtain rfl := someI hF
    exact Goes.weak (J4 a6_0 _ e6 w6 f6_0) (Sub.cons (Sub.cons (Sub.cons (Sub.nil _) rfl) rfl) rfl)
end Go.Proofs.YtndhbaidibioeaaGreat.V
