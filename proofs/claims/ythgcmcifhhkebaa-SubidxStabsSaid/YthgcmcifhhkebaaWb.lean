/- Walks.
   No condition: these are laws of the clean machine and of this program. -/
import Derived.Test.YthgcmcifhhkebaaWa
namespace Go.Proofs.Ythgcmcifhhkebaa.V
open Go
set_option linter.unusedVariables false
set_option linter.unusedSimpArgs false
set_option maxRecDepth 100000
theorem s_subidx_Index_All {h : Heap} (hw : Wf h) (p0 : Osubidx_Index) {bp0 : Nat} {q0_0 : Option Addr} {t0_0 : List Blk} (f0_0 : AccR R_Tsubidx_node 58 h t0_0 (.slice q0_0 p0.l.length p0.l.length) p0.l) {r : (List Tsubidx_Sub) × Osubidx_Index} (hF : F_subidx_Index_All p0 = some r) :
    EvO EE 14 [.pointer (some ⟨bp0, 0, none⟩)] [[⟨bp0, .cells [.slice q0_0 p0.l.length p0.l.length] 55⟩], t0_0] h (fun v S h1 => ∃ qy0_0 ty0_0 a0 c0, v = .slice a0 r.1.length c0 ∧ S = [[⟨bp0, .cells [.slice qy0_0 r.2.l.length r.2.l.length] 55⟩], ty0_0] ∧ AccR R_Tsubidx_node 58 h1 ty0_0 (.slice qy0_0 r.2.l.length r.2.l.length) r.2.l ∧ RL R_Tsubidx_Sub h1 a0 c0 r.1) := by
  unfold F_subidx_Index_All at hF
  refine evo_of rfl at_14 rfl rfl ?_
  refine go_seq ?_
  refine go_region ?_
  refine gAc rfl rfl ?_
  refine go_nil ?_
  refine go_seq ?_
  refine go_seq ?_
  refine go_region ?_
  refine gM rfl rfl ?_
  refine gr rfl (r_bin (v := .bool false) (ot rfl) (oc rfl) (by first | rfl | kernel_rfl)) ?_
  refine go_nil ?_
  refine g_cond (b := false) (ot rfl) (fun hc1 => ?_) (fun hc1 => ?_)
  · cases hc1
  refine go_skip ?_
  refine go_seq ?_
  refine go_region ?_
  refine gAc rfl rfl ?_
  refine go_nil ?_
  refine go_seq ?_
  refine go_seq ?_
  refine go_region ?_
  refine gM rfl rfl ?_
  refine gr rfl (r_nilck (ot rfl)) ?_
  refine gr rfl (r_fa (ot rfl) (fa_55_0 _ _)) ?_
  refine gr rfl (r_load (ot rfl) (lm_s (mem_seg 0 rfl) ag_53 rfl)) ?_
  refine gr rfl (r_len rfl (os1 (ot rfl) os0) (fun _ _ => ln_53)) ?_
  refine gMc rfl rfl ?_
  refine go_nil ?_
  replace hF := obind hF
  obtain ⟨s2, hF, hK2⟩ := hF
  refine go_joinc (β := Option Addr × List Blk) (fun s h' => AccR R_Tsubidx_Sub 32 h' s.2 (.slice s.1 s2.length s2.length) s2) (fun s => [(2, true, .slice none 0 0), (3, true, .slice s.1 s2.length s2.length)]) (fun s => (List.flatten [s.2, [⟨bp0, .cells [.slice q0_0 p0.l.length p0.l.length] 55⟩], t0_0] : List Blk)) ?_ (fun J2 => ?_)
  ·
    rintro ⟨a2_0, a2_1⟩ h2 e2 w2 f2_0
    replace hF := hK2
    refine go_seq ?_
    refine go_region ?_
    refine gM rfl rfl ?_
    refine gA rfl rfl ?_
    refine go_nil ?_
    refine gs_accpub .z f2_0 (fun h3 e3 w3 f3_ => ?_) rfl
    obtain rfl := someI hF
    exact g_ret (rst rfl rs0) (fun h1 hf hs => ⟨[[⟨bp0, .cells [.slice q0_0 p0.l.length p0.l.length] 55⟩], t0_0], _, hf, (e2.trans e3), w3, hs, (ndb (by intro e; cases e) (ndt ((f0_0.ext e2.kn).ext e3.kn) nd0)), ⟨_, _, _, _, rfl, rfl, ((f0_0.ext e2.kn).ext e3.kn), f3_⟩⟩)
  ·
    refine go_block ?_
    refine go_loop (α := (List Tsubidx_node) × Nat × (List Tsubidx_Sub) × Option Addr × List Blk × Heap) (fun a => a.1 = List.drop a.2.1 p0.l ∧ HExt h a.2.2.2.2.2 ∧ Wf a.2.2.2.2.2 ∧ F_subidx_Index_All_L1 a.1 a.2.1 a.2.2.1 = some s2 ∧ AccR R_Tsubidx_Sub 32 a.2.2.2.2.2 a.2.2.2.2.1 (.slice a.2.2.2.1 a.2.2.1.length a.2.2.1.length) a.2.2.1) (fun a => a.1.length) (fun a => [(2, true, .slice none 0 0), (3, true, .slice a.2.2.2.1 a.2.2.1.length a.2.2.1.length), (11, true, .slice q0_0 p0.l.length p0.l.length), (12, true, .int .i64 (p0.l.length : Int)), (13, true, .int .i64 (a.2.1 : Int))]) (fun a => (List.flatten [a.2.2.2.2.1, [⟨bp0, .cells [.slice q0_0 p0.l.length p0.l.length] 55⟩], t0_0] : List Blk)) (fun a => a.2.2.2.2.2) ?_ (p0.l, 0, ([] : List Tsubidx_Sub), none, [], h) ⟨rfl, HExt.refl _, hw, hF, (AccR.nil _ _ _)⟩ (Sub.cons (Sub.cons (Sub.cons (Sub.cons (Sub.cons (Sub.nil _) rfl) rfl) rfl) rfl) rfl) rfl rfl
    rintro ⟨r4, i4, y4_0, a4_0, a4_1, h4⟩ ⟨hr4, e4, w4, hF, f4_0⟩ ih4
    rcases r4 with _ | ⟨z4, r4⟩
    ·
      have hi4 := drop_nil hr4
      rw [F_subidx_Index_All_L1.eq_1] at hF
      refine go_seq ?_
      refine go_region ?_
      refine gr rfl (r_bin (ot rfl) (ot rfl) rfl) ?_
      refine go_cast (.bool false) (congrArg Value.bool (decide_eq_false hi4)) ?_
      refine go_nil ?_
      refine go_seq ?_
      refine g_cond (b := false) (ot rfl) (fun hc5 => ?_) (fun hc5 => ?_)
      · cases hc5
      refine go_exit rfl ?_
      obtain rfl := someI hF
      exact Goes.weak (J2 (a4_0, a4_1) _ e4 w4 f4_0) (Sub.cons (Sub.cons (Sub.nil _) rfl) rfl)
    ·
      obtain ⟨hi4, hx4, hr4⟩ := drop_cons hr4
      have hb4 := (f0_0.ext e4.kn).1
      rw [F_subidx_Index_All_L1.eq_2] at hF
      refine go_seq ?_
      refine go_region ?_
      refine gr rfl (r_bin (ot rfl) (ot rfl) rfl) ?_
      refine go_cast (.bool true) (congrArg Value.bool (decide_eq_true (Int.ofNat_lt.mpr hi4))) ?_
      refine go_nil ?_
      refine go_seq ?_
      refine g_cond (b := true) (ot rfl) (fun hc6 => ?_) (fun hc6 => ?_)
      rotate_left
      · cases hc6
      refine go_skip ?_
      refine go_seq ?_
      refine go_block ?_
      refine go_seq ?_
      refine go_region ?_
      obtain ⟨bb7, rw7, row7, hp7, ht7, hR7, hw7, rc7, hz7, hi7, hd7, hb7, hl7⟩ := AccR.at_ (f0_0.ext e4.kn) ((getI_nat _ _).trans hx4)
      have hF7_ := hF
      subst hp7; subst ht7
      replace hF := hF7_
      obtain rfl := rc7
      refine gr rfl (r_ia (ot rfl) (ot rfl) (ia_acc (k := 6) ut_53 sz_58 hz7 hi7)) ?_
      refine gr rfl (r_load (ot rfl) (lm_a (vs := [.int .i64 z4.Sub.Id, .int .i64 z4.Sub.Rev, .string z4.Sub.R.From, .string z4.Sub.R.To, .string z4.top, .bool z4.all]) (mem_seg 2 rfl) ag_58 sz_58 (Nat.ble_eq_true_of_le hb7) hd7)) ?_
      refine gs_alloc rfl zo_58 rfl ?_; intro b5_8
      refine gs_store (ot rfl) (ot rfl) sz_58 rfl rfl rfl rfl rfl .z ?_
      refine go_nil ?_
      refine go_region ?_
      refine gM rfl rfl ?_
      refine gr rfl (r_fa (ot rfl) (fa_58_0 _ _)) ?_
      refine gr rfl (r_load (ot rfl) (lm_a (vs := [_, _, _, _]) (mem_seg 0 rfl) ag_32 sz_32 rfl rfl)) ?_
      refine gs_bslice (cs := [.int .i64 z4.Sub.Id, .int .i64 z4.Sub.Rev, .string z4.Sub.R.From, .string z4.Sub.R.To]) rfl (op1 (ot rfl) op0) ut_35 sz_32 zo_32 rfl rfl ?_; intro b20_9
      replace hF := obind hF
      obtain ⟨x10, hx10, hF⟩ := hF
      obtain ⟨hr10, rfl⟩ := appL_some hx10
      refine gs_front (.s (.s (.z))) ?_
      refine gs_app (rows2 := [[.int .i64 z4.Sub.Id, .int .i64 z4.Sub.Rev, .string z4.Sub.R.From, .string z4.Sub.R.To]]) (R := R_Tsubidx_Sub) rfl (os1 (ot rfl) (os1 (ot rfl) os0)) rfl ut_35 sz_32 rfl (by decide) by_32 zo_32 rfl zs_35_35 rfl rfl (first_m (mem_seg 1 rfl) rfl (by decide)) (Rws.one (x := z4.Sub) rfl) f4_0 hr10 (fun p10_ tl10 f10_ => ?_)
      refine gA rfl rfl ?_
      refine go_nil ?_
      refine go_endb ?_
      refine go_region ?_
      refine gr rfl (r_bin (ot rfl) (oc rfl) rfl) ?_
      refine gM rfl rfl ?_
      refine go_nil ?_
      refine gs_sub (.cons_cons _ (.cons _ (.cons _ (.cons_cons _ (.cons_cons _ (.refl _)))))) ?_
      refine go_re 13 (v2 := .int .i64 ((i4 + 1 : Nat) : Int)) rfl (wrap_succ hi4 hb4) ?_
      exact Goes.weak (ih4 (r4, i4 + 1, (y4_0 ++ ([z4.Sub] : List Tsubidx_Sub)), p10_, tl10, h4) ⟨hr4, e4, w4, hF, f10_⟩ (Nat.lt_succ_self _)) (Sub.cons (Sub.cons (Sub.cons (Sub.cons (Sub.cons (Sub.nil _) rfl) rfl) rfl) rfl) rfl)
theorem s_subidx_Index_Stab_1 {h : Heap} (hw : Wf h) (p0 : Tsubidx_node) (p1 : ByteArray)   {r : Int} (hF : F_subidx_Index_Stab_1 p0 p1 = some r) :
    Ev EE 29 [.agg #[.int .i64 p0.Sub.Id, .int .i64 p0.Sub.Rev, .string p0.Sub.R.From, .string p0.Sub.R.To, .string p0.top, .bool p0.all], .string p1] h (fun v _ => v = .int .i64 r) := by
  unfold F_subidx_Index_Stab_1 at hF
  refine ev_of hw rfl at_29 rfl rfl (go_seg0 ?_)
  refine go_seq ?_
  refine go_region ?_
  refine gs_box rfl (ot rfl) rfl ?_; intro b2_1
  refine gAc rfl rfl ?_
  refine go_nil ?_
  refine go_seq ?_
  refine go_seq ?_
  refine go_region ?_
  refine gr rfl (r_fa (ot rfl) (fa_58_0 _ _)) ?_
  refine gr rfl (r_fa (ot rfl) (fa_32_2 _ _)) ?_
  refine gr rfl (r_fa (ot rfl) (fa_25_0 _ _)) ?_
  refine gr rfl (r_load (ot rfl) (lm_s (mem_seg 0 rfl) ag_9 rfl)) ?_
  refine gM rfl rfl ?_
  refine gr rfl (r_bin (ot rfl) (ot rfl) rfl) ?_
  refine go_nil ?_
  refine g_cond (b := (leB p0.Sub.R.From p1)) (ot rfl) (fun hc2 => ?_) (fun hc2 => ?_)
  ·
    replace hF := ifT hc2 hF
    refine go_seq ?_
    refine go_region ?_
    refine gAc rfl rfl ?_
    refine go_nil ?_
    obtain rfl := someI hF
    exact g_ret (rst rfl rs0) (fun h1 hf hs => ⟨hs.hext, rfl⟩)
  ·
    replace hF := ifF hc2 hF
    refine go_skip ?_
    refine go_seq ?_
    refine go_region ?_
    refine gAc rfl rfl ?_
    refine go_nil ?_
    obtain rfl := someI hF
    exact g_ret (rst rfl rs0) (fun h1 hf hs => ⟨hs.hext, rfl⟩)
theorem s_slices_BinarySearchFunc_28_subidx_Index_Stab_1 (n : Nat) {h : Heap} (hw : Wf h) (p0 : (List Tsubidx_node)) (p1 : ByteArray) {a0_0 : Option Addr} {c0_0 : Nat} (f0_0 : RL R_Tsubidx_node h a0_0 c0_0 p0) {r : Int × Bool} (hF : F_slices_BinarySearchFunc_28_subidx_Index_Stab_1 n p0 p1 = some r) :
    Ev EE 28 [.slice a0_0 p0.length c0_0, .string p1, .func (.func 29) #[] #[]] h (fun v _ => v = .tuple #[.int .i64 r.1, .bool r.2]) := by
  unfold F_slices_BinarySearchFunc_28_subidx_Index_Stab_1 at hF
  refine ev_of hw rfl at_28 rfl rfl (go_seg0 ?_)
  refine go_seq ?_
  refine go_region ?_
  refine gAc rfl rfl ?_
  refine gAc rfl rfl ?_
  refine go_nil ?_
  refine go_seq ?_
  refine go_region ?_
  refine gM rfl rfl ?_
  refine gr rfl (r_len rfl (os1 (ot rfl) os0) (fun _ _ => ln_53)) ?_
  refine gA rfl rfl ?_
  refine go_nil ?_
  refine go_seq ?_
  refine go_region ?_
  refine gM rfl rfl ?_
  refine gAc rfl rfl ?_
  refine gA rfl rfl ?_
  refine go_nil ?_
  refine go_seq ?_
  replace hF := obind hF
  obtain ⟨s1, hF, hK1⟩ := hF
  refine go_joinc (β := Unit) (fun s h' => True) (fun s => [(0, true, .slice a0_0 p0.length c0_0), (1, true, .string p1), (2, true, .func (.func 29) #[] #[]), (6, true, .int .i64 0), (7, true, .bool false), (8, true, .int .i64 (p0.length : Int)), (9, true, .int .i64 s1)]) (fun s => (List.flatten [] : List Blk)) ?_ (fun J1 => ?_)
  ·
    rintro _ h1 e1 w1 _
    replace hF := hK1
    refine go_seq ?_
    refine go_region ?_
    refine gM rfl rfl ?_
    refine gM rfl rfl ?_
    refine gM rfl rfl ?_
    refine gr rfl (r_bin (ot rfl) (ot rfl) rfl) ?_
    refine gM rfl rfl ?_
    replace hF := obind hF
    obtain ⟨s3, hF, hK3⟩ := hF
    refine go_joinr 9 (β := Unit) (fun s h' => True) (fun s => [(6, true, .int .i64 0), (7, true, .bool false), (35, true, .int .i64 s1), (48, true, .bool s3)]) (fun s => (List.flatten [] : List Blk)) ?_ (fun J3 => ?_)
    ·
      rintro _ h3 e3 w3 _
      replace hF := hK3
      refine gA rfl rfl ?_
      refine gA rfl rfl ?_
      refine go_nil ?_
      obtain rfl := someI hF
      exact g_ret (rst rfl (rst rfl rs0)) (fun h1 hf hs => ⟨(e1.trans (e3.trans hs.hext)), rfl⟩)
    ·
      rcases Bool.eq_false_or_eq_true (decide (s1 < (p0.length : Int))) with hb2 | hb2
      ·
        replace hF := ifT hb2 hF
        refine go_re 39 (v2 := .bool true) rfl (congrArg Value.bool hb2) ?_
        refine g_do rfl rfl rfl ?_
        refine gM rfl rfl ?_
        refine g_do rfl rfl rfl ?_
        refine gM rfl rfl ?_
        refine g_do rfl rfl rfl ?_
        refine gM rfl rfl ?_
        refine g_do rfl rfl rfl ?_
        replace hF := obind hF
        obtain ⟨x4, hx4, hF⟩ := hF
        obtain ⟨q4, row4, i4, cl4, rc4, sp4⟩ := ix (ik := .i64) (cap := c0_0) (E := EE) (f0_0.ext e1.kn) hx4 ut_53 sz_58 rfl
        obtain rfl := rc4
        refine gr rfl (r_ia (ot rfl) (ot rfl) i4) ?_
        refine g_do rfl rfl rfl ?_
        refine gr rfl (r_load (ot rfl) (v := .agg #[.int .i64 x4.Sub.Id, .int .i64 x4.Sub.Rev, .string x4.Sub.R.From, .string x4.Sub.R.To, .string x4.top, .bool x4.all]) (lo_e (fun hf kn => ld_of (r := [.int .i64 x4.Sub.Id, .int .i64 x4.Sub.Rev, .string x4.Sub.R.From, .string x4.Sub.R.To, .string x4.top, .bool x4.all]) ag_58 sz_58 (kn.cellsAt cl4)))) ?_
        refine g_do rfl rfl rfl ?_
        refine gM rfl rfl ?_
        refine g_do rfl rfl rfl ?_
        replace hF := obind hF
        obtain ⟨x5, hx5, hF⟩ := hF
        refine g_callp (v := .int .i64 x5) EE_fr rfl (ot rfl) (os1 (ot rfl) (os1 (ot rfl) os0)) hb_29 (fun _ => rfl) (fun hf kn w => by exact s_subidx_Index_Stab_1 w x4 p1  hx5) ?_
        refine g_do rfl rfl rfl ?_
        refine gr rfl (r_bin (ot rfl) (oc rfl) rfl) ?_
        refine gr rfl (r_pkT (ot rfl) (ot rfl)) ?_
        obtain rfl := someI hF
        exact Goes.weak (J3 () _ (HExt.refl _) w1 trivial) (Sub.cons (Sub.cons (Sub.cons (Sub.cons (Sub.nil _) rfl) rfl) rfl) rfl)
      ·
        replace hF := ifF hb2 hF
        refine go_re 39 (v2 := .bool false) rfl (congrArg Value.bool hb2) ?_
        refine g_no rfl rfl rfl rfl rfl ?_
        refine g_no rfl rfl rfl rfl rfl ?_
        refine g_no rfl rfl rfl rfl rfl ?_
        refine g_no rfl rfl rfl rfl rfl ?_
        refine g_no rfl rfl rfl rfl rfl ?_
        refine g_no rfl rfl rfl rfl rfl ?_
        refine g_no rfl rfl rfl rfl rfl ?_
        refine g_no rfl rfl rfl rfl rfl ?_
        refine gr rfl (r_pkF (ot rfl) (oc rfl)) ?_
        obtain rfl := someI hF
        exact Goes.weak (J3 () _ (HExt.refl _) w1 trivial) (Sub.cons (Sub.cons (Sub.cons (Sub.cons (Sub.nil _) rfl) rfl) rfl) rfl)
  ·
    refine go_block ?_
    refine go_loop (α := Nat × Int × Int × Heap) (fun a => HExt h a.2.2.2 ∧ Wf a.2.2.2 ∧ F_slices_BinarySearchFunc_28_subidx_Index_Stab_1_L1 p0 p1 a.1 a.2.1 a.2.2.1 = some s1) (fun a => a.1) (fun a => [(0, true, .slice a0_0 p0.length c0_0), (1, true, .string p1), (2, true, .func (.func 29) #[] #[]), (6, true, .int .i64 0), (7, true, .bool false), (8, true, .int .i64 (p0.length : Int)), (9, true, .int .i64 a.2.1), (10, true, .int .i64 a.2.2.1)]) (fun a => (List.flatten [] : List Blk)) (fun a => a.2.2.2) ?_ (n, 0, (p0.length : Int), h) ⟨HExt.refl _, hw, hF⟩ (Sub.cons (Sub.cons (Sub.cons (Sub.cons (Sub.cons (Sub.cons (Sub.cons (Sub.cons (Sub.nil _) rfl) rfl) rfl) rfl) rfl) rfl) rfl) rfl) rfl rfl
    rintro ⟨m6, y6_0, y6_1, h6⟩ ⟨e6, w6, hF⟩ ih6
    rcases m6 with _ | m6
    ·
      rw [F_slices_BinarySearchFunc_28_subidx_Index_Stab_1_L1.eq_1] at hF; cases hF
    ·
      rw [F_slices_BinarySearchFunc_28_subidx_Index_Stab_1_L1.eq_2] at hF
      refine go_seq ?_
      refine go_seq ?_
      refine go_region ?_
      refine gM rfl rfl ?_
      refine gM rfl rfl ?_
      refine gr rfl (r_bin (ot rfl) (ot rfl) rfl) ?_
      refine go_nil ?_
      refine g_cond (b := (decide (y6_0 < y6_1))) (ot rfl) (fun hc7 => ?_) (fun hc7 => ?_)
      ·
        replace hF := ifT hc7 hF
        refine go_skip ?_
        refine go_block ?_
        refine go_seq ?_
        refine go_region ?_
        refine gM rfl rfl ?_
        refine gM rfl rfl ?_
        refine gr rfl (r_bin (ot rfl) (ot rfl) rfl) ?_
        refine gr rfl (r_conv (ot rfl) rfl) ?_
        refine gr rfl (r_bin (ot rfl) (oc rfl) rfl) ?_
        refine gr rfl (r_conv (ot rfl) rfl) ?_
        refine gA rfl rfl ?_
        refine go_nil ?_
        refine go_seq ?_
        refine go_region ?_
        refine gM rfl rfl ?_
        refine gM rfl rfl ?_
        refine gM rfl rfl ?_
        replace hF := obind hF
        obtain ⟨x8, hx8, hF⟩ := hF
        obtain ⟨q8, row8, i8, cl8, rc8, sp8⟩ := ix (ik := .i64) (cap := c0_0) (E := EE) (f0_0.ext e6.kn) hx8 ut_53 sz_58 rfl
        obtain rfl := rc8
        refine gr rfl (r_ia (ot rfl) (ot rfl) i8) ?_
        refine gr rfl (r_load (ot rfl) (v := .agg #[.int .i64 x8.Sub.Id, .int .i64 x8.Sub.Rev, .string x8.Sub.R.From, .string x8.Sub.R.To, .string x8.top, .bool x8.all]) (lo_e (fun hf kn => ld_of (r := [.int .i64 x8.Sub.Id, .int .i64 x8.Sub.Rev, .string x8.Sub.R.From, .string x8.Sub.R.To, .string x8.top, .bool x8.all]) ag_58 sz_58 (kn.cellsAt cl8)))) ?_
        refine gM rfl rfl ?_
        replace hF := obind hF
        obtain ⟨x9, hx9, hF⟩ := hF
        refine g_callp (v := .int .i64 x9) EE_fr rfl (ot rfl) (os1 (ot rfl) (os1 (ot rfl) os0)) hb_29 (fun _ => rfl) (fun hf kn w => by exact s_subidx_Index_Stab_1 w x8 p1  hx9) ?_
        refine gr rfl (r_bin (ot rfl) (oc rfl) rfl) ?_
        refine go_nil ?_
        refine g_cond (b := (decide (x9 < 0))) (ot rfl) (fun hc10 => ?_) (fun hc10 => ?_)
        ·
          replace hF := ifT hc10 hF
          refine go_region ?_
          refine gM rfl rfl ?_
          refine gr rfl (r_bin (ot rfl) (oc rfl) rfl) ?_
          refine gA rfl rfl ?_
          refine go_nil ?_
          refine go_endb ?_
          exact Goes.weak (ih6 (m6, (IntKind.i64.wrap ((IntKind.i64.wrap (shrI .u64 (IntKind.u64.wrap (IntKind.i64.wrap (y6_0 + y6_1))) 1)) + 1)), y6_1, h6) ⟨e6, w6, hF⟩ (Nat.lt_succ_self _)) (Sub.cons (Sub.cons (Sub.cons (Sub.cons (Sub.cons (Sub.cons (Sub.cons (Sub.cons (Sub.nil _) rfl) rfl) rfl) rfl) rfl) rfl) rfl) rfl)
        ·
          replace hF := ifF hc10 hF
          refine go_region ?_
          refine gM rfl rfl ?_
          refine gA rfl rfl ?_
          refine go_nil ?_
          refine go_endb ?_
          exact Goes.weak (ih6 (m6, y6_0, (IntKind.i64.wrap (shrI .u64 (IntKind.u64.wrap (IntKind.i64.wrap (y6_0 + y6_1))) 1)), h6) ⟨e6, w6, hF⟩ (Nat.lt_succ_self _)) (Sub.cons (Sub.cons (Sub.cons (Sub.cons (Sub.cons (Sub.cons (Sub.cons (Sub.cons (Sub.nil _) rfl) rfl) rfl) rfl) rfl) rfl) rfl) rfl)
      ·
        replace hF := ifF hc7 hF
        refine go_exit rfl ?_
        obtain rfl := someI hF
        exact Goes.weak (J1 () _ e6 w6 trivial) (Sub.cons (Sub.cons (Sub.cons (Sub.cons (Sub.cons (Sub.cons (Sub.cons (Sub.nil _) rfl) rfl) rfl) rfl) rfl) rfl) rfl)
theorem s_key_In {h : Heap} (hw : Wf h) (p0 : TRange) (p1 : ByteArray)   {r : Bool} (hF : F_key_In p0 p1 = some r) :
    Ev EE 30 [.agg #[.string p0.From, .string p0.To], .string p1] h (fun v _ => v = .bool r) := by
  unfold F_key_In at hF
  refine ev_of hw rfl at_30 rfl rfl (go_seg0 ?_)
  refine go_seq ?_
  refine go_region ?_
  refine gs_box rfl (ot rfl) rfl ?_; intro b2_1
  refine gAc rfl rfl ?_
  refine go_nil ?_
  refine go_seq ?_
  refine go_region ?_
  refine gr rfl (r_fa (ot rfl) (fa_25_0 _ _)) ?_
  refine gr rfl (r_load (ot rfl) (lm_s (mem_seg 0 rfl) ag_9 rfl)) ?_
  refine gM rfl rfl ?_
  refine gr rfl (r_bin (ot rfl) (ot rfl) rfl) ?_
  refine gM rfl rfl ?_
  refine grt rfl rfl rfl rfl (r_fa (ot rfl) (fa_25_1 _ _)) ?_
  refine grt rfl rfl rfl rfl (r_load (og rfl id) (lm_s (mem_seg 0 rfl) ag_9 rfl)) ?_
  refine grt rfl rfl rfl rfl (r_bin (og rfl id) (oc rfl) rfl) ?_
  refine grt rfl rfl rfl rfl (r_move (og rfl id)) ?_
  refine grf' rfl rfl rfl rfl (r_move (ot rfl)) ?_
  refine grf' rfl rfl rfl rfl (r_fa (ot rfl) (fa_25_1 _ _)) ?_
  refine grf' rfl rfl rfl rfl (r_load (og rfl id) (lm_s (mem_seg 0 rfl) ag_9 rfl)) ?_
  refine grf' rfl rfl rfl rfl (r_bin (og rfl id) (og rfl id) rfl) ?_
  refine grt rfl rfl rfl rfl (r_pickb (og rfl id) (oc rfl) (og rfl id)) ?_
  refine gr rfl (r_pickb (ot rfl) (og rfl id) (oc rfl)) ?_
  refine gA rfl rfl ?_
  refine go_nil ?_
  obtain rfl := someI hF
  exact g_ret (rst rfl rs0) (fun h1 hf hs => ⟨hs.hext, rfl⟩)
theorem s_subidx_Index_Stab (n : Nat) {h : Heap} (hw : Wf h) (p0 : Osubidx_Index) (p1 : ByteArray) (p2 : Int) {bp0 : Nat} {q0_0 : Option Addr} {t0_0 : List Blk} (f0_0 : AccR R_Tsubidx_node 58 h t0_0 (.slice q0_0 p0.l.length p0.l.length) p0.l) {r : (List Int) × Osubidx_Index} (hF : F_subidx_Index_Stab n p0 p1 p2 = some r) :
    EvO EE 16 [.pointer (some ⟨bp0, 0, none⟩), .string p1, .int .i64 p2] [[⟨bp0, .cells [.slice q0_0 p0.l.length p0.l.length] 55⟩], t0_0] h (fun v S h1 => ∃ qy0_0 ty0_0 a0 c0, v = .slice a0 r.1.length c0 ∧ S = [[⟨bp0, .cells [.slice qy0_0 r.2.l.length r.2.l.length] 55⟩], ty0_0] ∧ AccR R_Tsubidx_node 58 h1 ty0_0 (.slice qy0_0 r.2.l.length r.2.l.length) r.2.l ∧ RL (RI_ .i64 3) h1 a0 c0 r.1) := by
  unfold F_subidx_Index_Stab at hF
  refine evo_of rfl at_16 rfl rfl ?_
  refine go_seq ?_
  refine go_region ?_
  refine gAc rfl rfl ?_
  refine go_nil ?_
  refine go_seq ?_
  refine go_seq ?_
  refine go_region ?_
  refine gM rfl rfl ?_
  refine gr rfl (r_bin (v := .bool false) (ot rfl) (oc rfl) (by first | rfl | kernel_rfl)) ?_
  refine go_nil ?_
  refine g_cond (b := false) (ot rfl) (fun hc1 => ?_) (fun hc1 => ?_)
  · cases hc1
  refine go_skip ?_
  refine go_seq ?_
  refine go_region ?_
  refine gM rfl rfl ?_
  refine gr rfl (r_nilck (ot rfl)) ?_
  refine gr rfl (r_fa (ot rfl) (fa_55_0 _ _)) ?_
  refine gr rfl (r_load (ot rfl) (lm_s (mem_seg 0 rfl) ag_53 rfl)) ?_
  refine gM rfl rfl ?_
  replace hF := obind hF
  obtain ⟨x2, hx2, hF⟩ := hF
  refine gs_callb (v := .tuple #[.int .i64 x2.1, .bool x2.2]) EE_fr rfl (.s (.z)) f0_0 rfl of (os1 (ot rfl) (os1 (ot rfl) (os1 of os0))) hb_28 (fun hf kn w fb2 => by exact s_slices_BinarySearchFunc_28_subidx_Index_Stab_1 n w p0.l p1 fb2 hx2) ?_
  refine gM rfl rfl ?_
  refine gE rfl rfl rfl ?_
  refine gE rfl rfl rfl ?_
  refine gA rfl rfl ?_
  refine gA rfl rfl ?_
  refine go_nil ?_
  refine go_seq ?_
  refine go_region ?_
  refine gAc rfl rfl ?_
  refine go_nil ?_
  refine go_seq ?_
  refine go_seq ?_
  refine go_region ?_
  refine gM rfl rfl ?_
  refine gr rfl (r_bin (ot rfl) (oc rfl) rfl) ?_
  refine gA rfl rfl ?_
  refine go_nil ?_
  replace hF := obind hF
  obtain ⟨s3, hF, hK3⟩ := hF
  refine go_joinc (β := Option Addr × List Blk) (fun s h' => AccR (RI_ .i64 3) 3 h' s.2 (.slice s.1 s3.length s3.length) s3) (fun s => [(6, true, .slice none 0 0), (9, true, .slice s.1 s3.length s3.length)]) (fun s => (List.flatten [s.2, [⟨bp0, .cells [.slice q0_0 p0.l.length p0.l.length] 55⟩], t0_0] : List Blk)) ?_ (fun J3 => ?_)
  ·
    rintro ⟨a3_0, a3_1⟩ h3 e3 w3 f3_0
    replace hF := hK3
    refine go_seq ?_
    refine go_region ?_
    refine gM rfl rfl ?_
    replace hF := obind hF
    obtain ⟨x4, hx4, hF⟩ := hF
    have hl4 := sortZ_len hx4
    refine gs_call EE_fr w3 (.cons .z .nil) (fun _ h => by cases h; rfl) of (os1 (ot rfl) os0) hb_31 (by exact evo_sortZ rfl f3_0 hx4) ?_
    rintro v4 S4 h4 e4 w4 ⟨t4, rfl, rfl, f4_⟩
    simp only [List.cons_append, List.nil_append]
    refine go_re 9 (v2 := .slice a3_0 x4.length x4.length) rfl (by rw [hl4]) ?_
    refine go_re 76 (v2 := .slice a3_0 x4.length x4.length) rfl (by rw [hl4]) ?_
    refine go_nil ?_
    refine go_seq ?_
    refine go_region ?_
    refine gM rfl rfl ?_
    refine gA rfl rfl ?_
    refine go_nil ?_
    refine gs_accpub .z f4_ (fun h5 e5 w5 f5_ => ?_) rfl
    obtain rfl := someI hF
    exact g_ret (rst rfl rs0) (fun h1 hf hs => ⟨[[⟨bp0, .cells [.slice q0_0 p0.l.length p0.l.length] 55⟩], t0_0], _, hf, (e3.trans (e4.trans e5)), w5, hs, (ndb (by intro e; cases e) (ndt (((f0_0.ext e3.kn).ext e4.kn).ext e5.kn) nd0)), ⟨_, _, _, _, rfl, rfl, (((f0_0.ext e3.kn).ext e4.kn).ext e5.kn), f5_⟩⟩)
  ·
    refine go_block ?_
    refine go_loop (α := Nat × (List Int) × Int × Option Addr × List Blk × Heap) (fun a => HExt h a.2.2.2.2.2 ∧ Wf a.2.2.2.2.2 ∧ F_subidx_Index_Stab_L1 p0 p1 p2 a.1 a.2.1 a.2.2.1 = some s3 ∧ AccR (RI_ .i64 3) 3 a.2.2.2.2.2 a.2.2.2.2.1 (.slice a.2.2.2.1 a.2.1.length a.2.1.length) a.2.1) (fun a => a.1) (fun a => [(0, true, .pointer (some ⟨bp0, 0, none⟩)), (1, true, .string p1), (2, true, .int .i64 p2), (6, true, .slice none 0 0), (9, true, .slice a.2.2.2.1 a.2.1.length a.2.1.length), (10, true, .int .i64 a.2.2.1)]) (fun a => (List.flatten [a.2.2.2.2.1, [⟨bp0, .cells [.slice q0_0 p0.l.length p0.l.length] 55⟩], t0_0] : List Blk)) (fun a => a.2.2.2.2.2) ?_ (n, ([] : List Int), (IntKind.i64.wrap (x2.1 - 1)), none, [], h) ⟨HExt.refl _, hw, hF, (AccR.nil _ _ _)⟩ (Sub.cons (Sub.cons (Sub.cons (Sub.cons (Sub.cons (Sub.cons (Sub.nil _) rfl) rfl) rfl) rfl) rfl) rfl) rfl rfl
    rintro ⟨m6, y6_0, y6_1, a6_0, a6_1, h6⟩ ⟨e6, w6, hF, f6_0⟩ ih6
    rcases m6 with _ | m6
    ·
      rw [F_subidx_Index_Stab_L1.eq_1] at hF; cases hF
    ·
      rw [F_subidx_Index_Stab_L1.eq_2] at hF
      refine go_seq ?_
      refine go_seq ?_
      refine go_region ?_
      refine gM rfl rfl ?_
      refine gr rfl (r_bin (ot rfl) (oc rfl) rfl) ?_
      refine gM rfl rfl ?_
      replace hF := obind hF
      obtain ⟨s8, hF, hK8⟩ := hF
      refine go_joinr 21 (β := Unit) (fun s h' => True) (fun s => [(0, true, .pointer (some ⟨bp0, 0, none⟩)), (1, true, .string p1), (2, true, .int .i64 p2), (6, true, .slice none 0 0), (9, true, .slice a6_0 y6_0.length y6_0.length), (10, true, .int .i64 y6_1), (25, true, .int .i64 y6_1), (26, true, .bool (decide (y6_1 ≥ 0))), (27, true, .bool s8.1), (48, true, .bool s8.2)]) (fun s => (List.flatten [a6_1, [⟨bp0, .cells [.slice q0_0 p0.l.length p0.l.length] 55⟩], t0_0] : List Blk)) ?_ (fun J8 => ?_)
      ·
        rintro _ h8 e8 w8 _
        replace hF := hK8
        refine go_nil ?_
        refine g_cond (b := s8.2) (ot rfl) (fun hc9 => ?_) (fun hc9 => ?_)
        ·
          replace hF := ifT hc9 hF
          refine go_skip ?_
          refine go_seq ?_
          refine go_block ?_
          refine go_seq ?_
          refine go_region ?_
          refine gM rfl rfl ?_
          refine gr rfl (r_nilck (ot rfl)) ?_
          refine gr rfl (r_fa (ot rfl) (fa_55_0 _ _)) ?_
          refine gr rfl (r_load (ot rfl) (lm_s (mem_seg 1 rfl) ag_53 rfl)) ?_
          refine gM rfl rfl ?_
          replace hF := obind hF
          obtain ⟨x10, hx10, hF⟩ := hF
          obtain ⟨bb10, rw10, row10, hp10, ht10, hR10, hw10, rc10, hz10, hi10, hd10, hb10, hl10⟩ := AccR.at_ ((f0_0.ext e6.kn).ext e8.kn) hx10
          have hF10_ := hF
          subst hp10; subst ht10
          replace hF := hF10_
          obtain rfl := rc10
          refine gr rfl (r_ia (ot rfl) (ot rfl) (ia_acc (k := 6) ut_53 sz_58 hz10 hi10)) ?_
          refine gr rfl (r_load (ot rfl) (lm_a (vs := [.int .i64 x10.Sub.Id, .int .i64 x10.Sub.Rev, .string x10.Sub.R.From, .string x10.Sub.R.To, .string x10.top, .bool x10.all]) (mem_seg 2 rfl) ag_58 sz_58 (Nat.ble_eq_true_of_le hb10) hd10)) ?_
          refine gs_alloc rfl zo_58 rfl ?_; intro b11_11
          refine gs_store (ot rfl) (ot rfl) sz_58 rfl rfl rfl rfl rfl .z ?_
          refine go_nil ?_
          refine go_seq ?_
          refine go_region ?_
          refine gr rfl (r_fa (ot rfl) (fa_58_0 _ _)) ?_
          refine gr rfl (r_fa (ot rfl) (fa_32_2 _ _)) ?_
          refine gr rfl (r_load (ot rfl) (lm_a (vs := [_, _]) (mem_seg 0 rfl) ag_25 sz_25 rfl rfl)) ?_
          refine gM rfl rfl ?_
          replace hF := obind hF
          obtain ⟨x12, hx12, hF⟩ := hF
          refine g_callp (v := .bool x12) EE_fr rfl of (os1 (ot rfl) (os1 (ot rfl) os0)) hb_30 (fun _ => rfl) (fun hf kn w => by exact s_key_In w x10.Sub.R p1  hx12) ?_
          refine gM rfl rfl ?_
          refine grt rfl rfl rfl rfl (r_fa (ot rfl) (fa_58_0 _ _)) ?_
          refine grt rfl rfl rfl rfl (r_fa (og rfl id) (fa_32_1 _ _)) ?_
          refine grt rfl rfl rfl rfl (r_load (og rfl id) (lm_s (mem_seg 0 rfl) ag_3 rfl)) ?_
          refine grt rfl rfl rfl rfl (r_move (ot rfl)) ?_
          refine grt rfl rfl rfl rfl (r_bin (og rfl id) (og rfl id) rfl) ?_
          refine gr rfl (r_pickb (ot rfl) (og rfl id) (oc rfl)) ?_
          refine go_nil ?_
          replace hF := obind hF
          obtain ⟨s14, hF, hK14⟩ := hF
          refine go_joinc (β := Option Addr × List Blk) (fun s h' => AccR (RI_ .i64 3) 3 h' s.2 (.slice s.1 s14.length s14.length) s14) (fun s => [(0, true, .pointer (some ⟨bp0, 0, none⟩)), (1, true, .string p1), (2, true, .int .i64 p2), (6, true, .slice none 0 0), (9, true, .slice s.1 s14.length s14.length), (10, true, .int .i64 y6_1), (11, true, .pointer (some ⟨b11_11, 0, none⟩)), (25, true, .int .i64 y6_1), (26, true, .bool (decide (y6_1 ≥ 0))), (27, true, .bool s8.1), (48, true, .bool s8.2), (51, true, .pointer (some ⟨bp0, 0, none⟩)), (52, true, .pointer (some ⟨bp0, 0, none⟩)), (53, true, .pointer (some ⟨bp0, 0, none⟩)), (54, true, .slice (some ⟨bb10, 0, some 0⟩) p0.l.length p0.l.length), (55, true, .int .i64 y6_1), (56, true, .pointer (some ⟨bb10, y6_1.toNat * 6, none⟩)), (57, true, .agg #[.int .i64 x10.Sub.Id, .int .i64 x10.Sub.Rev, .string x10.Sub.R.From, .string x10.Sub.R.To, .string x10.top, .bool x10.all]), (58, true, .pointer (some ⟨b11_11, 0, none⟩)), (59, true, .pointer (some ⟨b11_11, 2, none⟩)), (60, true, .agg #[.string x10.Sub.R.From, .string x10.Sub.R.To]), (61, true, .string p1), (62, true, .bool x12), (63, true, .bool x12), (69, true, .bool (bif x12 then (decide (x10.Sub.Rev < p2)) else false))]) (fun s => (List.flatten [[⟨b11_11, .cells [.int .i64 x10.Sub.Id, .int .i64 x10.Sub.Rev, .string x10.Sub.R.From, .string x10.Sub.R.To, .string x10.top, .bool x10.all] 58⟩], s.2, [⟨bp0, .cells [.slice (some ⟨bb10, 0, some 0⟩) p0.l.length p0.l.length] 55⟩], [⟨bb10, .cells rw10.flatten 58⟩]] : List Blk)) ?_ (fun J14 => ?_)
          ·
            rintro ⟨a14_0, a14_1⟩ h14 e14 w14 f14_0
            replace hF := hK14
            refine go_endb ?_
            refine go_region ?_
            refine gM rfl rfl ?_
            refine gr rfl (r_bin (ot rfl) (oc rfl) rfl) ?_
            refine gA rfl rfl ?_
            refine go_nil ?_
            refine gs_sub (.cons _ (.cons_cons _ (.cons_cons _ (.cons_cons _ (.refl _))))) ?_
            exact Goes.weak (ih6 (m6, s14, (IntKind.i64.wrap (y6_1 - 1)), a14_0, a14_1, h14) ⟨(e6.trans (e8.trans e14)), w14, hF, f14_0⟩ (Nat.lt_succ_self _)) (Sub.cons (Sub.cons (Sub.cons (Sub.cons (Sub.cons (Sub.cons (Sub.nil _) rfl) rfl) rfl) rfl) rfl) rfl)
          ·
            refine g_cond (b := (bif x12 then (decide (x10.Sub.Rev < p2)) else false)) (ot rfl) (fun hc13 => ?_) (fun hc13 => ?_)
            ·
              replace hF := ifT hc13 hF
              refine go_region ?_
              refine gM rfl rfl ?_
              refine gr rfl (r_fa (ot rfl) (fa_58_0 _ _)) ?_
              refine gr rfl (r_fa (ot rfl) (fa_32_0 _ _)) ?_
              refine gr rfl (r_load (ot rfl) (lm_s (mem_seg 0 rfl) ag_3 rfl)) ?_
              refine gs_bslice (cs := [.int .i64 x10.Sub.Id]) rfl (op1 (ot rfl) op0) ut_38 sz_3 zo_3 rfl rfl ?_; intro b74_15
              replace hF := obind hF
              obtain ⟨x16, hx16, hF⟩ := hF
              obtain ⟨hr16, rfl⟩ := appL_some hx16
              refine gs_front (.s (.s (.z))) ?_
              refine gs_app (rows2 := [[.int .i64 x10.Sub.Id]]) (R := (RI_ .i64 3)) rfl (os1 (ot rfl) (os1 (ot rfl) os0)) rfl ut_38 sz_3 rfl (by decide) by_3 zo_3 rfl zs_38_38 rfl rfl (first_m (mem_seg 1 rfl) rfl (by decide)) (Rws.one (x := x10.Sub.Id) rfl) (f6_0.ext e8.kn) hr16 (fun p16_ tl16 f16_ => ?_)
              refine gA rfl rfl ?_
              refine go_nil ?_
              obtain rfl := someI hF
              refine gs_sub (.cons_cons _ (.cons _ (.cons_cons _ (.cons_cons _ (.cons_cons _ (.refl _)))))) ?_
              refine gs_perm (perm_of (d := []) _ [1, 0, 2, 3] rfl) ?_
              exact Goes.weak (J14 (p16_, tl16) _ (HExt.refl _) w8 f16_) (Sub.cons (Sub.cons (Sub.cons (Sub.cons (Sub.cons (Sub.cons (Sub.cons (Sub.cons (Sub.cons (Sub.cons (Sub.cons (Sub.cons (Sub.cons (Sub.cons (Sub.cons (Sub.cons (Sub.cons (Sub.cons (Sub.cons (Sub.cons (Sub.cons (Sub.cons (Sub.cons (Sub.cons (Sub.cons (Sub.nil _) rfl) rfl) rfl) rfl) rfl) rfl) rfl) rfl) rfl) rfl) rfl) rfl) rfl) rfl) rfl) rfl) rfl) rfl) rfl) rfl) rfl) rfl) rfl) rfl) rfl)
            ·
              replace hF := ifF hc13 hF
              refine go_skip ?_
              obtain rfl := someI hF
              exact Goes.weak (J14 (a6_0, a6_1) _ (HExt.refl _) w8 (f6_0.ext e8.kn)) (Sub.cons (Sub.cons (Sub.cons (Sub.cons (Sub.cons (Sub.cons (Sub.cons (Sub.cons (Sub.cons (Sub.cons (Sub.cons (Sub.cons (Sub.cons (Sub.cons (Sub.cons (Sub.cons (Sub.cons (Sub.cons (Sub.cons (Sub.cons (Sub.cons (Sub.cons (Sub.cons (Sub.cons (Sub.cons (Sub.nil _) rfl) rfl) rfl) rfl) rfl) rfl) rfl) rfl) rfl) rfl) rfl) rfl) rfl) rfl) rfl) rfl) rfl) rfl) rfl) rfl) rfl) rfl) rfl) rfl) rfl)
        ·
          replace hF := ifF hc9 hF
          refine go_exit rfl ?_
          obtain rfl := someI hF
          exact Goes.weak (J3 (a6_0, a6_1) _ (e6.trans e8) w8 (f6_0.ext e8.kn)) (Sub.cons (Sub.cons (Sub.nil _) rfl) rfl)
      ·
        rcases Bool.eq_false_or_eq_true (decide (y6_1 ≥ 0)) with hb7 | hb7
        ·
          replace hF := ifT hb7 hF
          refine go_re 27 (v2 := .bool true) rfl (congrArg Value.bool hb7) ?_
          refine g_do rfl rfl rfl ?_
          refine gM rfl rfl ?_
          refine g_do rfl rfl rfl ?_
          refine gr rfl (r_nilck (ot rfl)) ?_
          refine g_do rfl rfl rfl ?_
          refine gr rfl (r_fa (ot rfl) (fa_55_0 _ _)) ?_
          refine g_do rfl rfl rfl ?_
          refine gr rfl (r_load (ot rfl) (lm_s (mem_seg 1 rfl) ag_53 rfl)) ?_
          refine g_do rfl rfl rfl ?_
          refine gM rfl rfl ?_
          refine g_do rfl rfl rfl ?_
          replace hF := obind hF
          obtain ⟨x17, hx17, hF⟩ := hF
          obtain ⟨bb17, rw17, row17, hp17, ht17, hR17, hw17, rc17, hz17, hi17, hd17, hb17, hl17⟩ := AccR.at_ (f0_0.ext e6.kn) hx17
          have hF17_ := hF
          subst hp17; subst ht17
          replace hF := hF17_
          obtain rfl := rc17
          refine gr rfl (r_ia (ot rfl) (ot rfl) (ia_acc (k := 6) ut_53 sz_58 hz17 hi17)) ?_
          refine g_do rfl rfl rfl ?_
          refine gr rfl (r_fa (ot rfl) (fa_58_2 _ _)) ?_
          refine g_do rfl rfl rfl ?_
          refine gr rfl (r_load (ot rfl) (lm_s (mem_seg 2 rfl) ag_4 (acc_cell (j := 5) hd17 rfl))) ?_
          refine g_do rfl rfl rfl ?_
          refine gM rfl rfl ?_
          replace hF := obind hF
          obtain ⟨s19, hF, hK19⟩ := hF
          refine go_joinr 11 (β := Unit) (fun s h' => True) (fun s => [(0, true, .pointer (some ⟨bp0, 0, none⟩)), (1, true, .string p1), (2, true, .int .i64 p2), (6, true, .slice none 0 0), (9, true, .slice a6_0 y6_0.length y6_0.length), (10, true, .int .i64 y6_1), (25, true, .int .i64 y6_1), (26, true, .bool (decide (y6_1 ≥ 0))), (27, true, .bool true), (28, true, .pointer (some ⟨bp0, 0, none⟩)), (29, true, .pointer (some ⟨bp0, 0, none⟩)), (30, true, .pointer (some ⟨bp0, 0, none⟩)), (31, true, .slice (some ⟨bb17, 0, some 0⟩) p0.l.length p0.l.length), (32, true, .int .i64 y6_1), (33, true, .pointer (some ⟨bb17, y6_1.toNat * 6, none⟩)), (34, true, .pointer (some ⟨bb17, y6_1.toNat * 6 + 5, none⟩)), (35, true, .bool x17.all), (36, true, .bool s19.1), (47, true, .bool s19.2)]) (fun s => (List.flatten [a6_1, [⟨bp0, .cells [.slice (some ⟨bb17, 0, some 0⟩) p0.l.length p0.l.length] 55⟩], [⟨bb17, .cells rw17.flatten 58⟩]] : List Blk)) ?_ (fun J19 => ?_)
          ·
            rintro _ h19 e19 w19 _
            replace hF := hK19
            refine gr rfl (r_pkT (ot rfl) (ot rfl)) ?_
            obtain rfl := someI hF
            exact Goes.weak (J8 () _ e19 w19 trivial) (Sub.cons (Sub.cons (Sub.cons (Sub.cons (Sub.cons (Sub.cons (Sub.cons (Sub.cons (Sub.cons (Sub.cons (Sub.nil _) rfl) rfl) rfl) rfl) rfl) rfl) rfl) rfl) rfl) rfl)
          ·
            rcases Bool.eq_false_or_eq_true x17.all with hb18 | hb18
            ·
              replace hF := ifT hb18 hF
              refine go_re 36 (v2 := .bool true) rfl (congrArg Value.bool hb18) ?_
              refine g_no rfl rfl rfl rfl rfl ?_
              refine g_no rfl rfl rfl rfl rfl ?_
              refine g_no rfl rfl rfl rfl rfl ?_
              refine g_no rfl rfl rfl rfl rfl ?_
              refine g_no rfl rfl rfl rfl rfl ?_
              refine g_no rfl rfl rfl rfl rfl ?_
              refine g_no rfl rfl rfl rfl rfl ?_
              refine g_no rfl rfl rfl rfl rfl ?_
              refine g_no rfl rfl rfl rfl rfl ?_
              refine g_no rfl rfl rfl rfl rfl ?_
              refine g_do rfl rfl rfl ?_
              refine gr rfl (r_pkT (ot rfl) (oc rfl)) ?_
              obtain rfl := someI hF
              exact Goes.weak (J19 () _ (HExt.refl _) w6 trivial) (Sub.cons (Sub.cons (Sub.cons (Sub.cons (Sub.cons (Sub.cons (Sub.cons (Sub.cons (Sub.cons (Sub.cons (Sub.cons (Sub.cons (Sub.cons (Sub.cons (Sub.cons (Sub.cons (Sub.cons (Sub.cons (Sub.cons (Sub.nil _) rfl) rfl) rfl) rfl) rfl) rfl) rfl) rfl) rfl) rfl) rfl) rfl) rfl) rfl) rfl) rfl) rfl) rfl) rfl)
            ·
              replace hF := ifF hb18 hF
              refine go_re 36 (v2 := .bool false) rfl (congrArg Value.bool hb18) ?_
              refine g_do rfl rfl rfl ?_
              refine gM rfl rfl ?_
              refine g_do rfl rfl rfl ?_
              refine gr rfl (r_nilck (ot rfl)) ?_
              refine g_do rfl rfl rfl ?_
              refine gr rfl (r_fa (ot rfl) (fa_55_0 _ _)) ?_
              refine g_do rfl rfl rfl ?_
              refine gr rfl (r_load (ot rfl) (lm_s (mem_seg 1 rfl) ag_53 rfl)) ?_
              refine g_do rfl rfl rfl ?_
              refine gM rfl rfl ?_
              refine g_do rfl rfl rfl ?_
              replace hF := obind hF
              obtain ⟨x20, hx20, hF⟩ := hF
              obtain ⟨row20, hw20, rc20, hz20, hi20, hd20, hb20⟩ := hR17.at2 hx20
              obtain rfl := rc20
              refine gr rfl (r_ia (ot rfl) (ot rfl) (ia_acc (k := 6) ut_53 sz_58 hz20 hi20)) ?_
              refine g_do rfl rfl rfl ?_
              refine gr rfl (r_fa (ot rfl) (fa_58_1 _ _)) ?_
              refine g_do rfl rfl rfl ?_
              refine gr rfl (r_load (ot rfl) (lm_s (mem_seg 2 rfl) ag_9 (acc_cell (j := 4) hd20 rfl))) ?_
              refine g_do rfl rfl rfl ?_
              refine gM rfl rfl ?_
              refine g_do rfl rfl rfl ?_
              refine gr rfl (r_bin (ot rfl) (ot rfl) rfl) ?_
              refine g_do rfl rfl rfl ?_
              refine gr rfl (r_pkF (ot rfl) (ot rfl)) ?_
              obtain rfl := someI hF
              exact Goes.weak (J19 () _ (HExt.refl _) w6 trivial) (Sub.cons (Sub.cons (Sub.cons (Sub.cons (Sub.cons (Sub.cons (Sub.cons (Sub.cons (Sub.cons (Sub.cons (Sub.cons (Sub.cons (Sub.cons (Sub.cons (Sub.cons (Sub.cons (Sub.cons (Sub.cons (Sub.cons (Sub.nil _) rfl) rfl) rfl) rfl) rfl) rfl) rfl) rfl) rfl) rfl) rfl) rfl) rfl) rfl) rfl) rfl) rfl) rfl) rfl)
        ·
          replace hF := ifF hb7 hF
          refine go_re 27 (v2 := .bool false) rfl (congrArg Value.bool hb7) ?_
          refine g_no rfl rfl rfl rfl rfl ?_
          refine g_no rfl rfl rfl rfl rfl ?_
          refine g_no rfl rfl rfl rfl rfl ?_
          refine g_no rfl rfl rfl rfl rfl ?_
          refine g_no rfl rfl rfl rfl rfl ?_
          refine g_no rfl rfl rfl rfl rfl ?_
          refine g_no rfl rfl rfl rfl rfl ?_
          refine g_no rfl rfl rfl rfl rfl ?_
          refine g_no rfl rfl rfl rfl rfl ?_
          refine g_nu rfl rfl rfl rfl ?_
          refine g_nu rfl rfl rfl rfl ?_
          refine g_nu rfl rfl rfl rfl ?_
          refine g_nu rfl rfl rfl rfl ?_
          refine g_nu rfl rfl rfl rfl ?_
          refine g_nu rfl rfl rfl rfl ?_
          refine g_nu rfl rfl rfl rfl ?_
          refine g_nu rfl rfl rfl rfl ?_
          refine g_nu rfl rfl rfl rfl ?_
          refine g_nu rfl rfl rfl rfl ?_
          refine g_no rfl rfl rfl rfl rfl ?_
          refine gr rfl (r_pkF (ot rfl) (oc rfl)) ?_
          obtain rfl := someI hF
          exact Goes.weak (J8 () _ (HExt.refl _) w6 trivial) (Sub.cons (Sub.cons (Sub.cons (Sub.cons (Sub.cons (Sub.cons (Sub.cons (Sub.cons (Sub.cons (Sub.cons (Sub.nil _) rfl) rfl) rfl) rfl) rfl) rfl) rfl) rfl) rfl) rfl)
theorem s_law11_SubidxPlays (n : Nat) {h : Heap} (hw : Wf h) (p0 : (List Timpostlaw11_Deed)) (p1 : ByteArray) (p2 : Int) {a0_0 : Option Addr} {c0_0 : Nat} (f0_0 : RL R_Timpostlaw11_Deed h a0_0 c0_0 p0) {r : Bool} (hF : F_law11_SubidxPlays n p0 p1 p2 = some r) :
    Ev EE 4 [.slice a0_0 p0.length c0_0, .string p1, .int .i64 p2] h (fun v _ => v = .bool r) := by
  unfold F_law11_SubidxPlays at hF
  refine ev_of hw rfl at_4 rfl rfl (go_seg0 ?_)
  refine go_seq ?_
  refine go_region ?_
  refine gAc rfl rfl ?_
  refine go_nil ?_
  refine go_seq ?_
  refine go_region ?_
  refine g_callp EE_fr rfl of os0 hb_9 (fun _ => rfl) (fun hf kn w => by exact known_evp rfl hf w) ?_
  refine gA rfl rfl ?_
  refine go_nil ?_
  refine go_seq ?_
  refine go_region ?_
  replace hF := obind hF
  obtain ⟨x2, hx2, hF⟩ := hF
  refine gs_call EE_fr hw .nil (fun _ h => by cases h; rfl) of os0 hb_10 (by exact s_subidx_New hw   hx2) ?_
  rintro v2 S2 h2 e2 w2 ⟨b2_w0, q2_w0_0, t2_w0_0, rfl, rfl, f2_0⟩
  simp only [List.cons_append, List.nil_append]
  refine gA rfl rfl ?_
  refine go_nil ?_
  refine go_seq ?_
  refine go_region ?_
  refine gAc rfl rfl ?_
  refine go_nil ?_
  refine go_seq ?_
  refine go_seq ?_
  refine go_region ?_
  refine gAc rfl rfl ?_
  refine go_nil ?_
  replace hF := obind hF
  obtain ⟨s3, hF, hK3⟩ := hF
  refine go_joinc (β := ((List Tsubidx_node)) × Option Addr × List Blk) (fun s h' => s3 = .go s.1 ∧ AccR R_Tsubidx_node 58 h' s.2.2 (.slice s.2.1 s.1.length s.1.length) s.1) (fun s => [(6, true, .bool false), (7, true, .bool true)]) (fun s => (List.flatten [[⟨b2_w0, .cells [.slice s.2.1 s.1.length s.1.length] 55⟩], s.2.2] : List Blk)) ?_ (fun J3 => ?_)
  ·
    rintro ⟨x3_0, a3_0, a3_1⟩ h3 e3 w3 ⟨hs3, f3_0⟩
    subst hs3
    replace hF := lpgo hK3
    refine go_seq ?_
    refine go_region ?_
    refine gM rfl rfl ?_
    refine gA rfl rfl ?_
    refine go_nil ?_
    obtain rfl := someI hF
    exact g_ret (rst rfl rs0) (fun h1 hf hs => ⟨(e2.trans (e3.trans hs.hext)), rfl⟩)
  ·
    refine go_block ?_
    refine go_loop (α := (List Timpostlaw11_Deed) × Nat × (List Timpostref11_Sub) × (List Tsubidx_node) × Option Addr × Nat × Option Addr × List Blk × Heap) (fun a => a.1 = List.drop a.2.1 p0 ∧ HExt h2 a.2.2.2.2.2.2.2.2 ∧ Wf a.2.2.2.2.2.2.2.2 ∧ F_law11_SubidxPlays_L1 n p1 p2 a.1 a.2.1 a.2.2.1 a.2.2.2.1 = some s3 ∧ RL R_Timpostref11_Sub a.2.2.2.2.2.2.2.2 a.2.2.2.2.1 a.2.2.2.2.2.1 a.2.2.1 ∧ AccR R_Tsubidx_node 58 a.2.2.2.2.2.2.2.2 a.2.2.2.2.2.2.2.1 (.slice a.2.2.2.2.2.2.1 a.2.2.2.1.length a.2.2.2.1.length) a.2.2.2.1) (fun a => a.1.length) (fun a => [(0, true, .slice a0_0 p0.length c0_0), (1, true, .string p1), (2, true, .int .i64 p2), (6, true, .bool false), (7, true, .bool true), (8, true, .pointer (some ⟨b2_w0, 0, none⟩)), (9, true, .slice a.2.2.2.2.1 a.2.2.1.length a.2.2.2.2.2.1), (10, true, .int .i64 (a.2.1 : Int))]) (fun a => (List.flatten [[⟨b2_w0, .cells [.slice a.2.2.2.2.2.2.1 a.2.2.2.1.length a.2.2.2.1.length] 55⟩], a.2.2.2.2.2.2.2.1] : List Blk)) (fun a => a.2.2.2.2.2.2.2.2) ?_ (p0, 0, ([] : List Timpostref11_Sub), x2.l, none, 0, q2_w0_0, t2_w0_0, h2) ⟨rfl, HExt.refl _, w2, hF, (RL.nil _ _ _), f2_0⟩ (Sub.cons (Sub.cons (Sub.cons (Sub.cons (Sub.cons (Sub.cons (Sub.cons (Sub.cons (Sub.nil _) rfl) rfl) rfl) rfl) rfl) rfl) rfl) rfl) rfl rfl
    rintro ⟨r4, i4, y4_0, y4_1, a4_0, a4_1, a4_2, a4_3, h4⟩ ⟨hr4, e4, w4, hF, f4_0, f4_1⟩ ih4
    rcases r4 with _ | ⟨z4, r4⟩
    ·
      have hi4 := drop_nil hr4
      rw [F_law11_SubidxPlays_L1.eq_1] at hF
      refine go_seq ?_
      refine go_seq ?_
      refine go_region ?_
      refine gM rfl rfl ?_
      refine gM rfl rfl ?_
      refine gr rfl (r_len rfl (os1 (ot rfl) os0) (fun _ _ => ln_41)) ?_
      refine gr rfl (r_bin (ot rfl) (ot rfl) rfl) ?_
      refine go_cast (.bool false) (congrArg Value.bool (decide_eq_false hi4)) ?_
      refine gM rfl rfl ?_
      refine g_no rfl rfl rfl rfl rfl ?_
      refine g_no rfl rfl rfl rfl rfl ?_
      refine gr rfl (r_pkF (ot rfl) (oc rfl)) ?_
      refine go_nil ?_
      refine g_cond (b := false) (ot rfl) (fun hc5 => ?_) (fun hc5 => ?_)
      · cases hc5
      refine go_exit rfl ?_
      obtain rfl := someI hF
      exact Goes.weak (J3 (y4_1, a4_2, a4_3) _ e4 w4 ⟨rfl, f4_1⟩) (Sub.cons (Sub.cons (Sub.nil _) rfl) rfl)
    ·
      obtain ⟨hi4, hx4, hr4⟩ := drop_cons hr4
      have hb4 := ((f0_0.ext e2.kn).ext e4.kn).1
      rw [F_law11_SubidxPlays_L1.eq_2] at hF
      refine go_seq ?_
      refine go_seq ?_
      refine go_region ?_
      refine gM rfl rfl ?_
      refine gM rfl rfl ?_
      refine gr rfl (r_len rfl (os1 (ot rfl) os0) (fun _ _ => ln_41)) ?_
      refine gr rfl (r_bin (ot rfl) (ot rfl) rfl) ?_
      refine go_cast (.bool true) (congrArg Value.bool (decide_eq_true (Int.ofNat_lt.mpr hi4))) ?_
      refine gM rfl rfl ?_
      refine g_do rfl rfl rfl ?_
      refine gM rfl rfl ?_
      refine g_do rfl rfl rfl ?_
      refine gr rfl (r_bin (ot rfl) (oc rfl) rfl) ?_
      refine gr rfl (r_pkT (ot rfl) (ot rfl)) ?_
      refine go_nil ?_
      refine g_cond (b := (decide ((i4 : Int) < 60))) (ot rfl) (fun hc6 => ?_) (fun hc6 => ?_)
      ·
        replace hF := ifT hc6 hF
        refine go_skip ?_
        refine go_seq ?_
        refine go_block ?_
        refine go_seq ?_
        refine go_region ?_
        refine gM rfl rfl ?_
        refine gM rfl rfl ?_
        refine gM rfl rfl ?_
        refine gM rfl rfl ?_
        obtain ⟨q7, row7, i7, cl7, rc7, sp7⟩ := ix (ik := .i64) (cap := c0_0) (E := EE) ((f0_0.ext e2.kn).ext e4.kn) ((getI_nat _ _).trans hx4) ut_41 sz_45 rfl
        obtain rfl := rc7
        refine gr rfl (r_ia (ot rfl) (ot rfl) i7) ?_
        refine gr rfl (r_load (ot rfl) (v := .agg #[.int .i64 z4.Kind, .int .i64 z4.S.Id, .int .i64 z4.S.Rev, .string z4.S.R.From, .string z4.S.R.To]) (lo_e (fun hf kn => ld_of (r := [.int .i64 z4.Kind, .int .i64 z4.S.Id, .int .i64 z4.S.Rev, .string z4.S.R.From, .string z4.S.R.To]) ag_45 sz_45 (kn.cellsAt cl7)))) ?_
        replace hF := obind hF
        obtain ⟨x8, hx8, hF⟩ := hF
        refine gs_call EE_fr w4 (.cons .z (.cons .z .nil)) (fun _ h => by cases h; rfl) of (os1 (ot rfl) (os1 (ot rfl) (os1 (ot rfl) os0))) hb_17 (by exact s_law11_do n w4 (⟨y4_1⟩ : Osubidx_Index) y4_0 z4 f4_1 f4_0 hx8) ?_
        rintro v8 S8 h8 e8 w8 ⟨q8_y0_0, t8_y0_0, a8_0, c8_0, rfl, rfl, f8_0, f8_1⟩
        simp only [List.cons_append, List.nil_append]
        refine gM rfl rfl ?_
        refine gE rfl rfl rfl ?_
        refine gE rfl rfl rfl ?_
        refine gA rfl rfl ?_
        refine gA rfl rfl ?_
        refine go_nil ?_
        refine go_seq ?_
        refine go_region ?_
        refine gM rfl rfl ?_
        refine gA rfl rfl ?_
        refine go_nil ?_
        refine go_seq ?_
        refine go_region ?_
        refine gM rfl rfl ?_
        replace hF := obind hF
        obtain ⟨x9, hx9, hF⟩ := hF
        refine gs_call EE_fr w8 (.cons .z (.cons .z .nil)) (fun _ h => by cases h; rfl) of (os1 (ot rfl) os0) hb_14 (by exact s_subidx_Index_All w8 (⟨x8.2.2.l⟩ : Osubidx_Index) f8_0 hx9) ?_
        rintro v9 S9 h9 e9 w9 ⟨q9_y0_0, t9_y0_0, a9_0, c9_0, rfl, rfl, f9_0, f9_1⟩
        simp only [List.cons_append, List.nil_append]
        refine gA rfl rfl ?_
        refine go_nil ?_
        refine go_seq ?_
        refine go_seq ?_
        refine go_region ?_
        refine gM rfl rfl ?_
        refine gr rfl (r_un (ot rfl) rfl) ?_
        refine gM rfl rfl ?_
        refine grf rfl rfl rfl rfl (r_move (ot rfl)) ?_
        refine grf rfl rfl rfl rfl (r_len rfl (os1 (og rfl id) os0) (fun _ _ => ln_35)) ?_
        refine grf rfl rfl rfl rfl (r_move (ot rfl)) ?_
        refine grf rfl rfl rfl rfl (r_len rfl (os1 (og rfl id) os0) (fun _ _ => ln_22)) ?_
        refine grf rfl rfl rfl rfl (r_bin (og rfl id) (og rfl id) rfl) ?_
        refine gr rfl (r_pickb (ot rfl) (oc rfl) (og rfl id)) ?_
        refine gM rfl rfl ?_
        replace hF := obind hF
        obtain ⟨s11, hF, hK11⟩ := hF
        refine go_joinr 11 (β := Option Addr × List Blk) (fun s h' => AccR R_Tsubidx_node 58 h' s.2 (.slice s.1 s11.2.2.length s11.2.2.length) s11.2.2) (fun s => [(0, true, .slice a0_0 p0.length c0_0), (1, true, .string p1), (2, true, .int .i64 p2), (6, true, .bool false), (7, true, .bool true), (8, true, .pointer (some ⟨b2_w0, 0, none⟩)), (9, true, .slice a8_0 x8.1.length c8_0), (10, true, .int .i64 (i4 : Int)), (11, true, .slice a8_0 x8.1.length c8_0), (12, true, .bool x8.2.1), (13, true, .slice a9_0 x9.1.length c9_0), (17, true, .int .i64 (i4 : Int)), (18, true, .slice a0_0 p0.length c0_0), (19, true, .int .i64 (p0.length : Int)), (20, true, .bool true), (21, true, .bool true), (22, true, .int .i64 (i4 : Int)), (23, true, .bool (decide ((i4 : Int) < 60))), (24, true, .bool (decide ((i4 : Int) < 60))), (27, true, .tuple #[.slice a8_0 x8.1.length c8_0, .bool x8.2.1]), (28, true, .pointer (some ⟨b2_w0, 0, none⟩)), (29, true, .slice a4_0 y4_0.length a4_1), (30, true, .slice a0_0 p0.length c0_0), (31, true, .int .i64 (i4 : Int)), (32, true, .pointer (some q7)), (33, true, .agg #[.int .i64 z4.Kind, .int .i64 z4.S.Id, .int .i64 z4.S.Rev, .string z4.S.R.From, .string z4.S.R.To]), (34, true, .tuple #[.slice a8_0 x8.1.length c8_0, .bool x8.2.1]), (35, true, .slice a8_0 x8.1.length c8_0), (36, true, .bool x8.2.1), (37, true, .slice a8_0 x8.1.length c8_0), (38, true, .pointer (some ⟨b2_w0, 0, none⟩)), (39, true, .slice a9_0 x9.1.length c9_0), (40, true, .bool x8.2.1), (41, true, .bool (!x8.2.1)), (42, true, .bool (!x8.2.1)), (48, true, .bool (bif (!x8.2.1) then true else ((x9.1.length : Int) != (x8.1.length : Int)))), (49, true, .bool s11.1), (60, true, .bool s11.2.1)]) (fun s => (List.flatten [[⟨b2_w0, .cells [.slice s.1 s11.2.2.length s11.2.2.length] 55⟩], s.2] : List Blk)) ?_ (fun J11 => ?_)
        ·
          rintro ⟨a11_0, a11_1⟩ h11 e11 w11 f11_2
          replace hF := hK11
          refine go_nil ?_
          refine g_cond (b := s11.2.1) (ot rfl) (fun hc12 => ?_) (fun hc12 => ?_)
          ·
            replace hF := ifT hc12 hF
            refine go_seq ?_
            refine go_region ?_
            refine gAc rfl rfl ?_
            refine go_nil ?_
            obtain rfl := someI hF
            obtain rfl := someI hK3
            exact g_ret (rst rfl rs0) (fun h1 hf hs => ⟨(e2.trans (e4.trans (e8.trans (e9.trans (e11.trans hs.hext))))), rfl⟩)
          ·
            replace hF := ifF hc12 hF
            refine go_skip ?_
            refine go_seq ?_
            refine go_region ?_
            refine gAc rfl rfl ?_
            refine go_nil ?_
            replace hF := obind hF
            obtain ⟨s13, hF, hK13⟩ := hF
            refine go_joinc (β := (Int × Int)) (fun s h' => s13 = .go s) (fun s => [(0, true, .slice a0_0 p0.length c0_0), (1, true, .string p1), (2, true, .int .i64 p2), (6, true, .bool false), (7, true, .bool true), (8, true, .pointer (some ⟨b2_w0, 0, none⟩)), (9, true, .slice a8_0 x8.1.length c8_0), (10, true, .int .i64 (i4 : Int)), (11, true, .slice a8_0 x8.1.length c8_0), (12, true, .bool x8.2.1), (13, true, .slice a9_0 x9.1.length c9_0), (14, true, .int .i64 s.1), (17, true, .int .i64 (i4 : Int)), (18, true, .slice a0_0 p0.length c0_0), (19, true, .int .i64 (p0.length : Int)), (20, true, .bool true), (21, true, .bool true), (22, true, .int .i64 (i4 : Int)), (23, true, .bool (decide ((i4 : Int) < 60))), (24, true, .bool (decide ((i4 : Int) < 60))), (27, true, .tuple #[.slice a8_0 x8.1.length c8_0, .bool x8.2.1]), (28, true, .pointer (some ⟨b2_w0, 0, none⟩)), (29, true, .slice a4_0 y4_0.length a4_1), (30, true, .slice a0_0 p0.length c0_0), (31, true, .int .i64 (i4 : Int)), (32, true, .pointer (some q7)), (33, true, .agg #[.int .i64 z4.Kind, .int .i64 z4.S.Id, .int .i64 z4.S.Rev, .string z4.S.R.From, .string z4.S.R.To]), (34, true, .tuple #[.slice a8_0 x8.1.length c8_0, .bool x8.2.1]), (35, true, .slice a8_0 x8.1.length c8_0), (36, true, .bool x8.2.1), (37, true, .slice a8_0 x8.1.length c8_0), (38, true, .pointer (some ⟨b2_w0, 0, none⟩)), (39, true, .slice a9_0 x9.1.length c9_0), (40, true, .bool x8.2.1), (41, true, .bool (!x8.2.1)), (42, true, .bool (!x8.2.1)), (48, true, .bool (bif (!x8.2.1) then true else ((x9.1.length : Int) != (x8.1.length : Int)))), (49, true, .bool s11.1), (60, true, .bool s11.2.1), (61, true, .int .i64 s.2), (62, true, .slice a8_0 x8.1.length c8_0), (63, true, .int .i64 (x8.1.length : Int)), (64, true, .bool false)]) (fun s => (List.flatten [[⟨b2_w0, .cells [.slice a11_0 s11.2.2.length s11.2.2.length] 55⟩], a11_1] : List Blk)) ?_ (fun J13 => ?_)
            ·
              rintro ⟨x13_0, x13_1⟩ h13 e13 w13 hs13
              subst hs13
              replace hF := lpgo2 hK13
              refine go_endb ?_
              refine go_region ?_
              refine gM rfl rfl ?_
              refine gr rfl (r_bin (ot rfl) (oc rfl) rfl) ?_
              refine gA rfl rfl ?_
              refine go_nil ?_
              refine go_re 10 (v2 := .int .i64 ((i4 + 1 : Nat) : Int)) rfl (wrap_succ hi4 hb4) ?_
              exact Goes.weak (ih4 (r4, i4 + 1, x8.1, s11.2.2, a8_0, c8_0, a11_0, a11_1, h13) ⟨hr4, (e4.trans (e8.trans (e9.trans (e11.trans e13)))), w13, hF, (((f8_1.ext e9.kn).ext e11.kn).ext e13.kn), (f11_2.ext e13.kn)⟩ (Nat.lt_succ_self _)) (Sub.cons (Sub.cons (Sub.cons (Sub.cons (Sub.cons (Sub.cons (Sub.cons (Sub.cons (Sub.nil _) rfl) rfl) rfl) rfl) rfl) rfl) rfl) rfl)
            ·
              refine go_block ?_
              refine go_loop (α := (List Timpostref11_Sub) × Nat × Heap) (fun a => a.1 = List.drop a.2.1 x8.1 ∧ HExt h11 a.2.2 ∧ Wf a.2.2 ∧ F_law11_SubidxPlays_L2 x9 a.1 a.2.1 = some s13) (fun a => a.1.length) (fun a => [(0, true, .slice a0_0 p0.length c0_0), (1, true, .string p1), (2, true, .int .i64 p2), (6, true, .bool false), (7, true, .bool true), (8, true, .pointer (some ⟨b2_w0, 0, none⟩)), (9, true, .slice a8_0 x8.1.length c8_0), (10, true, .int .i64 (i4 : Int)), (11, true, .slice a8_0 x8.1.length c8_0), (12, true, .bool x8.2.1), (13, true, .slice a9_0 x9.1.length c9_0), (14, true, .int .i64 (a.2.1 : Int)), (17, true, .int .i64 (i4 : Int)), (18, true, .slice a0_0 p0.length c0_0), (19, true, .int .i64 (p0.length : Int)), (20, true, .bool true), (21, true, .bool true), (22, true, .int .i64 (i4 : Int)), (23, true, .bool (decide ((i4 : Int) < 60))), (24, true, .bool (decide ((i4 : Int) < 60))), (27, true, .tuple #[.slice a8_0 x8.1.length c8_0, .bool x8.2.1]), (28, true, .pointer (some ⟨b2_w0, 0, none⟩)), (29, true, .slice a4_0 y4_0.length a4_1), (30, true, .slice a0_0 p0.length c0_0), (31, true, .int .i64 (i4 : Int)), (32, true, .pointer (some q7)), (33, true, .agg #[.int .i64 z4.Kind, .int .i64 z4.S.Id, .int .i64 z4.S.Rev, .string z4.S.R.From, .string z4.S.R.To]), (34, true, .tuple #[.slice a8_0 x8.1.length c8_0, .bool x8.2.1]), (35, true, .slice a8_0 x8.1.length c8_0), (36, true, .bool x8.2.1), (37, true, .slice a8_0 x8.1.length c8_0), (38, true, .pointer (some ⟨b2_w0, 0, none⟩)), (39, true, .slice a9_0 x9.1.length c9_0), (40, true, .bool x8.2.1), (41, true, .bool (!x8.2.1)), (42, true, .bool (!x8.2.1)), (48, true, .bool (bif (!x8.2.1) then true else ((x9.1.length : Int) != (x8.1.length : Int)))), (49, true, .bool s11.1), (60, true, .bool s11.2.1)]) (fun a => (List.flatten [[⟨b2_w0, .cells [.slice a11_0 s11.2.2.length s11.2.2.length] 55⟩], a11_1] : List Blk)) (fun a => a.2.2) ?_ (x8.1, 0, h11) ⟨rfl, HExt.refl _, w11, hF⟩ (Sub.cons (Sub.cons (Sub.cons (Sub.cons (Sub.cons (Sub.cons (Sub.cons (Sub.cons (Sub.cons (Sub.cons (Sub.cons (Sub.cons (Sub.cons (Sub.cons (Sub.cons (Sub.cons (Sub.cons (Sub.cons (Sub.cons (Sub.cons (Sub.cons (Sub.cons (Sub.cons (Sub.cons (Sub.cons (Sub.cons (Sub.cons (Sub.cons (Sub.cons (Sub.cons (Sub.cons (Sub.cons (Sub.cons (Sub.cons (Sub.cons (Sub.cons (Sub.cons (Sub.cons (Sub.cons (Sub.nil _) rfl) rfl) rfl) rfl) rfl) rfl) rfl) rfl) rfl) rfl) rfl) rfl) rfl) rfl) rfl) rfl) rfl) rfl) rfl) rfl) rfl) rfl) rfl) rfl) rfl) rfl) rfl) rfl) rfl) rfl) rfl) rfl) rfl) rfl) rfl) rfl) rfl) rfl) rfl) rfl rfl
              rintro ⟨r14, i14, h14⟩ ⟨hr14, e14, w14, hF⟩ ih14
              rcases r14 with _ | ⟨z14, r14⟩
              ·
                have hi14 := drop_nil hr14
                rw [F_law11_SubidxPlays_L2.eq_1] at hF
                refine go_seq ?_
                refine go_seq ?_
                refine go_region ?_
                refine gM rfl rfl ?_
                refine gM rfl rfl ?_
                refine gr rfl (r_len rfl (os1 (ot rfl) os0) (fun _ _ => ln_22)) ?_
                refine gr rfl (r_bin (ot rfl) (ot rfl) rfl) ?_
                refine go_cast (.bool false) (congrArg Value.bool (decide_eq_false hi14)) ?_
                refine go_nil ?_
                refine g_cond (b := false) (ot rfl) (fun hc15 => ?_) (fun hc15 => ?_)
                · cases hc15
                refine go_exit rfl ?_
                obtain rfl := someI hF
                exact Goes.weak (J13 ((i14 : Int), (i14 : Int)) _ e14 w14 rfl) (Sub.cons (Sub.cons (Sub.cons (Sub.cons (Sub.cons (Sub.cons (Sub.cons (Sub.cons (Sub.cons (Sub.cons (Sub.cons (Sub.cons (Sub.cons (Sub.cons (Sub.cons (Sub.cons (Sub.cons (Sub.cons (Sub.cons (Sub.cons (Sub.cons (Sub.cons (Sub.cons (Sub.cons (Sub.cons (Sub.cons (Sub.cons (Sub.cons (Sub.cons (Sub.cons (Sub.cons (Sub.cons (Sub.cons (Sub.cons (Sub.cons (Sub.cons (Sub.cons (Sub.cons (Sub.cons (Sub.cons (Sub.cons (Sub.cons (Sub.cons (Sub.nil _) rfl) rfl) rfl) rfl) rfl) rfl) rfl) rfl) rfl) rfl) rfl) rfl) rfl) rfl) rfl) rfl) rfl) rfl) rfl) rfl) rfl) rfl) rfl) rfl) rfl) rfl) rfl) rfl) rfl) rfl) rfl) rfl) rfl) rfl) rfl) rfl) rfl) rfl) rfl) rfl) rfl) rfl) rfl)
              ·
                obtain ⟨hi14, hx14, hr14⟩ := drop_cons hr14
                have hb14 := (((f8_1.ext e9.kn).ext e11.kn).ext e14.kn).1
                rw [F_law11_SubidxPlays_L2.eq_2] at hF
                refine go_seq ?_
                refine go_seq ?_
                refine go_region ?_
                refine gM rfl rfl ?_
                refine gM rfl rfl ?_
                refine gr rfl (r_len rfl (os1 (ot rfl) os0) (fun _ _ => ln_22)) ?_
                refine gr rfl (r_bin (ot rfl) (ot rfl) rfl) ?_
                refine go_cast (.bool true) (congrArg Value.bool (decide_eq_true (Int.ofNat_lt.mpr hi14))) ?_
                refine go_nil ?_
                refine g_cond (b := true) (ot rfl) (fun hc16 => ?_) (fun hc16 => ?_)
                rotate_left
                · cases hc16
                refine go_skip ?_
                refine go_seq ?_
                refine go_block ?_
                refine go_seq ?_
                refine go_regions (L := [(0, []), (1, []), (2, []), (3, []), (4, []), (5, []), (6, []), (7, []), (8, [3]), (9, [])]) (by kernel_rfl) (by kernel_rfl) (fun _ => rfl) ?_
                refine go_sop rfl rfl ?_
                refine gM rfl rfl ?_
                refine go_nil ?_
                refine go_sop rfl rfl ?_
                refine gM rfl rfl ?_
                refine go_nil ?_
                refine go_sop rfl rfl ?_
                replace hF := obind hF
                obtain ⟨x17, hx17, hF⟩ := hF
                obtain ⟨q17, row17, i17, cl17, rc17, sp17⟩ := ix (ik := .i64) (cap := c9_0) (E := EE) ((f9_1.ext e11.kn).ext e14.kn) hx17 ut_35 sz_32 rfl
                obtain rfl := rc17
                refine gr rfl (r_ia (ot rfl) (ot rfl) i17) ?_
                refine go_nil ?_
                refine go_sop rfl rfl ?_
                refine gr rfl (r_load (ot rfl) (v := .agg #[.int .i64 x17.Id, .int .i64 x17.Rev, .string x17.R.From, .string x17.R.To]) (lo_e (fun hf kn => ld_of (r := [.int .i64 x17.Id, .int .i64 x17.Rev, .string x17.R.From, .string x17.R.To]) ag_32 sz_32 (kn.cellsAt cl17)))) ?_
                refine go_nil ?_
                refine go_sop rfl rfl ?_
                refine gM rfl rfl ?_
                refine go_nil ?_
                refine go_sop rfl rfl ?_
                refine gM rfl rfl ?_
                refine go_nil ?_
                refine go_sop rfl rfl ?_
                obtain ⟨q18, row18, i18, cl18, rc18, sp18⟩ := ix (ik := .i64) (cap := c8_0) (E := EE) (((f8_1.ext e9.kn).ext e11.kn).ext e14.kn) ((getI_nat _ _).trans hx14) ut_22 sz_27 rfl
                obtain rfl := rc18
                refine gr rfl (r_ia (ot rfl) (ot rfl) i18) ?_
                refine go_nil ?_
                refine go_sop rfl rfl ?_
                refine gr rfl (r_load (ot rfl) (v := .agg #[.int .i64 z14.Id, .int .i64 z14.Rev, .string z14.R.From, .string z14.R.To]) (lo_e (fun hf kn => ld_of (r := [.int .i64 z14.Id, .int .i64 z14.Rev, .string z14.R.From, .string z14.R.To]) ag_27 sz_27 (kn.cellsAt cl18)))) ?_
                refine go_nil ?_
                refine go_sopc [(3, .agg #[.int .i64 x17.Id, .int .i64 x17.Rev, .string x17.R.From, .string x17.R.To])] rfl rfl rfl (rc1 rfl (r_load (ot rfl) (v := .agg #[.int .i64 x17.Id, .int .i64 x17.Rev, .string x17.R.From, .string x17.R.To]) (lo_e (fun hf kn => ld_of (r := [.int .i64 x17.Id, .int .i64 x17.Rev, .string x17.R.From, .string x17.R.To]) ag_32 sz_32 (kn.cellsAt cl17)))) rc0) (vq1 (veq_agg _ _ (va1 (veq_int _ _ _) (va1 (veq_int _ _ _) (va1 (veq_str _ _) (va1 (veq_str _ _) (va0 _)))))) vq0) rfl ?_
                replace hF := obind hF
                obtain ⟨x19, hx19, hF⟩ := hF
                refine g_callp (v := .agg #[.int .i64 x19.Id, .int .i64 x19.Rev, .string x19.R.From, .string x19.R.To]) EE_fr rfl of (os1 (ot rfl) os0) hb_12 (fun _ => rfl) (fun hf kn w => by exact s_law11_made w z14  hx19) ?_
                refine go_nil ?_
                refine go_rck (rc1 rfl (r_load (ot rfl) (v := .agg #[.int .i64 x17.Id, .int .i64 x17.Rev, .string x17.R.From, .string x17.R.To]) (lo_e (fun hf kn => ld_of (r := [.int .i64 x17.Id, .int .i64 x17.Rev, .string x17.R.From, .string x17.R.To]) ag_32 sz_32 (kn.cellsAt cl17)))) rc0) ?_
                refine go_sop rfl rfl ?_
                refine gr rfl (r_bin (ot rfl) (ot rfl) bn_32) ?_
                refine go_nil ?_
                refine go_snil ?_
                refine g_cond (b := (!(eq_Tsubidx_Sub x17 x19))) (ot rfl) (fun hc20 => ?_) (fun hc20 => ?_)
                ·
                  replace hF := ifT hc20 hF
                  refine go_seq ?_
                  refine go_region ?_
                  refine gAc rfl rfl ?_
                  refine go_nil ?_
                  obtain rfl := someI hF
                  obtain rfl := someI hK13
                  obtain rfl := someI hK3
                  exact g_ret (rst rfl rs0) (fun h1 hf hs => ⟨(e2.trans (e4.trans (e8.trans (e9.trans (e11.trans (e14.trans hs.hext)))))), rfl⟩)
                ·
                  replace hF := ifF hc20 hF
                  refine go_skip ?_
                  refine go_endb ?_
                  refine go_region ?_
                  refine gM rfl rfl ?_
                  refine gr rfl (r_bin (ot rfl) (oc rfl) rfl) ?_
                  refine gA rfl rfl ?_
                  refine go_nil ?_
                  refine go_re 14 (v2 := .int .i64 ((i14 + 1 : Nat) : Int)) rfl (wrap_succ hi14 hb14) ?_
                  exact Goes.weak (ih14 (r14, i14 + 1, h14) ⟨hr14, e14, w14, hF⟩ (Nat.lt_succ_self _)) (Sub.cons (Sub.cons (Sub.cons (Sub.cons (Sub.cons (Sub.cons (Sub.cons (Sub.cons (Sub.cons (Sub.cons (Sub.cons (Sub.cons (Sub.cons (Sub.cons (Sub.cons (Sub.cons (Sub.cons (Sub.cons (Sub.cons (Sub.cons (Sub.cons (Sub.cons (Sub.cons (Sub.cons (Sub.cons (Sub.cons (Sub.cons (Sub.cons (Sub.cons (Sub.cons (Sub.cons (Sub.cons (Sub.cons (Sub.cons (Sub.cons (Sub.cons (Sub.cons (Sub.cons (Sub.cons (Sub.nil _) rfl) rfl) rfl) rfl) rfl) rfl) rfl) rfl) rfl) rfl) rfl) rfl) rfl) rfl) rfl) rfl) rfl) rfl) rfl) rfl) rfl) rfl) rfl) rfl) rfl) rfl) rfl) rfl) rfl) rfl) rfl) rfl) rfl) rfl) rfl) rfl) rfl) rfl) rfl)
        ·
          rcases Bool.eq_false_or_eq_true (bif (!x8.2.1) then true else ((x9.1.length : Int) != (x8.1.length : Int))) with hb10 | hb10
          ·
            replace hF := ifT hb10 hF
            refine go_re 49 (v2 := .bool true) rfl (congrArg Value.bool hb10) ?_
            refine g_no rfl rfl rfl rfl rfl ?_
            refine g_no rfl rfl rfl rfl rfl ?_
            refine g_no rfl rfl rfl rfl rfl ?_
            refine g_no rfl rfl rfl rfl rfl ?_
            refine g_no rfl rfl rfl rfl rfl ?_
            refine g_no rfl rfl rfl rfl rfl ?_
            refine g_no rfl rfl rfl rfl rfl ?_
            refine g_no rfl rfl rfl rfl rfl ?_
            refine g_no rfl rfl rfl rfl rfl ?_
            refine g_no rfl rfl rfl rfl rfl ?_
            refine gr rfl (r_pkT (ot rfl) (oc rfl)) ?_
            obtain rfl := someI hF
            exact Goes.weak (J11 (q9_y0_0, t9_y0_0) _ (HExt.refl _) w9 f9_0) (Sub.cons (Sub.cons (Sub.cons (Sub.cons (Sub.cons (Sub.cons (Sub.cons (Sub.cons (Sub.cons (Sub.cons (Sub.cons (Sub.cons (Sub.cons (Sub.cons (Sub.cons (Sub.cons (Sub.cons (Sub.cons (Sub.cons (Sub.cons (Sub.cons (Sub.cons (Sub.cons (Sub.cons (Sub.cons (Sub.cons (Sub.cons (Sub.cons (Sub.cons (Sub.cons (Sub.cons (Sub.cons (Sub.cons (Sub.cons (Sub.cons (Sub.cons (Sub.cons (Sub.cons (Sub.nil _) rfl) rfl) rfl) rfl) rfl) rfl) rfl) rfl) rfl) rfl) rfl) rfl) rfl) rfl) rfl) rfl) rfl) rfl) rfl) rfl) rfl) rfl) rfl) rfl) rfl) rfl) rfl) rfl) rfl) rfl) rfl) rfl) rfl) rfl) rfl) rfl) rfl) rfl)
          ·
            replace hF := ifF hb10 hF
            refine go_re 49 (v2 := .bool false) rfl (congrArg Value.bool hb10) ?_
            refine g_do rfl rfl rfl ?_
            refine gM rfl rfl ?_
            refine g_do rfl rfl rfl ?_
            refine gM rfl rfl ?_
            refine g_do rfl rfl rfl ?_
            refine gM rfl rfl ?_
            refine g_do rfl rfl rfl ?_
            replace hF := obind hF
            obtain ⟨x21, hx21, hF⟩ := hF
            refine gs_call EE_fr w9 (.cons .z (.cons .z .nil)) (fun _ h => by cases h; rfl) of (os1 (ot rfl) (os1 (ot rfl) (os1 (ot rfl) os0))) hb_16 (by exact s_subidx_Index_Stab n w9 (⟨x9.2.l⟩ : Osubidx_Index) p1 p2 f9_0 hx21) ?_
            rintro v21 S21 h21 e21 w21 ⟨q21_y0_0, t21_y0_0, a21_0, c21_0, rfl, rfl, f21_0, f21_1⟩
            simp only [List.cons_append, List.nil_append]
            refine g_do rfl rfl rfl ?_
            refine gM rfl rfl ?_
            refine g_do rfl rfl rfl ?_
            refine gM rfl rfl ?_
            refine g_do rfl rfl rfl ?_
            refine gM rfl rfl ?_
            refine g_do rfl rfl rfl ?_
            replace hF := obind hF
            obtain ⟨x22, hx22, hF⟩ := hF
            refine g_call EE_fr (fun _ h => by cases h; rfl) of (os1 (ot rfl) (os1 (ot rfl) (os1 (ot rfl) os0))) hb_18 (fun hf kn w => by exact s_ref11_Stab w x8.1 p1 p2 (((f8_1.ext e9.kn).ext e21.kn).ext kn) hx22) ?_
            rintro v22 h22 e22 w22 ⟨a22_0, c22_0, rfl, f22_0⟩
            refine g_do rfl rfl rfl ?_
            replace hF := obind hF
            obtain ⟨x23, hx23, hF⟩ := hF
            refine g_callp (v := .bool x23) EE_fr rfl of (os1 (ot rfl) (os1 (ot rfl) os0)) hb_15 (fun _ => rfl) (fun hf kn w => by exact s_ref11_Ints w x21.1 x22 ((f21_1.ext e22.kn).ext kn) (f22_0.ext kn) hx23) ?_
            refine g_do rfl rfl rfl ?_
            refine gr rfl (r_un (ot rfl) rfl) ?_
            refine gr rfl (r_pkF (ot rfl) (ot rfl)) ?_
            obtain rfl := someI hF
            exact Goes.weak (J11 (q21_y0_0, t21_y0_0) _ (e21.trans e22) w22 (f21_0.ext e22.kn)) (Sub.cons (Sub.cons (Sub.cons (Sub.cons (Sub.cons (Sub.cons (Sub.cons (Sub.cons (Sub.cons (Sub.cons (Sub.cons (Sub.cons (Sub.cons (Sub.cons (Sub.cons (Sub.cons (Sub.cons (Sub.cons (Sub.cons (Sub.cons (Sub.cons (Sub.cons (Sub.cons (Sub.cons (Sub.cons (Sub.cons (Sub.cons (Sub.cons (Sub.cons (Sub.cons (Sub.cons (Sub.cons (Sub.cons (Sub.cons (Sub.cons (Sub.cons (Sub.cons (Sub.cons (Sub.nil _) rfl) rfl) rfl) rfl) rfl) rfl) rfl) rfl) rfl) rfl) rfl) rfl) rfl) rfl) rfl) rfl) rfl) rfl) rfl) rfl) rfl) rfl) rfl) rfl) rfl) rfl) rfl) rfl) rfl) rfl) rfl) rfl) rfl) rfl) rfl) rfl) rfl) rfl)
      ·
        replace hF := ifF hc6 hF
        refine go_exit rfl ?_
        obtain rfl := someI hF
        exact Goes.weak (J3 (y4_1, a4_2, a4_3) _ e4 w4 ⟨rfl, f4_1⟩) (Sub.cons (Sub.cons (Sub.nil _) rfl) rfl)
end Go.Proofs.Ythgcmcifhhkebaa.V
