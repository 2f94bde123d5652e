/- Walks.
   No condition: these are laws of the clean machine and of this program. -/
import Derived.Test.YtpfdandpmpmbiaaPT
import Derived.Test.YtpfdandpmpmbiaaWq
namespace Go.Proofs.Ytpfdandpmpmbiaa.V
open Go
set_option linter.unusedVariables false
set_option linter.unusedSimpArgs false
set_option maxRecDepth 100000
set_option maxHeartbeats 4000000
theorem s_event_Fold_1 {h : Heap} (hw : Wf h) (p0 : TKV) (p1 : ByteArray)   {r : Int} (hF : F_event_Fold_1 p0 p1 = some r) :
    Ev EE 84 [.agg #[.string p0.Key, .string p0.Val, .int .i64 p0.Rev], .string p1] h (fun v _ => v = .int .i64 r) := by
  unfold F_event_Fold_1 at hF
  refine ev_of hw rfl at_84 rfl rfl (go_seg0 ?_)
  refine go_seq ?_
  refine go_region ?_
  refine gs_box rfl (ot rfl) rfl ?_; intro b2_1
  refine gAc rfl rfl ?_
  refine go_nil ?_
  refine go_seq ?_
  refine go_region ?_
  refine gr rfl (r_fa (ot rfl) (fa_47_0 _ _)) ?_
  refine gr rfl (r_load (ot rfl) (lm_s (mem_seg 0 rfl) ag_9 rfl)) ?_
  refine gM rfl rfl ?_
  replace hF := obind hF
  obtain ⟨x2, hx2, hF⟩ := hF
  refine g_callp (v := .int .i64 x2) EE_fr rfl of (os1 (ot rfl) (os1 (ot rfl) os0)) hb_85 (fun _ => rfl) (fun hf kn w => by exact s_cmp_Compare w p0.Key p1  hx2) ?_
  refine gA rfl rfl ?_
  refine go_nil ?_
  obtain rfl := someI hF
  exact g_ret (rst rfl rs0) (fun h1 hf hs => ⟨hs.hext, rfl⟩)
theorem s_slices_BinarySearchFunc_event_Fold_1 (n : Nat) {h : Heap} (hw : Wf h) (p0 : (List TKV)) (p1 : ByteArray) {a0_0 : Option Addr} {c0_0 : Nat} (f0_0 : RL R_TKV h a0_0 c0_0 p0) {r : Int × Bool} (hF : F_slices_BinarySearchFunc_event_Fold_1 n p0 p1 = some r) :
    Ev EE 83 [.slice a0_0 p0.length c0_0, .string p1, .func (.func 84) #[] #[]] h (fun v _ => v = .tuple #[.int .i64 r.1, .bool r.2]) := by
  unfold F_slices_BinarySearchFunc_event_Fold_1 at hF
  refine ev_of hw rfl at_83 rfl rfl (go_seg0 ?_)
  refine go_seq ?_
  refine go_region ?_
  refine gAc rfl rfl ?_
  refine gAc rfl rfl ?_
  refine go_nil ?_
  refine go_seq ?_
  refine go_region ?_
  refine gM rfl rfl ?_
  refine gr rfl (r_len rfl (os1 (ot rfl) os0) (fun _ _ => ln_28)) ?_
  refine gA rfl rfl ?_
  refine go_nil ?_
  refine go_seq ?_
  refine go_region ?_
  refine gM rfl rfl ?_
  refine gAc rfl rfl ?_
  refine gA rfl rfl ?_
  refine go_nil ?_
  refine go_seq ?_
  replace hF := obind hF
  obtain ⟨s1, hF, hK1⟩ := hF
  refine go_joinc (β := Unit) (fun s h' => True) (fun s => [(0, true, .slice a0_0 p0.length c0_0), (1, true, .string p1), (2, true, .func (.func 84) #[] #[]), (6, true, .int .i64 0), (7, true, .bool false), (8, true, .int .i64 (p0.length : Int)), (9, true, .int .i64 s1)]) (fun s => (List.flatten [] : List Blk)) ?_ (fun J1 => ?_)
  ·
    rintro _ h1 e1 w1 _
    replace hF := hK1
    refine go_seq ?_
    refine go_region ?_
    refine gM rfl rfl ?_
    refine gM rfl rfl ?_
    refine gM rfl rfl ?_
    refine gr rfl (r_bin (ot rfl) (ot rfl) rfl) ?_
    refine gM rfl rfl ?_
    replace hF := obind hF
    obtain ⟨s3, hF, hK3⟩ := hF
    refine go_joinr 9 (β := Unit) (fun s h' => True) (fun s => [(6, true, .int .i64 0), (7, true, .bool false), (35, true, .int .i64 s1), (48, true, .bool s3)]) (fun s => (List.flatten [] : List Blk)) ?_ (fun J3 => ?_)
    ·
      rintro _ h3 e3 w3 _
      replace hF := hK3
      refine gA rfl rfl ?_
      refine gA rfl rfl ?_
      refine go_nil ?_
      obtain rfl := someI hF
      exact g_ret (rst rfl (rst rfl rs0)) (fun h1 hf hs => ⟨(e1.trans (e3.trans hs.hext)), rfl⟩)
    ·
      rcases Bool.eq_false_or_eq_true (decide (s1 < (p0.length : Int))) with hb2 | hb2
      ·
        replace hF := ifT hb2 hF
        refine go_re 39 (v2 := .bool true) rfl (congrArg Value.bool hb2) ?_
        refine g_do rfl rfl rfl ?_
        refine gM rfl rfl ?_
        refine g_do rfl rfl rfl ?_
        refine gM rfl rfl ?_
        refine g_do rfl rfl rfl ?_
        refine gM rfl rfl ?_
        refine g_do rfl rfl rfl ?_
        replace hF := obind hF
        obtain ⟨x4, hx4, hF⟩ := hF
        obtain ⟨q4, row4, i4, cl4, rc4, sp4⟩ := ix (ik := .i64) (cap := c0_0) (E := EE) (f0_0.ext e1.kn) hx4 ut_28 sz_47 rfl
        obtain rfl := rc4
        refine gr rfl (r_ia (ot rfl) (ot rfl) i4) ?_
        refine g_do rfl rfl rfl ?_
        refine gr rfl (r_load (ot rfl) (v := .agg #[.string x4.Key, .string x4.Val, .int .i64 x4.Rev]) (lo_e (fun hf kn => ld_of (r := [.string x4.Key, .string x4.Val, .int .i64 x4.Rev]) ag_47 sz_47 (kn.cellsAt cl4)))) ?_
        refine g_do rfl rfl rfl ?_
        refine gM rfl rfl ?_
        refine g_do rfl rfl rfl ?_
        replace hF := obind hF
        obtain ⟨x5, hx5, hF⟩ := hF
        refine g_callp (v := .int .i64 x5) EE_fr rfl (ot rfl) (os1 (ot rfl) (os1 (ot rfl) os0)) hb_84 (fun _ => rfl) (fun hf kn w => by exact s_event_Fold_1 w x4 p1  hx5) ?_
        refine g_do rfl rfl rfl ?_
        refine gr rfl (r_bin (ot rfl) (oc rfl) rfl) ?_
        refine gr rfl (r_pkT (ot rfl) (ot rfl)) ?_
        obtain rfl := someI hF
        exact Goes.weak (J3 () _ (HExt.refl _) w1 trivial) (Sub.cons (Sub.cons (Sub.cons (Sub.cons (Sub.nil _) rfl) rfl) rfl) rfl)
      ·
        replace hF := ifF hb2 hF
        refine go_re 39 (v2 := .bool false) rfl (congrArg Value.bool hb2) ?_
        refine g_no rfl rfl rfl rfl rfl ?_
        refine g_no rfl rfl rfl rfl rfl ?_
        refine g_no rfl rfl rfl rfl rfl ?_
        refine g_no rfl rfl rfl rfl rfl ?_
        refine g_no rfl rfl rfl rfl rfl ?_
        refine g_no rfl rfl rfl rfl rfl ?_
        refine g_no rfl rfl rfl rfl rfl ?_
        refine g_no rfl rfl rfl rfl rfl ?_
        refine gr rfl (r_pkF (ot rfl) (oc rfl)) ?_
        obtain rfl := someI hF
        exact Goes.weak (J3 () _ (HExt.refl _) w1 trivial) (Sub.cons (Sub.cons (Sub.cons (Sub.cons (Sub.nil _) rfl) rfl) rfl) rfl)
  ·
    refine go_block ?_
    refine go_loop (α := Nat × Int × Int × Heap) (fun a => HExt h a.2.2.2 ∧ Wf a.2.2.2 ∧ F_slices_BinarySearchFunc_event_Fold_1_L1 p0 p1 a.1 a.2.1 a.2.2.1 = some s1) (fun a => a.1) (fun a => [(0, true, .slice a0_0 p0.length c0_0), (1, true, .string p1), (2, true, .func (.func 84) #[] #[]), (6, true, .int .i64 0), (7, true, .bool false), (8, true, .int .i64 (p0.length : Int)), (9, true, .int .i64 a.2.1), (10, true, .int .i64 a.2.2.1)]) (fun a => (List.flatten [] : List Blk)) (fun a => a.2.2.2) ?_ (n, 0, (p0.length : Int), h) ⟨HExt.refl _, hw, hF⟩ (Sub.cons (Sub.cons (Sub.cons (Sub.cons (Sub.cons (Sub.cons (Sub.cons (Sub.cons (Sub.nil _) rfl) rfl) rfl) rfl) rfl) rfl) rfl) rfl) rfl rfl
    rintro ⟨m6, y6_0, y6_1, h6⟩ ⟨e6, w6, hF⟩ ih6
    rcases m6 with _ | m6
    ·
      rw [F_slices_BinarySearchFunc_event_Fold_1_L1.eq_1] at hF; cases hF
    ·
      rw [F_slices_BinarySearchFunc_event_Fold_1_L1.eq_2] at hF
      refine go_seq ?_
      refine go_seq ?_
      refine go_region ?_
      refine gM rfl rfl ?_
      refine gM rfl rfl ?_
      refine gr rfl (r_bin (ot rfl) (ot rfl) rfl) ?_
      refine go_nil ?_
      refine g_cond (b := (decide (y6_0 < y6_1))) (ot rfl) (fun hc7 => ?_) (fun hc7 => ?_)
      ·
        replace hF := ifT hc7 hF
        refine go_skip ?_
        refine go_block ?_
        refine go_seq ?_
        refine go_region ?_
        refine gM rfl rfl ?_
        refine gM rfl rfl ?_
        refine gr rfl (r_bin (ot rfl) (ot rfl) rfl) ?_
        refine gr rfl (r_conv (ot rfl) rfl) ?_
        refine gr rfl (r_bin (ot rfl) (oc rfl) rfl) ?_
        refine gr rfl (r_conv (ot rfl) rfl) ?_
        refine gA rfl rfl ?_
        refine go_nil ?_
        refine go_seq ?_
        refine go_region ?_
        refine gM rfl rfl ?_
        refine gM rfl rfl ?_
        refine gM rfl rfl ?_
        replace hF := obind hF
        obtain ⟨x8, hx8, hF⟩ := hF
        obtain ⟨q8, row8, i8, cl8, rc8, sp8⟩ := ix (ik := .i64) (cap := c0_0) (E := EE) (f0_0.ext e6.kn) hx8 ut_28 sz_47 rfl
        obtain rfl := rc8
        refine gr rfl (r_ia (ot rfl) (ot rfl) i8) ?_
        refine gr rfl (r_load (ot rfl) (v := .agg #[.string x8.Key, .string x8.Val, .int .i64 x8.Rev]) (lo_e (fun hf kn => ld_of (r := [.string x8.Key, .string x8.Val, .int .i64 x8.Rev]) ag_47 sz_47 (kn.cellsAt cl8)))) ?_
        refine gM rfl rfl ?_
        replace hF := obind hF
        obtain ⟨x9, hx9, hF⟩ := hF
        refine g_callp (v := .int .i64 x9) EE_fr rfl (ot rfl) (os1 (ot rfl) (os1 (ot rfl) os0)) hb_84 (fun _ => rfl) (fun hf kn w => by exact s_event_Fold_1 w x8 p1  hx9) ?_
        refine gr rfl (r_bin (ot rfl) (oc rfl) rfl) ?_
        refine go_nil ?_
        refine g_cond (b := (decide (x9 < 0))) (ot rfl) (fun hc10 => ?_) (fun hc10 => ?_)
        ·
          replace hF := ifT hc10 hF
          refine go_region ?_
          refine gM rfl rfl ?_
          refine gr rfl (r_bin (ot rfl) (oc rfl) rfl) ?_
          refine gA rfl rfl ?_
          refine go_nil ?_
          refine go_endb ?_
          exact Goes.weak (ih6 (m6, (IntKind.i64.wrap ((IntKind.i64.wrap (shrI .u64 (IntKind.u64.wrap (IntKind.i64.wrap (y6_0 + y6_1))) 1)) + 1)), y6_1, h6) ⟨e6, w6, hF⟩ (Nat.lt_succ_self _)) (Sub.cons (Sub.cons (Sub.cons (Sub.cons (Sub.cons (Sub.cons (Sub.cons (Sub.cons (Sub.nil _) rfl) rfl) rfl) rfl) rfl) rfl) rfl) rfl)
        ·
          replace hF := ifF hc10 hF
          refine go_region ?_
          refine gM rfl rfl ?_
          refine gA rfl rfl ?_
          refine go_nil ?_
          refine go_endb ?_
          exact Goes.weak (ih6 (m6, y6_0, (IntKind.i64.wrap (shrI .u64 (IntKind.u64.wrap (IntKind.i64.wrap (y6_0 + y6_1))) 1)), h6) ⟨e6, w6, hF⟩ (Nat.lt_succ_self _)) (Sub.cons (Sub.cons (Sub.cons (Sub.cons (Sub.cons (Sub.cons (Sub.cons (Sub.cons (Sub.nil _) rfl) rfl) rfl) rfl) rfl) rfl) rfl) rfl)
      ·
        replace hF := ifF hc7 hF
        refine go_exit rfl ?_
        obtain rfl := someI hF
        exact Goes.weak (J1 () _ e6 w6 trivial) (Sub.cons (Sub.cons (Sub.cons (Sub.cons (Sub.cons (Sub.cons (Sub.cons (Sub.nil _) rfl) rfl) rfl) rfl) rfl) rfl) rfl)
theorem s_event_Fold (n : Nat) {h : Heap} (hw : Wf h) (p0 : (List TKV)) (p1 : (List TEvent)) {a0_0 : Option Addr} {c0_0 : Nat} {a1_0 : Option Addr} {c1_0 : Nat} (f0_0 : RL R_TKV h a0_0 c0_0 p0) (f1_0 : RL R_TEvent h a1_0 c1_0 p1) {r : (List TKV)} (hF : F_event_Fold n p0 p1 = some r) :
    Ev EE 57 [.slice a0_0 p0.length c0_0, .slice a1_0 p1.length c1_0] h (fun v h1 => ∃ a0 c0, v = .slice a0 r.length c0 ∧ RL R_TKV h1 a0 c0 r) := by
  unfold F_event_Fold at hF
  refine ev_of hw rfl at_57 rfl rfl (go_seg0 ?_)
  refine go_seq ?_
  refine go_region ?_
  refine gAc rfl rfl ?_
  refine go_nil ?_
  refine go_seq ?_
  refine go_region ?_
  refine gM rfl rfl ?_
  replace hF := obind hF
  obtain ⟨x1, hx1, hF⟩ := hF
  refine gs_call EE_fr hw .nil (fun _ h => by cases h; rfl) of (os1 (ot rfl) os0) hb_82 (by exact evo_clone_82 hw f0_0 hx1) ?_
  rintro v1 S1 h1 e1 w1 ⟨q1, t1, rfl, rfl, f1_⟩
  simp only [List.cons_append, List.nil_append]
  refine gA rfl rfl ?_
  refine go_nil ?_
  refine go_seq ?_
  refine go_seq ?_
  refine go_region ?_
  refine gM rfl rfl ?_
  refine gr rfl (r_len rfl (os1 (ot rfl) os0) (fun _ _ => ln_50)) ?_
  refine gMc rfl rfl ?_
  refine go_nil ?_
  replace hF := obind hF
  obtain ⟨s2, hF, hK2⟩ := hF
  refine go_joinc (β := Option Addr × List Blk) (fun s h' => AccR R_TKV 47 h' s.2 (.slice s.1 s2.length s2.length) s2) (fun s => [(0, true, .slice s.1 s2.length s2.length), (4, true, .slice none 0 0)]) (fun s => (List.flatten [s.2] : List Blk)) ?_ (fun J2 => ?_)
  ·
    rintro ⟨a2_0, a2_1⟩ h2 e2 w2 f2_0
    replace hF := hK2
    refine go_seq ?_
    refine go_region ?_
    refine gM rfl rfl ?_
    refine gA rfl rfl ?_
    refine go_nil ?_
    refine gs_accpub .z f2_0 (fun h3 e3 w3 f3_ => ?_) rfl
    obtain rfl := someI hF
    exact g_ret (rst rfl rs0) (fun h1 hf hs => ⟨(e1.trans (e2.trans (e3.trans hs.hext))), ⟨_, _, rfl, (f3_.ext hs.hext.kn)⟩⟩)
  ·
    refine go_block ?_
    refine go_loop (α := (List TEvent) × Nat × (List TKV) × Option Addr × List Blk × Heap) (fun a => a.1 = List.drop a.2.1 p1 ∧ HExt h1 a.2.2.2.2.2 ∧ Wf a.2.2.2.2.2 ∧ F_event_Fold_L1 n a.1 a.2.1 a.2.2.1 = some s2 ∧ AccR R_TKV 47 a.2.2.2.2.2 a.2.2.2.2.1 (.slice a.2.2.2.1 a.2.2.1.length a.2.2.1.length) a.2.2.1) (fun a => a.1.length) (fun a => [(0, true, .slice a.2.2.2.1 a.2.2.1.length a.2.2.1.length), (4, true, .slice none 0 0), (11, true, .slice a1_0 p1.length c1_0), (12, true, .int .i64 (p1.length : Int)), (13, true, .int .i64 (a.2.1 : Int))]) (fun a => (List.flatten [a.2.2.2.2.1] : List Blk)) (fun a => a.2.2.2.2.2) ?_ (p1, 0, x1, q1, t1, h1) ⟨rfl, HExt.refl _, w1, hF, f1_⟩ (Sub.cons (Sub.cons (Sub.cons (Sub.cons (Sub.cons (Sub.nil _) rfl) rfl) rfl) rfl) rfl) rfl rfl
    rintro ⟨r4, i4, y4_0, a4_0, a4_1, h4⟩ ⟨hr4, e4, w4, hF, f4_0⟩ ih4
    rcases r4 with _ | ⟨z4, r4⟩
    ·
      have hi4 := drop_nil hr4
      rw [F_event_Fold_L1.eq_1] at hF
      refine go_seq ?_
      refine go_region ?_
      refine gr rfl (r_bin (ot rfl) (ot rfl) rfl) ?_
      refine go_cast (.bool false) (congrArg Value.bool (decide_eq_false hi4)) ?_
      refine go_nil ?_
      refine go_seq ?_
      refine g_cond (b := false) (ot rfl) (fun hc5 => ?_) (fun hc5 => ?_)
      · cases hc5
      refine go_exit rfl ?_
      obtain rfl := someI hF
      exact Goes.weak (J2 (a4_0, a4_1) _ e4 w4 f4_0) (Sub.cons (Sub.cons (Sub.nil _) rfl) rfl)
    ·
      obtain ⟨hi4, hx4, hr4⟩ := drop_cons hr4
      have hb4 := ((f1_0.ext e1.kn).ext e4.kn).1
      rw [F_event_Fold_L1.eq_2] at hF
      refine go_seq ?_
      refine go_region ?_
      refine gr rfl (r_bin (ot rfl) (ot rfl) rfl) ?_
      refine go_cast (.bool true) (congrArg Value.bool (decide_eq_true (Int.ofNat_lt.mpr hi4))) ?_
      refine go_nil ?_
      refine go_seq ?_
      refine g_cond (b := true) (ot rfl) (fun hc6 => ?_) (fun hc6 => ?_)
      rotate_left
      · cases hc6
      refine go_skip ?_
      refine go_seq ?_
      refine go_block ?_
      refine go_seq ?_
      refine go_region ?_
      obtain ⟨q7, row7, i7, cl7, rc7, sp7⟩ := ix (ik := .i64) (cap := c1_0) (E := EE) ((f1_0.ext e1.kn).ext e4.kn) ((getI_nat _ _).trans hx4) ut_50 sz_108 rfl
      obtain rfl := rc7
      refine gr rfl (r_ia (ot rfl) (ot rfl) i7) ?_
      refine gr rfl (r_load (ot rfl) (v := .agg #[.int .i64 z4.Rev, .string z4.Key, .string z4.Val, .bool z4.Del]) (lo_e (fun hf kn => ld_of (r := [.int .i64 z4.Rev, .string z4.Key, .string z4.Val, .bool z4.Del]) ag_108 sz_108 (kn.cellsAt cl7)))) ?_
      refine gs_alloc rfl zo_108 rfl ?_; intro b6_8
      refine gs_store (ot rfl) (ot rfl) sz_108 rfl rfl rfl rfl rfl .z ?_
      refine go_nil ?_
      refine go_seq ?_
      refine go_region ?_
      refine gM rfl rfl ?_
      refine gr rfl (r_fa (ot rfl) (fa_108_1 _ _)) ?_
      refine gr rfl (r_load (ot rfl) (lm_s (mem_seg 0 rfl) ag_9 rfl)) ?_
      replace hF := obind hF
      obtain ⟨x9, hx9, hF⟩ := hF
      refine gs_callb (v := .tuple #[.int .i64 x9.1, .bool x9.2]) EE_fr rfl (.s (.z)) f4_0 rfl of (os1 (ot rfl) (os1 (ot rfl) (os1 of os0))) hb_83 (fun hf kn w fb9 => by exact s_slices_BinarySearchFunc_event_Fold_1 n w y4_0 z4.Key fb9 hx9) ?_
      refine gM rfl rfl ?_
      refine gE rfl rfl rfl ?_
      refine gE rfl rfl rfl ?_
      refine gA rfl rfl ?_
      refine gA rfl rfl ?_
      refine go_nil ?_
      refine go_seq ?_
      refine go_seq ?_
      refine go_region ?_
      refine gM rfl rfl ?_
      refine go_nil ?_
      replace hF := obind hF
      obtain ⟨s11, hF, hK11⟩ := hF
      refine go_joinc (β := Option Addr × List Blk) (fun s h' => AccR R_TKV 47 h' s.2 (.slice s.1 s11.length s11.length) s11) (fun s => [(0, true, .slice s.1 s11.length s11.length), (4, true, .slice none 0 0), (6, true, .pointer (some ⟨b6_8, 0, none⟩)), (7, true, .int .i64 x9.1), (8, true, .bool x9.2), (11, true, .slice a1_0 p1.length c1_0), (12, true, .int .i64 (p1.length : Int)), (13, true, .int .i64 (i4 : Int)), (14, true, .bool true), (15, true, .pointer (some q7)), (16, true, .agg #[.int .i64 z4.Rev, .string z4.Key, .string z4.Val, .bool z4.Del]), (17, true, .tuple #[.int .i64 x9.1, .bool x9.2]), (19, true, .pointer (some ⟨b6_8, 1, none⟩)), (20, true, .string z4.Key), (21, true, .tuple #[.int .i64 x9.1, .bool x9.2]), (22, true, .int .i64 x9.1), (23, true, .bool x9.2), (24, true, .bool x9.2)]) (fun s => (List.flatten [[⟨b6_8, .cells [.int .i64 z4.Rev, .string z4.Key, .string z4.Val, .bool z4.Del] 108⟩], s.2] : List Blk)) ?_ (fun J11 => ?_)
      ·
        rintro ⟨a11_0, a11_1⟩ h11 e11 w11 f11_0
        replace hF := hK11
        refine go_seq ?_
        refine go_region ?_
        refine gr rfl (r_fa (ot rfl) (fa_108_3 _ _)) ?_
        refine gr rfl (r_load (ot rfl) (lm_s (mem_seg 0 rfl) ag_4 rfl)) ?_
        refine gr rfl (r_un (ot rfl) rfl) ?_
        refine go_nil ?_
        refine g_cond (b := (!z4.Del)) (ot rfl) (fun hc12 => ?_) (fun hc12 => ?_)
        ·
          replace hF := ifT hc12 hF
          refine go_region ?_
          refine gM rfl rfl ?_
          refine gM rfl rfl ?_
          refine gr rfl (r_fa (ot rfl) (fa_108_1 _ _)) ?_
          refine gr rfl (r_load (ot rfl) (lm_s (mem_seg 0 rfl) ag_9 rfl)) ?_
          refine gr rfl (r_fa (ot rfl) (fa_108_2 _ _)) ?_
          refine gr rfl (r_load (ot rfl) (lm_s (mem_seg 0 rfl) ag_9 rfl)) ?_
          refine gr rfl (r_fa (ot rfl) (fa_108_0 _ _)) ?_
          refine gr rfl (r_load (ot rfl) (lm_s (mem_seg 0 rfl) ag_3 rfl)) ?_
          refine gr rfl (r_build (op1 (ot rfl) (op1 (ot rfl) (op1 (ot rfl) op0))) rfl) ?_
          refine gs_bslice (cs := [.string z4.Key, .string z4.Val, .int .i64 z4.Rev]) rfl (op1 (ot rfl) op0) ut_28 sz_47 zo_47 rfl rfl ?_; intro b42_13
          replace hF := obind hF
          obtain ⟨x14, hx14, hF⟩ := hF
          refine gs_call EE_fr w11 (.cons (.s (.s (.z))) (.cons .z .nil)) (fun _ h => by cases h; rfl) of (os1 (ot rfl) (os1 (ot rfl) (os1 (ot rfl) os0))) hb_87 (by exact evo_ins_87 (x := (⟨z4.Key, z4.Val, z4.Rev⟩ : TKV)) rfl (fun h row x e => by subst e; rfl) f11_0 rfl hx14) ?_
          rintro v14 S14 h14 e14 w14 ⟨q14, t14, rfl, rfl, f14_⟩
          simp only [List.cons_append, List.nil_append]
          refine gA rfl rfl ?_
          refine go_nil ?_
          refine go_endb ?_
          refine go_region ?_
          refine gr rfl (r_bin (ot rfl) (oc rfl) rfl) ?_
          refine gM rfl rfl ?_
          refine go_nil ?_
          refine gs_sub (.cons_cons _ (.cons _ (.refl _))) ?_
          refine go_re 13 (v2 := .int .i64 ((i4 + 1 : Nat) : Int)) rfl (wrap_succ hi4 hb4) ?_
          exact Goes.weak (ih4 (r4, i4 + 1, x14, q14, t14, h14) ⟨hr4, (e4.trans (e11.trans e14)), w14, hF, f14_⟩ (Nat.lt_succ_self _)) (Sub.cons (Sub.cons (Sub.cons (Sub.cons (Sub.cons (Sub.nil _) rfl) rfl) rfl) rfl) rfl)
        ·
          replace hF := ifF hc12 hF
          refine go_skip ?_
          refine go_endb ?_
          refine go_region ?_
          refine gr rfl (r_bin (ot rfl) (oc rfl) rfl) ?_
          refine gM rfl rfl ?_
          refine go_nil ?_
          refine gs_sub (.cons _ (.cons_cons _ (.refl _))) ?_
          refine go_re 13 (v2 := .int .i64 ((i4 + 1 : Nat) : Int)) rfl (wrap_succ hi4 hb4) ?_
          exact Goes.weak (ih4 (r4, i4 + 1, s11, a11_0, a11_1, h11) ⟨hr4, (e4.trans e11), w11, hF, f11_0⟩ (Nat.lt_succ_self _)) (Sub.cons (Sub.cons (Sub.cons (Sub.cons (Sub.cons (Sub.nil _) rfl) rfl) rfl) rfl) rfl)
      ·
        refine g_cond (b := x9.2) (ot rfl) (fun hc10 => ?_) (fun hc10 => ?_)
        ·
          replace hF := ifT hc10 hF
          refine go_region ?_
          refine gM rfl rfl ?_
          refine gM rfl rfl ?_
          refine gM rfl rfl ?_
          refine gr rfl (r_bin (ot rfl) (oc rfl) rfl) ?_
          replace hF := obind hF
          obtain ⟨x15, hx15, hF⟩ := hF
          refine gs_call EE_fr w4 (.cons (.s (.z)) .nil) (fun _ h => by cases h; rfl) of (os1 (ot rfl) (os1 (ot rfl) (os1 (ot rfl) os0))) hb_86 (by exact evo_del_86 rfl f4_0 hx15) ?_
          rintro v15 S15 h15 e15 w15 ⟨q15, t15, rfl, rfl, f15_⟩
          simp only [List.cons_append, List.nil_append]
          refine gA rfl rfl ?_
          refine go_nil ?_
          obtain rfl := someI hF
          refine gs_perm (perm_of (d := []) _ [1, 0] rfl) ?_
          exact Goes.weak (J11 (q15, t15) _ e15 w15 f15_) (Sub.cons (Sub.cons (Sub.cons (Sub.cons (Sub.cons (Sub.cons (Sub.cons (Sub.cons (Sub.cons (Sub.cons (Sub.cons (Sub.cons (Sub.cons (Sub.cons (Sub.cons (Sub.cons (Sub.cons (Sub.cons (Sub.nil _) rfl) rfl) rfl) rfl) rfl) rfl) rfl) rfl) rfl) rfl) rfl) rfl) rfl) rfl) rfl) rfl) rfl) rfl)
        ·
          replace hF := ifF hc10 hF
          refine go_skip ?_
          obtain rfl := someI hF
          exact Goes.weak (J11 (a4_0, a4_1) _ (HExt.refl _) w4 f4_0) (Sub.cons (Sub.cons (Sub.cons (Sub.cons (Sub.cons (Sub.cons (Sub.cons (Sub.cons (Sub.cons (Sub.cons (Sub.cons (Sub.cons (Sub.cons (Sub.cons (Sub.cons (Sub.cons (Sub.cons (Sub.cons (Sub.nil _) rfl) rfl) rfl) rfl) rfl) rfl) rfl) rfl) rfl) rfl) rfl) rfl) rfl) rfl) rfl) rfl) rfl) rfl)
end Go.Proofs.Ytpfdandpmpmbiaa.V
