/- Walks.
   No condition: these are laws of the clean machine and of this program. -/
import Derived.Test.YtfgoccdjbgecfaaPT
namespace Go.Proofs.Ytfgoccdjbgecfaa.V
open Go
set_option linter.unusedVariables false
set_option linter.unusedSimpArgs false
set_option maxRecDepth 100000
set_option maxHeartbeats 4000000
theorem s_ref10_old {h : Heap} (hw : Wf h) (p0 : Timpostref10_Cursor) (p1 : THead)   {r : Bool} (hF : F_ref10_old p0 p1 = some r) :
    Ev EE 39 [.agg #[.string p0.R.From, .string p0.R.To, .int .i64 p0.Next, .bool p0.Once, .bool p0.Dead], .agg #[.int .i64 p1.Seq, .int .i64 p1.Rev, .int .i64 p1.Hor]] h (fun v _ => v = .bool r) := by
  unfold F_ref10_old at hF
  refine ev_of hw rfl at_39 rfl rfl (go_seg0 ?_)
  refine go_seq ?_
  refine go_region ?_
  refine gs_box rfl (ot rfl) rfl ?_; intro b2_1
  refine gs_box rfl (ot rfl) rfl ?_; intro b3_2
  refine gAc rfl rfl ?_
  refine go_nil ?_
  refine go_seq ?_
  refine go_region ?_
  refine gr rfl (r_fa (ot rfl) (fa_25_1 _ _)) ?_
  refine gr rfl (r_load (ot rfl) (lm_s (mem_seg 1 rfl) ag_3 rfl)) ?_
  refine gr rfl (r_fa (ot rfl) (fa_27_2 _ _)) ?_
  refine gr rfl (r_load (ot rfl) (lm_s (mem_seg 0 rfl) ag_3 rfl)) ?_
  refine gr rfl (r_bin (ot rfl) (ot rfl) rfl) ?_
  refine gA rfl rfl ?_
  refine go_nil ?_
  obtain rfl := someI hF
  exact g_ret (rst rfl rs0) (fun h1 hf hs => ⟨hs.hext, rfl⟩)
theorem s_ref10_ahead {h : Heap} (hw : Wf h) (p0 : Timpostref10_Cursor) (p1 : THead)   {r : Bool} (hF : F_ref10_ahead p0 p1 = some r) :
    Ev EE 40 [.agg #[.string p0.R.From, .string p0.R.To, .int .i64 p0.Next, .bool p0.Once, .bool p0.Dead], .agg #[.int .i64 p1.Seq, .int .i64 p1.Rev, .int .i64 p1.Hor]] h (fun v _ => v = .bool r) := by
  unfold F_ref10_ahead at hF
  refine ev_of hw rfl at_40 rfl rfl (go_seg0 ?_)
  refine go_seq ?_
  refine go_region ?_
  refine gs_box rfl (ot rfl) rfl ?_; intro b2_1
  refine gs_box rfl (ot rfl) rfl ?_; intro b3_2
  refine gAc rfl rfl ?_
  refine go_nil ?_
  refine go_seq ?_
  refine go_region ?_
  refine gr rfl (r_fa (ot rfl) (fa_25_1 _ _)) ?_
  refine gr rfl (r_load (ot rfl) (lm_s (mem_seg 1 rfl) ag_3 rfl)) ?_
  refine gr rfl (r_bin (ot rfl) (oc rfl) rfl) ?_
  refine gr rfl (r_fa (ot rfl) (fa_27_1 _ _)) ?_
  refine gr rfl (r_load (ot rfl) (lm_s (mem_seg 0 rfl) ag_3 rfl)) ?_
  refine gr rfl (r_bin (ot rfl) (ot rfl) rfl) ?_
  refine gA rfl rfl ?_
  refine go_nil ?_
  obtain rfl := someI hF
  exact g_ret (rst rfl rs0) (fun h1 hf hs => ⟨hs.hext, rfl⟩)
theorem s_ref04_In {h : Heap} (hw : Wf h) (p0 : TRange) (p1 : ByteArray)   {r : Bool} (hF : F_ref04_In p0 p1 = some r) :
    Ev EE 48 [.agg #[.string p0.From, .string p0.To], .string p1] h (fun v _ => v = .bool r) := by
  unfold F_ref04_In at hF
  refine ev_of hw rfl at_48 rfl rfl (go_seg0 ?_)
  refine go_seq ?_
  refine go_region ?_
  refine gs_box rfl (ot rfl) rfl ?_; intro b2_1
  refine gAc rfl rfl ?_
  refine go_nil ?_
  refine go_seq ?_
  refine go_region ?_
  refine gM rfl rfl ?_
  refine gr rfl (r_fa (ot rfl) (fa_23_0 _ _)) ?_
  refine gr rfl (r_load (ot rfl) (lm_s (mem_seg 0 rfl) ag_9 rfl)) ?_
  refine gr rfl (r_bin (ot rfl) (ot rfl) rfl) ?_
  refine gM rfl rfl ?_
  refine grt rfl rfl rfl rfl (r_fa (ot rfl) (fa_23_1 _ _)) ?_
  refine grt rfl rfl rfl rfl (r_load (og rfl id) (lm_s (mem_seg 0 rfl) ag_9 rfl)) ?_
  refine grt rfl rfl rfl rfl (r_bin (og rfl id) (oc rfl) rfl) ?_
  refine grt rfl rfl rfl rfl (r_move (og rfl id)) ?_
  refine grf' rfl rfl rfl rfl (r_move (ot rfl)) ?_
  refine grf' rfl rfl rfl rfl (r_fa (ot rfl) (fa_23_1 _ _)) ?_
  refine grf' rfl rfl rfl rfl (r_load (og rfl id) (lm_s (mem_seg 0 rfl) ag_9 rfl)) ?_
  refine grf' rfl rfl rfl rfl (r_bin (og rfl id) (og rfl id) rfl) ?_
  refine grt rfl rfl rfl rfl (r_pickb (og rfl id) (oc rfl) (og rfl id)) ?_
  refine gr rfl (r_pickb (ot rfl) (og rfl id) (oc rfl)) ?_
  refine gA rfl rfl ?_
  refine go_nil ?_
  obtain rfl := someI hF
  exact g_ret (rst rfl rs0) (fun h1 hf hs => ⟨hs.hext, rfl⟩)
theorem s_ref05_Filter {h : Heap} (hw : Wf h) (p0 : (List TEvent)) (p1 : TRange) {a0_0 : Option Addr} {c0_0 : Nat} (f0_0 : RL R_TEvent h a0_0 c0_0 p0) {r : (List TEvent)} (hF : F_ref05_Filter p0 p1 = some r) :
    Ev EE 23 [.slice a0_0 p0.length c0_0, .agg #[.string p1.From, .string p1.To]] h (fun v h1 => ∃ a0 c0, v = .slice a0 r.length c0 ∧ RL R_TEvent h1 a0 c0 r) := by
  unfold F_ref05_Filter at hF
  refine ev_of hw rfl at_23 rfl rfl (go_seg0 ?_)
  refine go_seq ?_
  refine go_region ?_
  refine gs_box rfl (ot rfl) rfl ?_; intro b3_1
  refine gAc rfl rfl ?_
  refine go_nil ?_
  refine go_seq ?_
  refine go_region ?_
  refine gAc rfl rfl ?_
  refine go_nil ?_
  refine go_seq ?_
  refine go_seq ?_
  refine go_region ?_
  refine gAc rfl rfl ?_
  refine go_nil ?_
  replace hF := obind hF
  obtain ⟨s2, hF, hK2⟩ := hF
  refine go_joinc (β := Option Addr × List Blk) (fun s h' => AccR R_TEvent 77 h' s.2 (.slice s.1 s2.length s2.length) s2) (fun s => [(4, true, .slice none 0 0), (5, true, .slice s.1 s2.length s2.length)]) (fun s => (List.flatten [s.2, [⟨b3_1, .cells [.string p1.From, .string p1.To] 23⟩]] : List Blk)) ?_ (fun J2 => ?_)
  ·
    rintro ⟨a2_0, a2_1⟩ h2 e2 w2 f2_0
    replace hF := hK2
    refine go_seq ?_
    refine go_region ?_
    refine gM rfl rfl ?_
    refine gA rfl rfl ?_
    refine go_nil ?_
    refine gs_accpub .z f2_0 (fun h3 e3 w3 f3_ => ?_) rfl
    obtain rfl := someI hF
    exact g_ret (rst rfl rs0) (fun h1 hf hs => ⟨(e2.trans (e3.trans hs.hext)), ⟨_, _, rfl, (f3_.ext hs.hext.kn)⟩⟩)
  ·
    refine go_block ?_
    refine go_loop (α := (List TEvent) × Nat × (List TEvent) × Option Addr × List Blk × Heap) (fun a => a.1 = List.drop a.2.1 p0 ∧ HExt h a.2.2.2.2.2 ∧ Wf a.2.2.2.2.2 ∧ F_ref05_Filter_L1 p1 a.1 a.2.1 a.2.2.1 = some s2 ∧ AccR R_TEvent 77 a.2.2.2.2.2 a.2.2.2.2.1 (.slice a.2.2.2.1 a.2.2.1.length a.2.2.1.length) a.2.2.1) (fun a => a.1.length) (fun a => [(0, true, .slice a0_0 p0.length c0_0), (3, true, .pointer (some ⟨b3_1, 0, none⟩)), (4, true, .slice none 0 0), (5, true, .slice a.2.2.2.1 a.2.2.1.length a.2.2.1.length), (6, true, .int .i64 (a.2.1 : Int))]) (fun a => (List.flatten [a.2.2.2.2.1, [⟨b3_1, .cells [.string p1.From, .string p1.To] 23⟩]] : List Blk)) (fun a => a.2.2.2.2.2) ?_ (p0, 0, ([] : List TEvent), none, [], h) ⟨rfl, HExt.refl _, hw, hF, (AccR.nil _ _ _)⟩ (Sub.cons (Sub.cons (Sub.cons (Sub.cons (Sub.cons (Sub.nil _) rfl) rfl) rfl) rfl) rfl) rfl rfl
    rintro ⟨r4, i4, y4_0, a4_0, a4_1, h4⟩ ⟨hr4, e4, w4, hF, f4_0⟩ ih4
    rcases r4 with _ | ⟨z4, r4⟩
    ·
      have hi4 := drop_nil hr4
      rw [F_ref05_Filter_L1.eq_1] at hF
      refine go_seq ?_
      refine go_seq ?_
      refine go_region ?_
      refine gM rfl rfl ?_
      refine gM rfl rfl ?_
      refine gr rfl (r_len rfl (os1 (ot rfl) os0) (fun _ _ => ln_30)) ?_
      refine gr rfl (r_bin (ot rfl) (ot rfl) rfl) ?_
      refine go_cast (.bool false) (congrArg Value.bool (decide_eq_false hi4)) ?_
      refine go_nil ?_
      refine g_cond (b := false) (ot rfl) (fun hc5 => ?_) (fun hc5 => ?_)
      · cases hc5
      refine go_exit rfl ?_
      obtain rfl := someI hF
      exact Goes.weak (J2 (a4_0, a4_1) _ e4 w4 f4_0) (Sub.cons (Sub.cons (Sub.nil _) rfl) rfl)
    ·
      obtain ⟨hi4, hx4, hr4⟩ := drop_cons hr4
      have hb4 := (f0_0.ext e4.kn).1
      rw [F_ref05_Filter_L1.eq_2] at hF
      refine go_seq ?_
      refine go_seq ?_
      refine go_region ?_
      refine gM rfl rfl ?_
      refine gM rfl rfl ?_
      refine gr rfl (r_len rfl (os1 (ot rfl) os0) (fun _ _ => ln_30)) ?_
      refine gr rfl (r_bin (ot rfl) (ot rfl) rfl) ?_
      refine go_cast (.bool true) (congrArg Value.bool (decide_eq_true (Int.ofNat_lt.mpr hi4))) ?_
      refine go_nil ?_
      refine g_cond (b := true) (ot rfl) (fun hc6 => ?_) (fun hc6 => ?_)
      rotate_left
      · cases hc6
      refine go_skip ?_
      refine go_seq ?_
      refine go_block ?_
      refine go_seq ?_
      refine go_regions (L := [(0, []), (1, []), (2, []), (3, []), (4, []), (5, []), (6, [])]) (by kernel_rfl) (by kernel_rfl) (fun _ => rfl) ?_
      refine go_sop rfl rfl ?_
      refine gr rfl (r_load (ot rfl) (lm_w (mem_seg 1 rfl) ag_23 sz_23 rfl)) ?_
      refine go_nil ?_
      refine go_sop rfl rfl ?_
      refine gM rfl rfl ?_
      refine go_nil ?_
      refine go_sop rfl rfl ?_
      refine gM rfl rfl ?_
      refine go_nil ?_
      refine go_sop rfl rfl ?_
      obtain ⟨q7, row7, i7, cl7, rc7, sp7⟩ := ix (ik := .i64) (cap := c0_0) (E := EE) (f0_0.ext e4.kn) ((getI_nat _ _).trans hx4) ut_30 sz_77 rfl
      obtain rfl := rc7
      refine gr rfl (r_ia (ot rfl) (ot rfl) i7) ?_
      refine go_nil ?_
      refine go_sop rfl rfl ?_
      refine gr rfl (r_fa (ot rfl) (fs_77_1 sp7)) ?_
      refine go_nil ?_
      refine go_sop rfl rfl ?_
      refine gr rfl (r_load (ot rfl) (v := .string z4.Key) (lo_e (fun hf kn => ld_field (r := [.int .i64 z4.Rev, .string z4.Key, .string z4.Val, .bool z4.Del]) ag_9 (kn.cellsAt cl7) rfl))) ?_
      refine go_nil ?_
      refine go_sop rfl rfl ?_
      replace hF := obind hF
      obtain ⟨x8, hx8, hF⟩ := hF
      refine g_callp (v := .bool x8) EE_fr rfl of (os1 (ot rfl) (os1 (ot rfl) os0)) hb_48 (fun _ => rfl) (fun hf kn w => by exact s_ref04_In w p1 z4.Key  hx8) ?_
      refine go_nil ?_
      refine go_snil ?_
      replace hF := obind hF
      obtain ⟨s10, hF, hK10⟩ := hF
      refine go_joinc (β := Option Addr × List Blk) (fun s h' => AccR R_TEvent 77 h' s.2 (.slice s.1 s10.length s10.length) s10) (fun s => [(0, true, .slice a0_0 p0.length c0_0), (3, true, .pointer (some ⟨b3_1, 0, none⟩)), (4, true, .slice none 0 0), (5, true, .slice s.1 s10.length s10.length), (6, true, .int .i64 (i4 : Int)), (7, true, .int .i64 (i4 : Int)), (8, true, .slice a0_0 p0.length c0_0), (9, true, .int .i64 (p0.length : Int)), (10, true, .bool true), (13, true, .agg #[.string p1.From, .string p1.To]), (14, true, .slice a0_0 p0.length c0_0), (15, true, .int .i64 (i4 : Int)), (16, true, .pointer (some q7)), (17, true, .pointer (some ⟨q7.block, q7.off + 1, q7.spot⟩)), (18, true, .string z4.Key), (19, true, .bool x8)]) (fun s => (List.flatten [s.2, [⟨b3_1, .cells [.string p1.From, .string p1.To] 23⟩]] : List Blk)) ?_ (fun J10 => ?_)
      ·
        rintro ⟨a10_0, a10_1⟩ h10 e10 w10 f10_0
        replace hF := hK10
        refine go_endb ?_
        refine go_region ?_
        refine gM rfl rfl ?_
        refine gr rfl (r_bin (ot rfl) (oc rfl) rfl) ?_
        refine gA rfl rfl ?_
        refine go_nil ?_
        refine go_re 6 (v2 := .int .i64 ((i4 + 1 : Nat) : Int)) rfl (wrap_succ hi4 hb4) ?_
        exact Goes.weak (ih4 (r4, i4 + 1, s10, a10_0, a10_1, h10) ⟨hr4, (e4.trans e10), w10, hF, f10_0⟩ (Nat.lt_succ_self _)) (Sub.cons (Sub.cons (Sub.cons (Sub.cons (Sub.cons (Sub.nil _) rfl) rfl) rfl) rfl) rfl)
      ·
        refine g_cond (b := x8) (ot rfl) (fun hc9 => ?_) (fun hc9 => ?_)
        ·
          replace hF := ifT hc9 hF
          refine go_region ?_
          refine gM rfl rfl ?_
          refine gM rfl rfl ?_
          refine gM rfl rfl ?_
          obtain ⟨q11, row11, i11, cl11, rc11, sp11⟩ := ix (ik := .i64) (cap := c0_0) (E := EE) (f0_0.ext e4.kn) ((getI_nat _ _).trans hx4) ut_30 sz_77 rfl
          obtain rfl := rc11
          refine gr rfl (r_ia (ot rfl) (ot rfl) i11) ?_
          refine gr rfl (r_load (ot rfl) (v := .agg #[.int .i64 z4.Rev, .string z4.Key, .string z4.Val, .bool z4.Del]) (lo_e (fun hf kn => ld_of (r := [.int .i64 z4.Rev, .string z4.Key, .string z4.Val, .bool z4.Del]) ag_77 sz_77 (kn.cellsAt cl11)))) ?_
          refine gs_bslice (cs := [.int .i64 z4.Rev, .string z4.Key, .string z4.Val, .bool z4.Del]) rfl (op1 (ot rfl) op0) ut_30 sz_77 zo_77 rfl rfl ?_; intro b25_12
          replace hF := obind hF
          obtain ⟨x13, hx13, hF⟩ := hF
          obtain ⟨hr13, hz13_⟩ := appL_some hx13; subst x13
          refine gs_front (.s (.z)) ?_
          refine gs_app (rows2 := [[.int .i64 z4.Rev, .string z4.Key, .string z4.Val, .bool z4.Del]]) (R := R_TEvent) rfl (os1 (ot rfl) (os1 (ot rfl) os0)) rfl ut_30 sz_77 rfl (by decide) by_77 zo_77 rfl zs_30_30 rfl rfl (first_m (mem_seg 1 rfl) rfl (by decide)) (Rws.one (x := z4) rfl) f4_0 hr13 (fun p13_ tl13 f13_ => ?_)
          refine gA rfl rfl ?_
          refine go_nil ?_
          obtain rfl := someI hF
          refine gs_sub (.cons_cons _ (.cons _ (.cons_cons _ (.refl _)))) ?_
          exact Goes.weak (J10 (p13_, tl13) _ (HExt.refl _) w4 f13_) (Sub.cons (Sub.cons (Sub.cons (Sub.cons (Sub.cons (Sub.cons (Sub.cons (Sub.cons (Sub.cons (Sub.cons (Sub.cons (Sub.cons (Sub.cons (Sub.cons (Sub.cons (Sub.cons (Sub.nil _) rfl) rfl) rfl) rfl) rfl) rfl) rfl) rfl) rfl) rfl) rfl) rfl) rfl) rfl) rfl) rfl)
        ·
          replace hF := ifF hc9 hF
          refine go_skip ?_
          obtain rfl := someI hF
          exact Goes.weak (J10 (a4_0, a4_1) _ (HExt.refl _) w4 f4_0) (Sub.cons (Sub.cons (Sub.cons (Sub.cons (Sub.cons (Sub.cons (Sub.cons (Sub.cons (Sub.cons (Sub.cons (Sub.cons (Sub.cons (Sub.cons (Sub.cons (Sub.cons (Sub.cons (Sub.nil _) rfl) rfl) rfl) rfl) rfl) rfl) rfl) rfl) rfl) rfl) rfl) rfl) rfl) rfl) rfl) rfl)
theorem s_ref05_Last (n : Nat) {h : Heap} (hw : Wf h) (p0 : (List TEvent)) {a0_0 : Option Addr} {c0_0 : Nat} (f0_0 : RL R_TEvent h a0_0 c0_0 p0) {r : (List TEvent)} (hF : F_ref05_Last n p0 = some r) :
    Ev EE 26 [.slice a0_0 p0.length c0_0] h (fun v h1 => ∃ a0 c0, v = .slice a0 r.length c0 ∧ RL R_TEvent h1 a0 c0 r) := by
  unfold F_ref05_Last at hF
  refine ev_of hw rfl at_26 rfl rfl (go_seg0 ?_)
  refine go_seq ?_
  refine go_region ?_
  refine gAc rfl rfl ?_
  refine go_nil ?_
  refine go_seq ?_
  refine go_region ?_
  refine gAc rfl rfl ?_
  refine go_nil ?_
  refine go_seq ?_
  refine go_seq ?_
  refine go_region ?_
  refine gAc rfl rfl ?_
  refine go_nil ?_
  replace hF := obind hF
  obtain ⟨s1, hF, hK1⟩ := hF
  refine go_joinc (β := Option Addr × List Blk) (fun s h' => AccR R_TEvent 77 h' s.2 (.slice s.1 s1.length s1.length) s1) (fun s => [(2, true, .slice none 0 0), (3, true, .slice s.1 s1.length s1.length)]) (fun s => (List.flatten [s.2] : List Blk)) ?_ (fun J1 => ?_)
  ·
    rintro ⟨a1_0, a1_1⟩ h1 e1 w1 f1_0
    replace hF := hK1
    refine go_seq ?_
    refine go_region ?_
    refine gM rfl rfl ?_
    refine gA rfl rfl ?_
    refine go_nil ?_
    refine gs_accpub .z f1_0 (fun h2 e2 w2 f2_ => ?_) rfl
    obtain rfl := someI hF
    exact g_ret (rst rfl rs0) (fun h1 hf hs => ⟨(e1.trans (e2.trans hs.hext)), ⟨_, _, rfl, (f2_.ext hs.hext.kn)⟩⟩)
  ·
    refine go_block ?_
    refine go_loop (α := (List TEvent) × Nat × (List TEvent) × Option Addr × List Blk × Heap) (fun a => a.1 = List.drop a.2.1 p0 ∧ HExt h a.2.2.2.2.2 ∧ Wf a.2.2.2.2.2 ∧ F_ref05_Last_L1 n p0 a.1 a.2.1 a.2.2.1 = some s1 ∧ AccR R_TEvent 77 a.2.2.2.2.2 a.2.2.2.2.1 (.slice a.2.2.2.1 a.2.2.1.length a.2.2.1.length) a.2.2.1) (fun a => a.1.length) (fun a => [(0, true, .slice a0_0 p0.length c0_0), (2, true, .slice none 0 0), (3, true, .slice a.2.2.2.1 a.2.2.1.length a.2.2.1.length), (4, true, .int .i64 (a.2.1 : Int))]) (fun a => (List.flatten [a.2.2.2.2.1] : List Blk)) (fun a => a.2.2.2.2.2) ?_ (p0, 0, ([] : List TEvent), none, [], h) ⟨rfl, HExt.refl _, hw, hF, (AccR.nil _ _ _)⟩ (Sub.cons (Sub.cons (Sub.cons (Sub.cons (Sub.nil _) rfl) rfl) rfl) rfl) rfl rfl
    rintro ⟨r3, i3, y3_0, a3_0, a3_1, h3⟩ ⟨hr3, e3, w3, hF, f3_0⟩ ih3
    rcases r3 with _ | ⟨z3, r3⟩
    ·
      have hi3 := drop_nil hr3
      rw [F_ref05_Last_L1.eq_1] at hF
      refine go_seq ?_
      refine go_seq ?_
      refine go_region ?_
      refine gM rfl rfl ?_
      refine gM rfl rfl ?_
      refine gr rfl (r_len rfl (os1 (ot rfl) os0) (fun _ _ => ln_30)) ?_
      refine gr rfl (r_bin (ot rfl) (ot rfl) rfl) ?_
      refine go_cast (.bool false) (congrArg Value.bool (decide_eq_false hi3)) ?_
      refine go_nil ?_
      refine g_cond (b := false) (ot rfl) (fun hc4 => ?_) (fun hc4 => ?_)
      · cases hc4
      refine go_exit rfl ?_
      obtain rfl := someI hF
      exact Goes.weak (J1 (a3_0, a3_1) _ e3 w3 f3_0) (Sub.cons (Sub.cons (Sub.nil _) rfl) rfl)
    ·
      obtain ⟨hi3, hx3, hr3⟩ := drop_cons hr3
      have hb3 := (f0_0.ext e3.kn).1
      rw [F_ref05_Last_L1.eq_2] at hF
      refine go_seq ?_
      refine go_seq ?_
      refine go_region ?_
      refine gM rfl rfl ?_
      refine gM rfl rfl ?_
      refine gr rfl (r_len rfl (os1 (ot rfl) os0) (fun _ _ => ln_30)) ?_
      refine gr rfl (r_bin (ot rfl) (ot rfl) rfl) ?_
      refine go_cast (.bool true) (congrArg Value.bool (decide_eq_true (Int.ofNat_lt.mpr hi3))) ?_
      refine go_nil ?_
      refine g_cond (b := true) (ot rfl) (fun hc5 => ?_) (fun hc5 => ?_)
      rotate_left
      · cases hc5
      refine go_skip ?_
      refine go_seq ?_
      replace hF := obind hF
      obtain ⟨s6, hF, hK6⟩ := hF
      refine go_joinc (β := Option Addr × List Blk) (fun s h' => AccR R_TEvent 77 h' s.2 (.slice s.1 s6.1.length s6.1.length) s6.1) (fun s => [(0, true, .slice a0_0 p0.length c0_0), (2, true, .slice none 0 0), (3, true, .slice s.1 s6.1.length s6.1.length), (4, true, .int .i64 (i3 : Int)), (5, true, .bool s6.2.1), (6, true, .int .i64 s6.2.2.1), (9, true, .int .i64 (i3 : Int)), (10, true, .slice a0_0 p0.length c0_0), (11, true, .int .i64 (p0.length : Int)), (12, true, .bool true), (15, true, .int .i64 (i3 : Int)), (16, true, .int .i64 (IntKind.i64.wrap ((i3 : Int) + 1))), (17, true, .int .i64 s6.2.2.2.1), (18, true, .slice a0_0 p0.length c0_0), (19, true, .int .i64 (p0.length : Int)), (20, true, .bool s6.2.2.2.2.1), (37, true, .bool s6.2.2.2.2.2.1), (38, true, .bool s6.2.2.2.2.2.2)]) (fun s => (List.flatten [s.2] : List Blk)) ?_ (fun J6 => ?_)
      ·
        rintro ⟨a6_0, a6_1⟩ h6 e6 w6 f6_0
        replace hF := hK6
        refine go_region ?_
        refine gM rfl rfl ?_
        refine gr rfl (r_bin (ot rfl) (oc rfl) rfl) ?_
        refine gA rfl rfl ?_
        refine go_nil ?_
        refine go_re 4 (v2 := .int .i64 ((i3 + 1 : Nat) : Int)) rfl (wrap_succ hi3 hb3) ?_
        exact Goes.weak (ih3 (r3, i3 + 1, s6.1, a6_0, a6_1, h6) ⟨hr3, (e3.trans e6), w6, hF, f6_0⟩ (Nat.lt_succ_self _)) (Sub.cons (Sub.cons (Sub.cons (Sub.cons (Sub.nil _) rfl) rfl) rfl) rfl)
      ·
        refine go_block ?_
        refine go_seq ?_
        refine go_region ?_
        refine gAc rfl rfl ?_
        refine go_nil ?_
        refine go_seq ?_
        refine go_seq ?_
        refine go_region ?_
        refine gM rfl rfl ?_
        refine gr rfl (r_bin (ot rfl) (oc rfl) rfl) ?_
        refine gA rfl rfl ?_
        refine go_nil ?_
        replace hF := obind hF
        obtain ⟨s7, hF, hK7⟩ := hF
        refine go_joinc (β := Unit) (fun s h' => True) (fun s => [(0, true, .slice a0_0 p0.length c0_0), (2, true, .slice none 0 0), (3, true, .slice a3_0 y3_0.length y3_0.length), (4, true, .int .i64 (i3 : Int)), (5, true, .bool s7.1), (6, true, .int .i64 s7.2.1), (9, true, .int .i64 (i3 : Int)), (10, true, .slice a0_0 p0.length c0_0), (11, true, .int .i64 (p0.length : Int)), (12, true, .bool true), (15, true, .int .i64 (i3 : Int)), (16, true, .int .i64 (IntKind.i64.wrap ((i3 : Int) + 1))), (17, true, .int .i64 s7.2.2.1), (18, true, .slice a0_0 p0.length c0_0), (19, true, .int .i64 (p0.length : Int)), (20, true, .bool s7.2.2.2)]) (fun s => (List.flatten [a3_1] : List Blk)) ?_ (fun J7 => ?_)
        ·
          rintro _ h7 e7 w7 _
          replace hF := hK7
          refine go_seq ?_
          refine go_seq ?_
          refine go_region ?_
          refine gM rfl rfl ?_
          refine gr rfl (r_un (ot rfl) rfl) ?_
          refine go_nil ?_
          refine g_cond (b := (!s7.1)) (ot rfl) (fun hc8 => ?_) (fun hc8 => ?_)
          ·
            replace hF := ifT hc8 hF
            refine go_exit rfl ?_
            obtain rfl := someI hF
            exact Goes.weak (J6 (a3_0, a3_1) _ e7 w7 (f3_0.ext e7.kn)) (Sub.cons (Sub.cons (Sub.cons (Sub.cons (Sub.cons (Sub.cons (Sub.cons (Sub.cons (Sub.cons (Sub.cons (Sub.cons (Sub.cons (Sub.cons (Sub.cons (Sub.cons (Sub.cons (Sub.cons (Sub.cons (Sub.nil _) rfl) rfl) rfl) rfl) rfl) rfl) rfl) rfl) rfl) rfl) rfl) rfl) rfl) rfl) rfl) rfl) rfl) rfl)
          ·
            replace hF := ifF hc8 hF
            refine go_skip ?_
            refine go_seq ?_
            refine go_region ?_
            refine gAc rfl rfl ?_
            refine go_nil ?_
            refine go_seq ?_
            replace hF := obind hF
            obtain ⟨s9, hF, hK9⟩ := hF
            refine go_joinc (β := Unit) (fun s h' => True) (fun s => [(0, true, .slice a0_0 p0.length c0_0), (2, true, .slice none 0 0), (3, true, .slice a3_0 y3_0.length y3_0.length), (4, true, .int .i64 (i3 : Int)), (5, true, .bool s7.1), (6, true, .int .i64 s7.2.1), (7, true, .int .i64 s9.1), (9, true, .int .i64 (i3 : Int)), (10, true, .slice a0_0 p0.length c0_0), (11, true, .int .i64 (p0.length : Int)), (12, true, .bool true), (15, true, .int .i64 (i3 : Int)), (16, true, .int .i64 (IntKind.i64.wrap ((i3 : Int) + 1))), (17, true, .int .i64 s7.2.2.1), (18, true, .slice a0_0 p0.length c0_0), (19, true, .int .i64 (p0.length : Int)), (20, true, .bool s7.2.2.2), (37, true, .bool s7.1), (38, true, .bool (!s7.1)), (39, true, .int .i64 s9.2.1), (40, true, .slice a3_0 y3_0.length y3_0.length), (41, true, .int .i64 (y3_0.length : Int)), (42, true, .bool s9.2.2.1), (43, true, .bool s9.2.2.2.1), (55, true, .bool s9.2.2.2.2)]) (fun s => (List.flatten [a3_1] : List Blk)) ?_ (fun J9 => ?_)
            ·
              rintro _ h9 e9 w9 _
              replace hF := hK9
              refine go_seq ?_
              refine go_region ?_
              refine gs_bslice (cs := []) rfl op0 ut_30 sz_77 zo_77 rfl rfl ?_; intro b58_10
              refine gM rfl rfl ?_
              refine gM rfl rfl ?_
              refine gs_accpub (.s (.z)) ((f3_0.ext e7.kn).ext e9.kn) (fun h12 e12 w12 f12_ => ?_) rfl
              replace hF := obind hF
              obtain ⟨x11, hx11, hF⟩ := hF
              obtain ⟨a11_, c11_, i11⟩ := subL0_ok (E := EE) f12_ hx11 (fun e => by rw [e]; rfl) ut_30 sz_77 rfl rfl
              have f11_ := i11.rl
              refine gr rfl (r_slice (ot rfl) on (oo (ot rfl)) on (fun hf kn => i11.hi kn rfl)) ?_
              replace hF := obind hF
              obtain ⟨x13, hx13, hF⟩ := hF
              obtain ⟨hr13, hz13_⟩ := appL_some hx13; subst x13
              obtain ⟨rw13, hw13, hq13⟩ := RL.first f11_ (by decide)
              refine gs_app0 (rows2 := rw13) (R := R_TEvent) rfl (os1 (ot rfl) (os1 (ot rfl) os0)) rfl ut_30 sz_77 rfl (by decide) by_77 zo_77 rfl zs_30_30 rfl rfl (first_e hq13 (fun h' kn => kn.firstV hq13)) hw13 (AccR.lit _ _ _ _) hr13 (fun p13_ tl13 f13_ => ?_)
              refine gA rfl rfl ?_
              refine go_nil ?_
              refine go_seq ?_
              refine go_region ?_
              refine gM rfl rfl ?_
              refine gM rfl rfl ?_
              refine gM rfl rfl ?_
              obtain ⟨q14, row14, i14, cl14, rc14, sp14⟩ := ix (ik := .i64) (cap := c0_0) (E := EE) ((((f0_0.ext e3.kn).ext e7.kn).ext e9.kn).ext e12.kn) ((getI_nat _ _).trans hx3) ut_30 sz_77 rfl
              obtain rfl := rc14
              refine gr rfl (r_ia (ot rfl) (ot rfl) i14) ?_
              refine gr rfl (r_load (ot rfl) (v := .agg #[.int .i64 z3.Rev, .string z3.Key, .string z3.Val, .bool z3.Del]) (lo_e (fun hf kn => ld_of (r := [.int .i64 z3.Rev, .string z3.Key, .string z3.Val, .bool z3.Del]) ag_77 sz_77 (kn.cellsAt cl14)))) ?_
              refine gs_bslice (cs := [.int .i64 z3.Rev, .string z3.Key, .string z3.Val, .bool z3.Del]) rfl (op1 (ot rfl) op0) ut_30 sz_77 zo_77 rfl rfl ?_; intro b68_15
              replace hF := obind hF
              obtain ⟨x16, hx16, hF⟩ := hF
              obtain ⟨hr16, hz16_⟩ := appL_some hx16; subst x16
              refine gs_front (.s (.z)) ?_
              refine gs_app (rows2 := [[.int .i64 z3.Rev, .string z3.Key, .string z3.Val, .bool z3.Del]]) (R := R_TEvent) rfl (os1 (ot rfl) (os1 (ot rfl) os0)) rfl ut_30 sz_77 rfl (by decide) by_77 zo_77 rfl zs_30_30 rfl rfl (first_m (mem_seg 1 rfl) rfl (by decide)) (Rws.one (x := z3) rfl) f13_ hr16 (fun p16_ tl16 f16_ => ?_)
              refine gA rfl rfl ?_
              refine go_nil ?_
              refine go_seq ?_
              refine go_region ?_
              refine gM rfl rfl ?_
              refine gM rfl rfl ?_
              refine gM rfl rfl ?_
              replace hF := obind hF
              obtain ⟨x17, hx17, hF⟩ := hF
              obtain ⟨a17_, c17_, i17⟩ := subL0_ok (E := EE) f12_ hx17 (fun e => by rw [e]; rfl) ut_30 sz_77 rfl rfl
              have f17_ := i17.rl
              refine gr rfl (r_slice (ot rfl) (oo (ot rfl)) on on (fun hf kn => i17.lo kn rfl)) ?_
              replace hF := obind hF
              obtain ⟨x18, hx18, hF⟩ := hF
              obtain ⟨hr18, hz18_⟩ := appL_some hx18; subst x18
              obtain ⟨rw18, hw18, hq18⟩ := RL.first f17_ (by decide)
              refine gs_app (rows2 := rw18) (R := R_TEvent) rfl (os1 (ot rfl) (os1 (ot rfl) os0)) rfl ut_30 sz_77 rfl (by decide) by_77 zo_77 rfl zs_30_30 rfl rfl (first_e hq18 (fun h' kn => kn.firstV hq18)) hw18 f16_ hr18 (fun p18_ tl18 f18_ => ?_)
              refine gA rfl rfl ?_
              refine go_nil ?_
              refine go_region ?_
              refine gM rfl rfl ?_
              refine gA rfl rfl ?_
              refine go_nil ?_
              refine go_endb ?_
              obtain rfl := someI hF
              refine gs_sub (.cons_cons _ (.cons _ (.cons _ (.refl _)))) ?_
              exact Goes.weak (J6 (p18_, tl18) _ (e7.trans (e9.trans e12)) w12 f18_) (Sub.cons (Sub.cons (Sub.cons (Sub.cons (Sub.cons (Sub.cons (Sub.cons (Sub.cons (Sub.cons (Sub.cons (Sub.cons (Sub.cons (Sub.cons (Sub.cons (Sub.cons (Sub.cons (Sub.cons (Sub.cons (Sub.nil _) rfl) rfl) rfl) rfl) rfl) rfl) rfl) rfl) rfl) rfl) rfl) rfl) rfl) rfl) rfl) rfl) rfl) rfl)
            ·
              refine go_block ?_
              refine go_loop (α := (List TEvent) × Nat × Heap) (fun a => a.1 = List.drop a.2.1 y3_0 ∧ HExt h7 a.2.2 ∧ Wf a.2.2 ∧ F_ref05_Last_L2 z3 a.1 a.2.1 = some s9) (fun a => a.1.length) (fun a => [(0, true, .slice a0_0 p0.length c0_0), (2, true, .slice none 0 0), (3, true, .slice a3_0 y3_0.length y3_0.length), (4, true, .int .i64 (i3 : Int)), (5, true, .bool s7.1), (6, true, .int .i64 s7.2.1), (7, true, .int .i64 (a.2.1 : Int)), (9, true, .int .i64 (i3 : Int)), (10, true, .slice a0_0 p0.length c0_0), (11, true, .int .i64 (p0.length : Int)), (12, true, .bool true), (15, true, .int .i64 (i3 : Int)), (16, true, .int .i64 (IntKind.i64.wrap ((i3 : Int) + 1))), (17, true, .int .i64 s7.2.2.1), (18, true, .slice a0_0 p0.length c0_0), (19, true, .int .i64 (p0.length : Int)), (20, true, .bool s7.2.2.2), (37, true, .bool s7.1), (38, true, .bool (!s7.1))]) (fun a => (List.flatten [a3_1] : List Blk)) (fun a => a.2.2) ?_ (y3_0, 0, h7) ⟨rfl, HExt.refl _, w7, hF⟩ (Sub.cons (Sub.cons (Sub.cons (Sub.cons (Sub.cons (Sub.cons (Sub.cons (Sub.cons (Sub.cons (Sub.cons (Sub.cons (Sub.cons (Sub.cons (Sub.cons (Sub.cons (Sub.cons (Sub.cons (Sub.cons (Sub.cons (Sub.nil _) rfl) rfl) rfl) rfl) rfl) rfl) rfl) rfl) rfl) rfl) rfl) rfl) rfl) rfl) rfl) rfl) rfl) rfl) rfl) rfl rfl
              rintro ⟨r19, i19, h19⟩ ⟨hr19, e19, w19, hF⟩ ih19
              rcases r19 with _ | ⟨z19, r19⟩
              ·
                have hi19 := drop_nil hr19
                rw [F_ref05_Last_L2.eq_1] at hF
                refine go_seq ?_
                refine go_seq ?_
                refine go_regionq (by kernel_rfl) ?_
                refine gM rfl rfl ?_
                refine gM rfl rfl ?_
                refine gr rfl (r_len rfl (os1 (ot rfl) os0) (fun _ _ => ln_30)) ?_
                refine gr rfl (r_bin (ot rfl) (ot rfl) rfl) ?_
                refine go_cast (.bool false) (congrArg Value.bool (decide_eq_false hi19)) ?_
                refine gM rfl rfl ?_
                refine g_no rfl rfl rfl rfl rfl ?_
                refine g_no rfl rfl rfl rfl rfl ?_
                refine g_no rfl rfl rfl rfl rfl ?_
                refine g_no rfl rfl rfl rfl rfl ?_
                refine g_no rfl rfl rfl rfl rfl ?_
                refine g_no rfl rfl rfl rfl rfl ?_
                refine g_no rfl rfl rfl rfl rfl ?_
                refine g_no rfl rfl rfl rfl rfl ?_
                refine g_no rfl rfl rfl rfl rfl ?_
                refine g_no rfl rfl rfl rfl rfl ?_
                refine g_no rfl rfl rfl rfl rfl ?_
                refine gr rfl (r_pkF (ot rfl) (oc rfl)) ?_
                refine go_nil ?_
                refine g_cond (b := false) (ot rfl) (fun hc20 => ?_) (fun hc20 => ?_)
                · cases hc20
                refine go_exit rfl ?_
                obtain rfl := someI hF
                exact Goes.weak (J9 () _ e19 w19 trivial) (Sub.cons (Sub.cons (Sub.cons (Sub.cons (Sub.cons (Sub.cons (Sub.cons (Sub.cons (Sub.cons (Sub.cons (Sub.cons (Sub.cons (Sub.cons (Sub.cons (Sub.cons (Sub.cons (Sub.cons (Sub.cons (Sub.cons (Sub.cons (Sub.cons (Sub.cons (Sub.cons (Sub.cons (Sub.cons (Sub.nil _) rfl) rfl) rfl) rfl) rfl) rfl) rfl) rfl) rfl) rfl) rfl) rfl) rfl) rfl) rfl) rfl) rfl) rfl) rfl) rfl) rfl) rfl) rfl) rfl) rfl)
              ·
                obtain ⟨hi19, hx19, hr19⟩ := drop_cons hr19
                have hb19 := ((f3_0.ext e7.kn).ext e19.kn).1
                rw [F_ref05_Last_L2.eq_2] at hF
                refine go_seq ?_
                refine go_seq ?_
                refine go_regionq (by kernel_rfl) ?_
                refine gM rfl rfl ?_
                refine gM rfl rfl ?_
                refine gr rfl (r_len rfl (os1 (ot rfl) os0) (fun _ _ => ln_30)) ?_
                refine gr rfl (r_bin (ot rfl) (ot rfl) rfl) ?_
                refine go_cast (.bool true) (congrArg Value.bool (decide_eq_true (Int.ofNat_lt.mpr hi19))) ?_
                refine gM rfl rfl ?_
                refine g_do rfl rfl rfl ?_
                refine gM rfl rfl ?_
                refine g_do rfl rfl rfl ?_
                refine gM rfl rfl ?_
                refine g_do rfl rfl rfl ?_
                obtain ⟨bb21, rw21, row21, hp21, ht21, hR21, hw21, rc21, hz21, hi21, hd21, hb21, hl21⟩ := AccR.at_ ((f3_0.ext e7.kn).ext e19.kn) ((getI_nat _ _).trans hx19)
                have hF21_ := hF
                subst hp21; subst ht21
                replace hF := hF21_
                obtain rfl := rc21
                refine gr rfl (r_ia (ot rfl) (ot rfl) (ia_acc (k := 4) ut_30 sz_77 hz21 hi21)) ?_
                refine g_do rfl rfl rfl ?_
                refine gr rfl (r_fa (ot rfl) (fa_77_1 _ _)) ?_
                refine g_do rfl rfl rfl ?_
                refine gr rfl (r_load (ot rfl) (lm_s (mem_seg 0 rfl) ag_9 (acc_cell (j := 1) hd21 rfl))) ?_
                refine g_do rfl rfl rfl ?_
                refine gM rfl rfl ?_
                refine g_do rfl rfl rfl ?_
                refine gM rfl rfl ?_
                refine g_do rfl rfl rfl ?_
                obtain ⟨q22, row22, i22, cl22, rc22, sp22⟩ := ix (ik := .i64) (cap := c0_0) (E := EE) (((f0_0.ext e3.kn).ext e7.kn).ext e19.kn) ((getI_nat _ _).trans hx3) ut_30 sz_77 rfl
                obtain rfl := rc22
                refine gr rfl (r_ia (ot rfl) (ot rfl) i22) ?_
                refine g_do rfl rfl rfl ?_
                refine gr rfl (r_fa (ot rfl) (fs_77_1 sp22)) ?_
                refine g_do rfl rfl rfl ?_
                refine gr rfl (r_load (ot rfl) (v := .string z3.Key) (lo_e (fun hf kn => ld_field (r := [.int .i64 z3.Rev, .string z3.Key, .string z3.Val, .bool z3.Del]) ag_9 (kn.cellsAt cl22) rfl))) ?_
                refine g_do rfl rfl rfl ?_
                refine gr rfl (r_bin (ot rfl) (ot rfl) rfl) ?_
                refine gr rfl (r_pkT (ot rfl) (ot rfl)) ?_
                refine go_nil ?_
                refine g_cond (b := (lessB z19.Key z3.Key)) (ot rfl) (fun hc23 => ?_) (fun hc23 => ?_)
                ·
                  replace hF := ifT hc23 hF
                  refine go_skip ?_
                  refine go_block ?_
                  refine go_region ?_
                  refine gM rfl rfl ?_
                  refine gr rfl (r_bin (ot rfl) (oc rfl) rfl) ?_
                  refine gA rfl rfl ?_
                  refine go_nil ?_
                  refine go_endb ?_
                  refine go_re 7 (v2 := .int .i64 ((i19 + 1 : Nat) : Int)) rfl (wrap_succ hi19 hb19) ?_
                  exact Goes.weak (ih19 (r19, i19 + 1, h19) ⟨hr19, e19, w19, hF⟩ (Nat.lt_succ_self _)) (Sub.cons (Sub.cons (Sub.cons (Sub.cons (Sub.cons (Sub.cons (Sub.cons (Sub.cons (Sub.cons (Sub.cons (Sub.cons (Sub.cons (Sub.cons (Sub.cons (Sub.cons (Sub.cons (Sub.cons (Sub.cons (Sub.cons (Sub.nil _) rfl) rfl) rfl) rfl) rfl) rfl) rfl) rfl) rfl) rfl) rfl) rfl) rfl) rfl) rfl) rfl) rfl) rfl) rfl)
                ·
                  replace hF := ifF hc23 hF
                  refine go_exit rfl ?_
                  obtain rfl := someI hF
                  exact Goes.weak (J9 () _ e19 w19 trivial) (Sub.cons (Sub.cons (Sub.cons (Sub.cons (Sub.cons (Sub.cons (Sub.cons (Sub.cons (Sub.cons (Sub.cons (Sub.cons (Sub.cons (Sub.cons (Sub.cons (Sub.cons (Sub.cons (Sub.cons (Sub.cons (Sub.cons (Sub.cons (Sub.cons (Sub.cons (Sub.cons (Sub.cons (Sub.cons (Sub.nil _) rfl) rfl) rfl) rfl) rfl) rfl) rfl) rfl) rfl) rfl) rfl) rfl) rfl) rfl) rfl) rfl) rfl) rfl) rfl) rfl) rfl) rfl) rfl) rfl) rfl)
        ·
          refine go_block ?_
          refine go_loop (α := Nat × Bool × Int × Heap) (fun a => HExt h3 a.2.2.2 ∧ Wf a.2.2.2 ∧ F_ref05_Last_L3 p0 z3 a.1 a.2.1 a.2.2.1 = some s7) (fun a => a.1) (fun a => [(0, true, .slice a0_0 p0.length c0_0), (2, true, .slice none 0 0), (3, true, .slice a3_0 y3_0.length y3_0.length), (4, true, .int .i64 (i3 : Int)), (5, true, .bool a.2.1), (6, true, .int .i64 a.2.2.1), (9, true, .int .i64 (i3 : Int)), (10, true, .slice a0_0 p0.length c0_0), (11, true, .int .i64 (p0.length : Int)), (12, true, .bool true), (15, true, .int .i64 (i3 : Int)), (16, true, .int .i64 (IntKind.i64.wrap ((i3 : Int) + 1)))]) (fun a => (List.flatten [a3_1] : List Blk)) (fun a => a.2.2.2) ?_ (n, true, (IntKind.i64.wrap ((i3 : Int) + 1)), h3) ⟨HExt.refl _, w3, hF⟩ (Sub.cons (Sub.cons (Sub.cons (Sub.cons (Sub.cons (Sub.cons (Sub.cons (Sub.cons (Sub.cons (Sub.cons (Sub.cons (Sub.cons (Sub.nil _) rfl) rfl) rfl) rfl) rfl) rfl) rfl) rfl) rfl) rfl) rfl) rfl) rfl rfl
          rintro ⟨m24, y24_0, y24_1, h24⟩ ⟨e24, w24, hF⟩ ih24
          rcases m24 with _ | m24
          ·
            rw [F_ref05_Last_L3.eq_1] at hF; cases hF
          ·
            rw [F_ref05_Last_L3.eq_2] at hF
            refine go_seq ?_
            refine go_seq ?_
            refine go_region ?_
            refine gM rfl rfl ?_
            refine gM rfl rfl ?_
            refine gr rfl (r_len rfl (os1 (ot rfl) os0) (fun _ _ => ln_30)) ?_
            refine gr rfl (r_bin (ot rfl) (ot rfl) rfl) ?_
            refine go_nil ?_
            refine g_cond (b := (decide (y24_1 < (p0.length : Int)))) (ot rfl) (fun hc25 => ?_) (fun hc25 => ?_)
            ·
              replace hF := ifT hc25 hF
              refine go_skip ?_
              refine go_seq ?_
              refine go_block ?_
              refine go_regionq (by kernel_rfl) ?_
              refine gM rfl rfl ?_
              refine gM rfl rfl ?_
              replace hF := obind hF
              obtain ⟨s27, hF, hK27⟩ := hF
              refine go_joinr 12 (β := Unit) (fun s h' => True) (fun s => [(0, true, .slice a0_0 p0.length c0_0), (2, true, .slice none 0 0), (3, true, .slice a3_0 y3_0.length y3_0.length), (4, true, .int .i64 (i3 : Int)), (5, true, .bool y24_0), (6, true, .int .i64 y24_1), (9, true, .int .i64 (i3 : Int)), (10, true, .slice a0_0 p0.length c0_0), (11, true, .int .i64 (p0.length : Int)), (12, true, .bool true), (15, true, .int .i64 (i3 : Int)), (16, true, .int .i64 (IntKind.i64.wrap ((i3 : Int) + 1))), (17, true, .int .i64 y24_1), (18, true, .slice a0_0 p0.length c0_0), (19, true, .int .i64 (p0.length : Int)), (20, true, .bool (decide (y24_1 < (p0.length : Int)))), (23, true, .bool y24_0), (24, true, .bool s27.1), (36, true, .bool s27.2)]) (fun s => (List.flatten [a3_1] : List Blk)) ?_ (fun J27 => ?_)
              ·
                rintro _ h27 e27 w27 _
                replace hF := hK27
                refine gA rfl rfl ?_
                refine go_nil ?_
                refine go_endb ?_
                refine go_region ?_
                refine gM rfl rfl ?_
                refine gr rfl (r_bin (ot rfl) (oc rfl) rfl) ?_
                refine gA rfl rfl ?_
                refine go_nil ?_
                exact Goes.weak (ih24 (m24, s27.2, (IntKind.i64.wrap (y24_1 + 1)), h27) ⟨(e24.trans e27), w27, hF⟩ (Nat.lt_succ_self _)) (Sub.cons (Sub.cons (Sub.cons (Sub.cons (Sub.cons (Sub.cons (Sub.cons (Sub.cons (Sub.cons (Sub.cons (Sub.cons (Sub.cons (Sub.nil _) rfl) rfl) rfl) rfl) rfl) rfl) rfl) rfl) rfl) rfl) rfl) rfl)
              ·
                rcases Bool.eq_false_or_eq_true y24_0 with hb26 | hb26
                ·
                  replace hF := ifT hb26 hF
                  refine go_re 24 (v2 := .bool true) rfl (congrArg Value.bool hb26) ?_
                  refine g_do rfl rfl rfl ?_
                  refine gM rfl rfl ?_
                  refine g_do rfl rfl rfl ?_
                  refine gM rfl rfl ?_
                  refine g_do rfl rfl rfl ?_
                  replace hF := obind hF
                  obtain ⟨x28, hx28, hF⟩ := hF
                  obtain ⟨q28, row28, i28, cl28, rc28, sp28⟩ := ix (ik := .i64) (cap := c0_0) (E := EE) ((f0_0.ext e3.kn).ext e24.kn) hx28 ut_30 sz_77 rfl
                  obtain rfl := rc28
                  refine gr rfl (r_ia (ot rfl) (ot rfl) i28) ?_
                  refine g_do rfl rfl rfl ?_
                  refine gr rfl (r_fa (ot rfl) (fs_77_1 sp28)) ?_
                  refine g_do rfl rfl rfl ?_
                  refine gr rfl (r_load (ot rfl) (v := .string x28.Key) (lo_e (fun hf kn => ld_field (r := [.int .i64 x28.Rev, .string x28.Key, .string x28.Val, .bool x28.Del]) ag_9 (kn.cellsAt cl28) rfl))) ?_
                  refine g_do rfl rfl rfl ?_
                  refine gM rfl rfl ?_
                  refine g_do rfl rfl rfl ?_
                  refine gM rfl rfl ?_
                  refine g_do rfl rfl rfl ?_
                  obtain ⟨q29, row29, i29, cl29, rc29, sp29⟩ := ix (ik := .i64) (cap := c0_0) (E := EE) ((f0_0.ext e3.kn).ext e24.kn) ((getI_nat _ _).trans hx3) ut_30 sz_77 rfl
                  obtain rfl := rc29
                  refine gr rfl (r_ia (ot rfl) (ot rfl) i29) ?_
                  refine g_do rfl rfl rfl ?_
                  refine gr rfl (r_fa (ot rfl) (fs_77_1 sp29)) ?_
                  refine g_do rfl rfl rfl ?_
                  refine gr rfl (r_load (ot rfl) (v := .string z3.Key) (lo_e (fun hf kn => ld_field (r := [.int .i64 z3.Rev, .string z3.Key, .string z3.Val, .bool z3.Del]) ag_9 (kn.cellsAt cl29) rfl))) ?_
                  refine g_do rfl rfl rfl ?_
                  refine gr rfl (r_bin (ot rfl) (ot rfl) rfl) ?_
                  refine gr rfl (r_pkT (ot rfl) (ot rfl)) ?_
                  obtain rfl := someI hF
                  exact Goes.weak (J27 () _ (HExt.refl _) w24 trivial) (Sub.cons (Sub.cons (Sub.cons (Sub.cons (Sub.cons (Sub.cons (Sub.cons (Sub.cons (Sub.cons (Sub.cons (Sub.cons (Sub.cons (Sub.cons (Sub.cons (Sub.cons (Sub.cons (Sub.cons (Sub.cons (Sub.cons (Sub.nil _) rfl) rfl) rfl) rfl) rfl) rfl) rfl) rfl) rfl) rfl) rfl) rfl) rfl) rfl) rfl) rfl) rfl) rfl) rfl)
                ·
                  replace hF := ifF hb26 hF
                  refine go_re 24 (v2 := .bool false) rfl (congrArg Value.bool hb26) ?_
                  refine g_no rfl rfl rfl rfl rfl ?_
                  refine g_no rfl rfl rfl rfl rfl ?_
                  refine g_no rfl rfl rfl rfl rfl ?_
                  refine g_no rfl rfl rfl rfl rfl ?_
                  refine g_no rfl rfl rfl rfl rfl ?_
                  refine g_no rfl rfl rfl rfl rfl ?_
                  refine g_no rfl rfl rfl rfl rfl ?_
                  refine g_no rfl rfl rfl rfl rfl ?_
                  refine g_no rfl rfl rfl rfl rfl ?_
                  refine g_no rfl rfl rfl rfl rfl ?_
                  refine g_no rfl rfl rfl rfl rfl ?_
                  refine gr rfl (r_pkF (ot rfl) (oc rfl)) ?_
                  obtain rfl := someI hF
                  exact Goes.weak (J27 () _ (HExt.refl _) w24 trivial) (Sub.cons (Sub.cons (Sub.cons (Sub.cons (Sub.cons (Sub.cons (Sub.cons (Sub.cons (Sub.cons (Sub.cons (Sub.cons (Sub.cons (Sub.cons (Sub.cons (Sub.cons (Sub.cons (Sub.cons (Sub.cons (Sub.cons (Sub.nil _) rfl) rfl) rfl) rfl) rfl) rfl) rfl) rfl) rfl) rfl) rfl) rfl) rfl) rfl) rfl) rfl) rfl) rfl) rfl)
            ·
              replace hF := ifF hc25 hF
              refine go_exit rfl ?_
              obtain rfl := someI hF
              exact Goes.weak (J7 () _ e24 w24 trivial) (Sub.cons (Sub.cons (Sub.cons (Sub.cons (Sub.cons (Sub.cons (Sub.cons (Sub.cons (Sub.cons (Sub.cons (Sub.cons (Sub.cons (Sub.cons (Sub.cons (Sub.cons (Sub.cons (Sub.nil _) rfl) rfl) rfl) rfl) rfl) rfl) rfl) rfl) rfl) rfl) rfl) rfl) rfl) rfl) rfl) rfl)
theorem s_ref10_Deliver (n : Nat) {h : Heap} (hw : Wf h) (p0 : Timpostref10_Cursor) (p1 : THead) (p2 : (List (List TEvent))) {a2_0 : Option Addr} {c2_0 : Nat} (f2_0 : RL (Rep.sl R_TEvent 30) h a2_0 c2_0 p2) {r : Timpostref10_Cursor × Timpostref10_Notice} (hF : F_ref10_Deliver n p0 p1 p2 = some r) :
    Ev EE 11 [.agg #[.string p0.R.From, .string p0.R.To, .int .i64 p0.Next, .bool p0.Once, .bool p0.Dead], .agg #[.int .i64 p1.Seq, .int .i64 p1.Rev, .int .i64 p1.Hor], .slice a2_0 p2.length c2_0] h (fun v h1 => ∃ a0 c0, v = .tuple #[.agg #[.string r.1.R.From, .string r.1.R.To, .int .i64 r.1.Next, .bool r.1.Once, .bool r.1.Dead], .agg #[.int .i64 r.2.Err, .int .i64 r.2.Hor, .int .i64 r.2.Upto, .slice a0 r.2.Rows.length c0]] ∧ RL (Rep.sl R_TEvent 30) h1 a0 c0 r.2.Rows) := by
  unfold F_ref10_Deliver at hF
  refine ev_of hw rfl at_11 rfl rfl (go_seg0 ?_)
  refine go_seq ?_
  refine go_region ?_
  refine gs_box rfl (ot rfl) rfl ?_; intro b3_1
  refine gs_box rfl (ot rfl) rfl ?_; intro b4_2
  refine gs_alloc rfl zo_25 rfl ?_; intro b6_3
  refine gs_alloc rfl zo_39 rfl ?_; intro b7_4
  refine go_nil ?_
  refine go_seq ?_
  refine go_seq ?_
  refine go_region ?_
  refine gr rfl (r_fa (ot rfl) (fa_25_3 _ _)) ?_
  refine gr rfl (r_load (ot rfl) (lm_s (mem_seg 3 rfl) ag_4 rfl)) ?_
  refine go_nil ?_
  refine g_cond (b := p0.Dead) (ot rfl) (fun hc5 => ?_) (fun hc5 => ?_)
  ·
    replace hF := ifT hc5 hF
    refine go_seq ?_
    refine go_region ?_
    refine gr rfl (r_load (ot rfl) (lm_w (mem_seg 3 rfl) ag_25 sz_25 rfl)) ?_
    refine gr rfl (r_build (op1 (oc rfl) op0) rfl) ?_
    refine gs_store (ot rfl) (ot rfl) sz_25 rfl rfl rfl rfl rfl (.s (.z)) ?_
    refine gs_store (ot rfl) (ot rfl) sz_39 rfl rfl rfl rfl rfl .z ?_
    refine go_nil ?_
    obtain rfl := someI hF
    exact g_ret (rsc rfl (lm_w (mem_seg 1 rfl) ag_25 sz_25 rfl) (rsc rfl (lm_w (mem_seg 0 rfl) ag_39 sz_39 rfl) rs0)) (fun h1 hf hs => ⟨hs.hext, ⟨_, _, rfl, (RL.nil _ _ _)⟩⟩)
  ·
    replace hF := ifF hc5 hF
    refine go_skip ?_
    refine go_seq ?_
    refine go_seq ?_
    refine go_region ?_
    refine gr rfl (r_load (ot rfl) (lm_w (mem_seg 3 rfl) ag_25 sz_25 rfl)) ?_
    refine gr rfl (r_load (ot rfl) (lm_w (mem_seg 2 rfl) ag_27 sz_27 rfl)) ?_
    replace hF := obind hF
    obtain ⟨x6, hx6, hF⟩ := hF
    refine g_callp (v := .bool x6) EE_fr rfl of (os1 (ot rfl) (os1 (ot rfl) os0)) hb_39 (fun _ => rfl) (fun hf kn w => by exact s_ref10_old w p0 p1  hx6) ?_
    refine go_nil ?_
    refine g_cond (b := x6) (ot rfl) (fun hc7 => ?_) (fun hc7 => ?_)
    ·
      replace hF := ifT hc7 hF
      refine go_seq ?_
      refine go_region ?_
      refine gr rfl (r_fa (ot rfl) (fa_25_3 _ _)) ?_
      refine gs_store (ot rfl) (oc rfl) sz_4 rfl rfl rfl rfl rfl (.s (.s (.s (.z)))) ?_
      refine go_nil ?_
      refine go_seq ?_
      refine go_regions (L := [(0, []), (1, []), (2, []), (3, []), (4, [2]), (5, [])]) (by kernel_rfl) (by kernel_rfl) (fun _ => rfl) ?_
      refine go_sop rfl rfl ?_
      refine gr rfl (r_load (ot rfl) (lm_w (mem_seg 3 rfl) ag_25 sz_25 rfl)) ?_
      refine go_nil ?_
      refine go_sop rfl rfl ?_
      refine gr rfl (r_fa (ot rfl) (fa_27_2 _ _)) ?_
      refine go_nil ?_
      refine go_sop rfl rfl ?_
      refine gr rfl (r_load (ot rfl) (lm_s (mem_seg 2 rfl) ag_3 rfl)) ?_
      refine go_nil ?_
      refine go_sop rfl rfl ?_
      refine gr rfl (r_build (op1 (oc rfl) (op1 (ot rfl) op0)) rfl) ?_
      refine go_nil ?_
      refine go_sopc [(2, .int .i64 p1.Hor)] rfl rfl rfl (rc1 rfl (r_load (ot rfl) (lm_s (mem_seg 2 rfl) ag_3 rfl)) rc0) (vq1 (veq_int _ _ _) vq0) rfl ?_
      refine gs_store (ot rfl) (ot rfl) sz_25 rfl rfl rfl rfl rfl (.s (.z)) ?_
      refine go_nil ?_
      refine go_rck (rc1 rfl (r_load (ot rfl) (lm_s (mem_seg 2 rfl) ag_3 rfl)) rc0) ?_
      refine go_sop rfl rfl ?_
      refine gs_store (ot rfl) (ot rfl) sz_39 rfl rfl rfl rfl rfl .z ?_
      refine go_nil ?_
      refine go_snil ?_
      obtain rfl := someI hF
      exact g_ret (rsc rfl (lm_w (mem_seg 1 rfl) ag_25 sz_25 rfl) (rsc rfl (lm_w (mem_seg 0 rfl) ag_39 sz_39 rfl) rs0)) (fun h1 hf hs => ⟨hs.hext, ⟨_, _, rfl, (RL.nil _ _ _)⟩⟩)
    ·
      replace hF := ifF hc7 hF
      refine go_skip ?_
      refine go_seq ?_
      refine go_seq ?_
      refine go_region ?_
      refine gr rfl (r_load (ot rfl) (lm_w (mem_seg 3 rfl) ag_25 sz_25 rfl)) ?_
      refine gr rfl (r_load (ot rfl) (lm_w (mem_seg 2 rfl) ag_27 sz_27 rfl)) ?_
      replace hF := obind hF
      obtain ⟨x8, hx8, hF⟩ := hF
      refine g_callp (v := .bool x8) EE_fr rfl of (os1 (ot rfl) (os1 (ot rfl) os0)) hb_40 (fun _ => rfl) (fun hf kn w => by exact s_ref10_ahead w p0 p1  hx8) ?_
      refine go_nil ?_
      refine g_cond (b := x8) (ot rfl) (fun hc9 => ?_) (fun hc9 => ?_)
      ·
        replace hF := ifT hc9 hF
        refine go_seq ?_
        refine go_region ?_
        refine gr rfl (r_load (ot rfl) (lm_w (mem_seg 3 rfl) ag_25 sz_25 rfl)) ?_
        refine gr rfl (r_build (op1 (oc rfl) op0) rfl) ?_
        refine gs_store (ot rfl) (ot rfl) sz_25 rfl rfl rfl rfl rfl (.s (.z)) ?_
        refine gs_store (ot rfl) (ot rfl) sz_39 rfl rfl rfl rfl rfl .z ?_
        refine go_nil ?_
        obtain rfl := someI hF
        exact g_ret (rsc rfl (lm_w (mem_seg 1 rfl) ag_25 sz_25 rfl) (rsc rfl (lm_w (mem_seg 0 rfl) ag_39 sz_39 rfl) rs0)) (fun h1 hf hs => ⟨hs.hext, ⟨_, _, rfl, (RL.nil _ _ _)⟩⟩)
      ·
        replace hF := ifF hc9 hF
        refine go_skip ?_
        refine go_seq ?_
        refine go_region ?_
        refine gr rfl (r_fa (ot rfl) (fa_25_1 _ _)) ?_
        refine gr rfl (r_load (ot rfl) (lm_s (mem_seg 3 rfl) ag_3 rfl)) ?_
        refine gM rfl rfl ?_
        refine gr rfl (r_len rfl (os1 (ot rfl) os0) (fun _ _ => ln_28)) ?_
        refine gr rfl (r_bin (ot rfl) (ot rfl) rfl) ?_
        refine gr rfl (r_fa (ot rfl) (fa_25_1 _ _)) ?_
        refine gs_store (ot rfl) (ot rfl) sz_3 rfl rfl rfl rfl rfl (.s (.s (.s (.z)))) ?_
        refine go_nil ?_
        refine go_seq ?_
        refine go_region ?_
        refine gr rfl (r_fa (ot rfl) (fa_25_1 _ _)) ?_
        refine gr rfl (r_load (ot rfl) (lm_s (mem_seg 3 rfl) ag_3 rfl)) ?_
        refine gr rfl (r_bin (ot rfl) (oc rfl) rfl) ?_
        refine gr rfl (r_build (op1 (ot rfl) op0) rfl) ?_
        refine gs_alloc rfl zo_39 rfl ?_; intro b8_10
        refine gs_store (ot rfl) (ot rfl) sz_39 rfl rfl rfl rfl rfl .z ?_
        refine go_nil ?_
        refine go_seq ?_
        refine go_region ?_
        refine gAc rfl rfl ?_
        refine go_nil ?_
        refine go_seq ?_
        refine go_seq ?_
        refine go_region ?_
        refine gAc rfl rfl ?_
        refine go_nil ?_
        replace hF := obind hF
        obtain ⟨s11, hF, hK11⟩ := hF
        refine go_joinc (β := Option Addr × List Blk × Option Addr × List Blk) (fun s h' => AccR R_TEvent 77 h' s.2.1 (.slice s.1 s11.1.length s11.1.length) s11.1 ∧ AccR (Rep.sl R_TEvent 30) 30 h' s.2.2.2 (.slice s.2.2.1 s11.2.length s11.2.length) s11.2) (fun s => [(3, true, .pointer (some ⟨b3_1, 0, none⟩)), (6, true, .pointer (some ⟨b6_3, 0, none⟩)), (7, true, .pointer (some ⟨b7_4, 0, none⟩)), (8, true, .pointer (some ⟨b8_10, 0, none⟩)), (9, true, .slice s.1 s11.1.length s11.1.length)]) (fun s => (List.flatten [s.2.2.2, s.2.1, [⟨b8_10, .cells [.int .i64 0, .int .i64 0, .int .i64 (IntKind.i64.wrap ((IntKind.i64.wrap (p0.Next + (p2.length : Int))) - 1)), .slice s.2.2.1 s11.2.length s11.2.length] 39⟩], [⟨b7_4, .cells [.int .i64 0, .int .i64 0, .int .i64 0, .slice none 0 0] 39⟩], [⟨b6_3, .cells [.string ByteArray.empty, .string ByteArray.empty, .int .i64 0, .bool false, .bool false] 25⟩], [⟨b4_2, .cells [.int .i64 p1.Seq, .int .i64 p1.Rev, .int .i64 p1.Hor] 27⟩], [⟨b3_1, .cells [.string p0.R.From, .string p0.R.To, .int .i64 (IntKind.i64.wrap (p0.Next + (p2.length : Int))), .bool p0.Once, .bool p0.Dead] 25⟩]] : List Blk)) ?_ (fun J11 => ?_)
        ·
          rintro ⟨a11_0, a11_1, a11_2, a11_3⟩ h11 e11 w11 ⟨f11_0, f11_1⟩
          replace hF := hK11
          refine go_seq ?_
          refine go_seq ?_
          refine go_region ?_
          refine gr rfl (r_fa (ot rfl) (fa_25_2 _ _)) ?_
          refine gr rfl (r_load (ot rfl) (lm_s (mem_seg 6 rfl) ag_4 rfl)) ?_
          refine gM rfl rfl ?_
          refine grt rfl rfl rfl rfl (r_move (ot rfl)) ?_
          refine grt rfl rfl rfl rfl (r_len rfl (os1 (og rfl id) os0) (fun _ _ => ln_30)) ?_
          refine grt rfl rfl rfl rfl (r_bin (og rfl id) (oc rfl) rfl) ?_
          refine gr rfl (r_pickb (ot rfl) (og rfl id) (oc rfl)) ?_
          refine go_nil ?_
          refine gs_accpub (.s (.z)) f11_0 (fun h13 e13 w13 f13_ => ?_) rfl
          refine gs_accpub .z (f11_1.ext e13.kn) (fun h14 e14 w14 f14_ => ?_) rfl
          replace hF := obind hF
          obtain ⟨s15, hF, hK15⟩ := hF
          refine go_joinc (β := Option Addr × Nat) (fun s h' => RL (Rep.sl R_TEvent 30) h' s.1 s.2 s15) (fun s => [(3, true, .pointer (some ⟨b3_1, 0, none⟩)), (6, true, .pointer (some ⟨b6_3, 0, none⟩)), (7, true, .pointer (some ⟨b7_4, 0, none⟩)), (8, true, .pointer (some ⟨b8_10, 0, none⟩))]) (fun s => (List.flatten [[⟨b8_10, .cells [.int .i64 0, .int .i64 0, .int .i64 (IntKind.i64.wrap ((IntKind.i64.wrap (p0.Next + (p2.length : Int))) - 1)), .slice s.1 s15.length s.2] 39⟩], [⟨b7_4, .cells [.int .i64 0, .int .i64 0, .int .i64 0, .slice none 0 0] 39⟩], [⟨b6_3, .cells [.string ByteArray.empty, .string ByteArray.empty, .int .i64 0, .bool false, .bool false] 25⟩], [⟨b4_2, .cells [.int .i64 p1.Seq, .int .i64 p1.Rev, .int .i64 p1.Hor] 27⟩], [⟨b3_1, .cells [.string p0.R.From, .string p0.R.To, .int .i64 (IntKind.i64.wrap (p0.Next + (p2.length : Int))), .bool p0.Once, .bool p0.Dead] 25⟩]] : List Blk)) ?_ (fun J15 => ?_)
          ·
            rintro ⟨a15_0, a15_1⟩ h15 e15 w15 f15_0
            replace hF := hK15
            refine go_seq ?_
            refine go_regions (L := [(0, []), (1, []), (2, [1]), (3, [])]) (by kernel_rfl) (by kernel_rfl) (fun _ => rfl) ?_
            refine go_sop rfl rfl ?_
            refine gr rfl (r_load (ot rfl) (lm_w (mem_seg 4 rfl) ag_25 sz_25 rfl)) ?_
            refine go_nil ?_
            refine go_sop rfl rfl ?_
            refine gr rfl (r_load (ot rfl) (lm_w (mem_seg 0 rfl) ag_39 sz_39 rfl)) ?_
            refine go_nil ?_
            refine go_sopc [(1, .agg #[.int .i64 0, .int .i64 0, .int .i64 (IntKind.i64.wrap ((IntKind.i64.wrap (p0.Next + (p2.length : Int))) - 1)), .slice a15_0 s15.length a15_1])] rfl rfl rfl (rc1 rfl (r_load (ot rfl) (lm_w (mem_seg 0 rfl) ag_39 sz_39 rfl)) rc0) (vq1 (veq_agg _ _ (va1 (veq_int _ _ _) (va1 (veq_int _ _ _) (va1 (veq_int _ _ _) (va1 (veq_sl _ _ _ _) (va0 _)))))) vq0) rfl ?_
            refine gs_store (ot rfl) (ot rfl) sz_25 rfl rfl rfl rfl rfl (.s (.s (.z))) ?_
            refine go_nil ?_
            refine go_rck (rc1 rfl (r_load (ot rfl) (lm_w (mem_seg 0 rfl) ag_39 sz_39 rfl)) rc0) ?_
            refine go_sop rfl rfl ?_
            refine gs_store (ot rfl) (ot rfl) sz_39 rfl rfl rfl rfl rfl (.s (.z)) ?_
            refine go_nil ?_
            refine go_snil ?_
            obtain rfl := someI hF
            exact g_ret (rsc rfl (lm_w (mem_seg 2 rfl) ag_25 sz_25 rfl) (rsc rfl (lm_w (mem_seg 1 rfl) ag_39 sz_39 rfl) rs0)) (fun h1 hf hs => ⟨(e11.trans (e13.trans (e14.trans (e15.trans hs.hext)))), ⟨_, _, rfl, (f15_0.ext hs.hext.kn)⟩⟩)
          ·
            refine g_cond (b := (bif p0.Once then (decide ((s11.1.length : Int) > 0)) else false)) (ot rfl) (fun hc12 => ?_) (fun hc12 => ?_)
            ·
              replace hF := ifT hc12 hF
              refine go_region ?_
              refine gM rfl rfl ?_
              replace hF := obind hF
              obtain ⟨x16, hx16, hF⟩ := hF
              refine g_call EE_fr (fun _ h => by cases h; rfl) of (os1 (ot rfl) os0) hb_26 (fun hf kn w => by exact s_ref05_Last n w s11.1 ((f13_.ext e14.kn).ext kn) hx16) ?_
              rintro v16 h16 e16 w16 ⟨a16_0, c16_0, rfl, f16_0⟩
              refine gs_bslice (cs := [.slice a16_0 x16.length c16_0]) rfl (op1 (ot rfl) op0) ut_28 sz_30 zo_30 rfl rfl ?_; intro b78_17
              refine gr rfl (r_fa (ot rfl) (fa_39_3 _ _)) ?_
              refine gs_store (ot rfl) (ot rfl) sz_28 rfl rfl rfl rfl rfl (.s (.z)) ?_
              refine go_nil ?_
              refine gs_pub .z (fun h18 e18 w18 hb18 => ?_)
              have f18_ : RL (Rep.sl R_TEvent 30) h18 (some ⟨b78_17, 0, none⟩) 1 ([x16] : List (List TEvent)) := RL.of_blk (R := (Rep.sl R_TEvent 30)) (rows := [[.slice a16_0 x16.length c16_0]]) (.inl rfl) hb18 rfl (Rws.cons (x := x16) (sl_C (f16_0.ext e18.kn)) Rws.nil) (by simp) (by simp) rfl
              obtain rfl := someI hF
              exact Goes.weak (J15 ((some ⟨b78_17, 0, none⟩), 1) _ (e16.trans e18) w18 f18_) (Sub.cons (Sub.cons (Sub.cons (Sub.cons (Sub.nil _) rfl) rfl) rfl) rfl)
            ·
              replace hF := ifF hc12 hF
              refine go_skip ?_
              obtain rfl := someI hF
              exact Goes.weak (J15 (a11_2, s11.2.length) _ (HExt.refl _) w14 f14_) (Sub.cons (Sub.cons (Sub.cons (Sub.cons (Sub.nil _) rfl) rfl) rfl) rfl)
        ·
          refine go_block ?_
          refine go_loop (α := (List (List TEvent)) × Nat × (List TEvent) × (List (List TEvent)) × Option Addr × List Blk × Option Addr × List Blk × Heap) (fun a => a.1 = List.drop a.2.1 p2 ∧ HExt h a.2.2.2.2.2.2.2.2 ∧ Wf a.2.2.2.2.2.2.2.2 ∧ F_ref10_Deliver_L1 p0 a.1 a.2.1 a.2.2.1 a.2.2.2.1 = some s11 ∧ AccR R_TEvent 77 a.2.2.2.2.2.2.2.2 a.2.2.2.2.2.1 (.slice a.2.2.2.2.1 a.2.2.1.length a.2.2.1.length) a.2.2.1 ∧ AccR (Rep.sl R_TEvent 30) 30 a.2.2.2.2.2.2.2.2 a.2.2.2.2.2.2.2.1 (.slice a.2.2.2.2.2.2.1 a.2.2.2.1.length a.2.2.2.1.length) a.2.2.2.1) (fun a => a.1.length) (fun a => [(2, true, .slice a2_0 p2.length c2_0), (3, true, .pointer (some ⟨b3_1, 0, none⟩)), (6, true, .pointer (some ⟨b6_3, 0, none⟩)), (7, true, .pointer (some ⟨b7_4, 0, none⟩)), (8, true, .pointer (some ⟨b8_10, 0, none⟩)), (9, true, .slice a.2.2.2.2.1 a.2.2.1.length a.2.2.1.length), (10, true, .int .i64 (a.2.1 : Int))]) (fun a => (List.flatten [a.2.2.2.2.2.2.2.1, a.2.2.2.2.2.1, [⟨b8_10, .cells [.int .i64 0, .int .i64 0, .int .i64 (IntKind.i64.wrap ((IntKind.i64.wrap (p0.Next + (p2.length : Int))) - 1)), .slice a.2.2.2.2.2.2.1 a.2.2.2.1.length a.2.2.2.1.length] 39⟩], [⟨b7_4, .cells [.int .i64 0, .int .i64 0, .int .i64 0, .slice none 0 0] 39⟩], [⟨b6_3, .cells [.string ByteArray.empty, .string ByteArray.empty, .int .i64 0, .bool false, .bool false] 25⟩], [⟨b4_2, .cells [.int .i64 p1.Seq, .int .i64 p1.Rev, .int .i64 p1.Hor] 27⟩], [⟨b3_1, .cells [.string p0.R.From, .string p0.R.To, .int .i64 (IntKind.i64.wrap (p0.Next + (p2.length : Int))), .bool p0.Once, .bool p0.Dead] 25⟩]] : List Blk)) (fun a => a.2.2.2.2.2.2.2.2) ?_ (p2, 0, ([] : List TEvent), ([] : List (List TEvent)), none, [], none, [], h) ⟨rfl, HExt.refl _, hw, hF, (AccR.nil _ _ _), (AccR.nil _ _ _)⟩ (Sub.cons (Sub.cons (Sub.cons (Sub.cons (Sub.cons (Sub.cons (Sub.cons (Sub.nil _) rfl) rfl) rfl) rfl) rfl) rfl) rfl) rfl rfl
          rintro ⟨r19, i19, y19_0, y19_1, a19_0, a19_1, a19_2, a19_3, h19⟩ ⟨hr19, e19, w19, hF, f19_0, f19_1⟩ ih19
          rcases r19 with _ | ⟨z19, r19⟩
          ·
            have hi19 := drop_nil hr19
            rw [F_ref10_Deliver_L1.eq_1] at hF
            refine go_seq ?_
            refine go_seq ?_
            refine go_region ?_
            refine gM rfl rfl ?_
            refine gM rfl rfl ?_
            refine gr rfl (r_len rfl (os1 (ot rfl) os0) (fun _ _ => ln_28)) ?_
            refine gr rfl (r_bin (ot rfl) (ot rfl) rfl) ?_
            refine go_cast (.bool false) (congrArg Value.bool (decide_eq_false hi19)) ?_
            refine go_nil ?_
            refine g_cond (b := false) (ot rfl) (fun hc20 => ?_) (fun hc20 => ?_)
            · cases hc20
            refine go_exit rfl ?_
            obtain rfl := someI hF
            exact Goes.weak (J11 (a19_0, a19_1, a19_2, a19_3) _ e19 w19 ⟨f19_0, f19_1⟩) (Sub.cons (Sub.cons (Sub.cons (Sub.cons (Sub.cons (Sub.nil _) rfl) rfl) rfl) rfl) rfl)
          ·
            obtain ⟨hi19, hx19, hr19⟩ := drop_cons hr19
            have hb19 := (f2_0.ext e19.kn).1
            rw [F_ref10_Deliver_L1.eq_2] at hF
            refine go_seq ?_
            refine go_seq ?_
            refine go_region ?_
            refine gM rfl rfl ?_
            refine gM rfl rfl ?_
            refine gr rfl (r_len rfl (os1 (ot rfl) os0) (fun _ _ => ln_28)) ?_
            refine gr rfl (r_bin (ot rfl) (ot rfl) rfl) ?_
            refine go_cast (.bool true) (congrArg Value.bool (decide_eq_true (Int.ofNat_lt.mpr hi19))) ?_
            refine go_nil ?_
            refine g_cond (b := true) (ot rfl) (fun hc21 => ?_) (fun hc21 => ?_)
            rotate_left
            · cases hc21
            refine go_skip ?_
            refine go_seq ?_
            refine go_block ?_
            refine go_seq ?_
            refine go_regions (L := [(0, []), (1, []), (2, []), (3, []), (4, []), (5, []), (6, []), (7, [])]) (by kernel_rfl) (by kernel_rfl) (fun _ => rfl) ?_
            refine go_sop rfl rfl ?_
            refine gM rfl rfl ?_
            refine go_nil ?_
            refine go_sop rfl rfl ?_
            refine gM rfl rfl ?_
            refine go_nil ?_
            refine go_sop rfl rfl ?_
            obtain ⟨q22, row22, i22, cl22, rc22, sp22⟩ := ix (ik := .i64) (cap := c2_0) (E := EE) (f2_0.ext e19.kn) ((getI_nat _ _).trans hx19) ut_28 sz_30 rfl
            obtain ⟨a22_0, c22_0, rfl, f22_0⟩ := rc22
            refine gr rfl (r_ia (ot rfl) (ot rfl) i22) ?_
            refine go_nil ?_
            refine go_sop rfl rfl ?_
            refine gr rfl (r_load (ot rfl) (v := .slice a22_0 z19.length c22_0) (lo_e (fun hf kn => ld_one ag_30 (kn.cellsAt cl22)))) ?_
            refine go_nil ?_
            refine go_sop rfl rfl ?_
            refine gr rfl (r_fa (ot rfl) (fa_25_0 _ _)) ?_
            refine go_nil ?_
            refine go_sop rfl rfl ?_
            refine gr rfl (r_load (ot rfl) (lm_a (vs := [_, _]) (mem_seg 6 rfl) ag_23 sz_23 rfl rfl)) ?_
            refine go_nil ?_
            refine go_sop rfl rfl ?_
            replace hF := obind hF
            obtain ⟨x23, hx23, hF⟩ := hF
            refine g_call EE_fr (fun _ h => by cases h; rfl) of (os1 (ot rfl) (os1 (ot rfl) os0)) hb_23 (fun hf kn w => by exact s_ref05_Filter w z19 p0.R (f22_0.ext kn) hx23) ?_
            rintro v23 h23 e23 w23 ⟨a23_0, c23_0, rfl, f23_0⟩
            refine go_nil ?_
            refine go_sop rfl rfl ?_
            refine gA rfl rfl ?_
            refine go_nil ?_
            refine go_snil ?_
            refine go_seq ?_
            refine go_region ?_
            refine gM rfl rfl ?_
            refine gM rfl rfl ?_
            replace hF := obind hF
            obtain ⟨x24, hx24, hF⟩ := hF
            obtain ⟨hr24, hz24_⟩ := appL_some hx24; subst x24
            refine gs_front (.s (.z)) ?_
            obtain ⟨rw24, hw24, hq24⟩ := RL.first f23_0 (by decide)
            refine gs_app (rows2 := rw24) (R := R_TEvent) rfl (os1 (ot rfl) (os1 (ot rfl) os0)) rfl ut_30 sz_77 rfl (by decide) by_77 zo_77 rfl zs_30_30 rfl rfl (first_e hq24 (fun h' kn => kn.firstV hq24)) hw24 (f19_0.ext e23.kn) hr24 (fun p24_ tl24 f24_ => ?_)
            refine gA rfl rfl ?_
            refine go_nil ?_
            refine go_seq ?_
            refine go_region ?_
            refine gM rfl rfl ?_
            refine gr rfl (r_len rfl (os1 (ot rfl) os0) (fun _ _ => ln_30)) ?_
            refine gr rfl (r_bin (ot rfl) (oc rfl) rfl) ?_
            refine gM rfl rfl ?_
            refine grt rfl rfl rfl rfl (r_fa (ot rfl) (fa_25_2 _ _)) ?_
            refine grt rfl rfl rfl rfl (r_load (og rfl id) (lm_s (mem_seg 6 rfl) ag_4 rfl)) ?_
            refine grt rfl rfl rfl rfl (r_un (og rfl id) rfl) ?_
            refine gr rfl (r_pickb (ot rfl) (og rfl id) (oc rfl)) ?_
            refine go_nil ?_
            replace hF := obind hF
            obtain ⟨s26, hF, hK26⟩ := hF
            refine go_joinc (β := Option Addr × List Blk) (fun s h' => AccR (Rep.sl R_TEvent 30) 30 h' s.2 (.slice s.1 s26.length s26.length) s26) (fun s => [(2, true, .slice a2_0 p2.length c2_0), (3, true, .pointer (some ⟨b3_1, 0, none⟩)), (6, true, .pointer (some ⟨b6_3, 0, none⟩)), (7, true, .pointer (some ⟨b7_4, 0, none⟩)), (8, true, .pointer (some ⟨b8_10, 0, none⟩)), (9, true, .slice p24_ (y19_0 ++ x23).length (y19_0 ++ x23).length), (10, true, .int .i64 (i19 : Int)), (11, true, .slice a23_0 x23.length c23_0), (39, true, .int .i64 (i19 : Int)), (40, true, .slice a2_0 p2.length c2_0), (41, true, .int .i64 (p2.length : Int)), (42, true, .bool true), (45, true, .slice a2_0 p2.length c2_0), (46, true, .int .i64 (i19 : Int)), (47, true, .pointer (some q22)), (48, true, .slice a22_0 z19.length c22_0), (49, true, .pointer (some ⟨b3_1, 0, none⟩)), (50, true, .agg #[.string p0.R.From, .string p0.R.To]), (51, true, .slice a23_0 x23.length c23_0), (53, true, .slice a23_0 x23.length c23_0), (54, true, .slice p24_ (y19_0 ++ x23).length (y19_0 ++ x23).length), (55, true, .slice a23_0 x23.length c23_0), (56, true, .int .i64 (x23.length : Int)), (57, true, .bool (decide ((x23.length : Int) > 0))), (58, true, .bool (decide ((x23.length : Int) > 0))), (62, true, .bool (bif (decide ((x23.length : Int) > 0)) then (!p0.Once) else false))]) (fun s => (List.flatten [tl24, s.2, [⟨b8_10, .cells [.int .i64 0, .int .i64 0, .int .i64 (IntKind.i64.wrap ((IntKind.i64.wrap (p0.Next + (p2.length : Int))) - 1)), .slice s.1 s26.length s26.length] 39⟩], [⟨b7_4, .cells [.int .i64 0, .int .i64 0, .int .i64 0, .slice none 0 0] 39⟩], [⟨b6_3, .cells [.string ByteArray.empty, .string ByteArray.empty, .int .i64 0, .bool false, .bool false] 25⟩], [⟨b4_2, .cells [.int .i64 p1.Seq, .int .i64 p1.Rev, .int .i64 p1.Hor] 27⟩], [⟨b3_1, .cells [.string p0.R.From, .string p0.R.To, .int .i64 (IntKind.i64.wrap (p0.Next + (p2.length : Int))), .bool p0.Once, .bool p0.Dead] 25⟩]] : List Blk)) ?_ (fun J26 => ?_)
            ·
              rintro ⟨a26_0, a26_1⟩ h26 e26 w26 f26_0
              replace hF := hK26
              refine go_endb ?_
              refine go_region ?_
              refine gM rfl rfl ?_
              refine gr rfl (r_bin (ot rfl) (oc rfl) rfl) ?_
              refine gA rfl rfl ?_
              refine go_nil ?_
              refine gs_perm (perm_of (d := []) _ [1, 0, 2, 3, 4, 5, 6] rfl) ?_
              refine go_re 10 (v2 := .int .i64 ((i19 + 1 : Nat) : Int)) rfl (wrap_succ hi19 hb19) ?_
              exact Goes.weak (ih19 (r19, i19 + 1, (y19_0 ++ x23), s26, p24_, tl24, a26_0, a26_1, h26) ⟨hr19, (e19.trans (e23.trans e26)), w26, hF, (f24_.ext e26.kn), f26_0⟩ (Nat.lt_succ_self _)) (Sub.cons (Sub.cons (Sub.cons (Sub.cons (Sub.cons (Sub.cons (Sub.cons (Sub.nil _) rfl) rfl) rfl) rfl) rfl) rfl) rfl)
            ·
              refine g_cond (b := (bif (decide ((x23.length : Int) > 0)) then (!p0.Once) else false)) (ot rfl) (fun hc25 => ?_) (fun hc25 => ?_)
              ·
                replace hF := ifT hc25 hF
                refine go_region ?_
                refine gr rfl (r_fa (ot rfl) (fa_39_3 _ _)) ?_
                refine gr rfl (r_load (ot rfl) (lm_s (mem_seg 2 rfl) ag_28 rfl)) ?_
                refine gM rfl rfl ?_
                refine gs_bslice (cs := [.slice a23_0 x23.length c23_0]) rfl (op1 (ot rfl) op0) ut_28 sz_30 zo_30 rfl rfl ?_; intro b66_27
                replace hF := obind hF
                obtain ⟨x28, hx28, hF⟩ := hF
                obtain ⟨hr28, hz28_⟩ := appL_some hx28; subst x28
                refine gs_front (.s (.s (.z))) ?_
                refine gs_app (rows2 := [[.slice a23_0 x23.length c23_0]]) (R := (Rep.sl R_TEvent 30)) rfl (os1 (ot rfl) (os1 (ot rfl) os0)) rfl ut_28 sz_30 rfl (by decide) by_30 zo_30 rfl zs_28_28 rfl rfl (first_m (mem_seg 1 rfl) rfl (by decide)) (Rws.one (x := x23) (sl_C f23_0)) (f19_1.ext e23.kn) hr28 (fun p28_ tl28 f28_ => ?_)
                refine gr rfl (r_fa (ot rfl) (fa_39_3 _ _)) ?_
                refine gs_store (ot rfl) (ot rfl) sz_28 rfl rfl rfl rfl rfl (.s (.s (.s (.z)))) ?_
                refine go_nil ?_
                obtain rfl := someI hF
                refine gs_sub (.cons_cons _ (.cons _ (.cons_cons _ (.cons_cons _ (.cons_cons _ (.cons_cons _ (.cons_cons _ (.cons_cons _ (.refl _))))))))) ?_
                refine gs_perm (perm_of (d := []) _ [1, 0, 2, 3, 4, 5, 6] rfl) ?_
                exact Goes.weak (J26 (p28_, tl28) _ (HExt.refl _) w23 f28_) (Sub.cons (Sub.cons (Sub.cons (Sub.cons (Sub.cons (Sub.cons (Sub.cons (Sub.cons (Sub.cons (Sub.cons (Sub.cons (Sub.cons (Sub.cons (Sub.cons (Sub.cons (Sub.cons (Sub.cons (Sub.cons (Sub.cons (Sub.cons (Sub.cons (Sub.cons (Sub.cons (Sub.cons (Sub.cons (Sub.cons (Sub.nil _) rfl) rfl) rfl) rfl) rfl) rfl) rfl) rfl) rfl) rfl) rfl) rfl) rfl) rfl) rfl) rfl) rfl) rfl) rfl) rfl) rfl) rfl) rfl) rfl) rfl) rfl)
              ·
                replace hF := ifF hc25 hF
                refine go_skip ?_
                obtain rfl := someI hF
                exact Goes.weak (J26 (a19_2, a19_3) _ (HExt.refl _) w23 (f19_1.ext e23.kn)) (Sub.cons (Sub.cons (Sub.cons (Sub.cons (Sub.cons (Sub.cons (Sub.cons (Sub.cons (Sub.cons (Sub.cons (Sub.cons (Sub.cons (Sub.cons (Sub.cons (Sub.cons (Sub.cons (Sub.cons (Sub.cons (Sub.cons (Sub.cons (Sub.cons (Sub.cons (Sub.cons (Sub.cons (Sub.cons (Sub.cons (Sub.nil _) rfl) rfl) rfl) rfl) rfl) rfl) rfl) rfl) rfl) rfl) rfl) rfl) rfl) rfl) rfl) rfl) rfl) rfl) rfl) rfl) rfl) rfl) rfl) rfl) rfl) rfl)
theorem s_ref10_Window {h : Heap} (hw : Wf h) (p0 : Timpostref10_Cursor) (p1 : THead) (p2 : Int)   {r : Int} (hF : F_ref10_Window p0 p1 p2 = some r) :
    Ev EE 16 [.agg #[.string p0.R.From, .string p0.R.To, .int .i64 p0.Next, .bool p0.Once, .bool p0.Dead], .agg #[.int .i64 p1.Seq, .int .i64 p1.Rev, .int .i64 p1.Hor], .int .i64 p2] h (fun v _ => v = .int .i64 r) := by
  unfold F_ref10_Window at hF
  refine ev_of hw rfl at_16 rfl rfl (go_seg0 ?_)
  refine go_seq ?_
  refine go_region ?_
  refine gs_box rfl (ot rfl) rfl ?_; intro b3_1
  refine gs_box rfl (ot rfl) rfl ?_; intro b4_2
  refine gAc rfl rfl ?_
  refine go_nil ?_
  refine go_seq ?_
  refine go_seq ?_
  refine go_region ?_
  refine gr rfl (r_fa (ot rfl) (fa_25_3 _ _)) ?_
  refine gr rfl (r_load (ot rfl) (lm_s (mem_seg 1 rfl) ag_4 rfl)) ?_
  refine gM rfl rfl ?_
  replace hF := obind hF
  obtain ⟨s4, hF, hK4⟩ := hF
  refine go_joinr 4 (β := Unit) (fun s h' => True) (fun s => [(2, true, .int .i64 p2), (3, true, .pointer (some ⟨b3_1, 0, none⟩)), (4, true, .pointer (some ⟨b4_2, 0, none⟩)), (6, true, .int .i64 0), (13, true, .bool s4)]) (fun s => (List.flatten [[⟨b4_2, .cells [.int .i64 p1.Seq, .int .i64 p1.Rev, .int .i64 p1.Hor] 27⟩], [⟨b3_1, .cells [.string p0.R.From, .string p0.R.To, .int .i64 p0.Next, .bool p0.Once, .bool p0.Dead] 25⟩]] : List Blk)) ?_ (fun J4 => ?_)
  ·
    rintro _ h4 e4 w4 _
    replace hF := hK4
    refine gM rfl rfl ?_
    replace hF := obind hF
    obtain ⟨s6, hF, hK6⟩ := hF
    refine go_joinr 4 (β := Unit) (fun s h' => True) (fun s => [(2, true, .int .i64 p2), (3, true, .pointer (some ⟨b3_1, 0, none⟩)), (4, true, .pointer (some ⟨b4_2, 0, none⟩)), (6, true, .int .i64 0), (18, true, .bool s6)]) (fun s => (List.flatten [[⟨b4_2, .cells [.int .i64 p1.Seq, .int .i64 p1.Rev, .int .i64 p1.Hor] 27⟩], [⟨b3_1, .cells [.string p0.R.From, .string p0.R.To, .int .i64 p0.Next, .bool p0.Once, .bool p0.Dead] 25⟩]] : List Blk)) ?_ (fun J6 => ?_)
    ·
      rintro _ h6 e6 w6 _
      replace hF := hK6
      refine go_nil ?_
      refine g_cond (b := s6) (ot rfl) (fun hc7 => ?_) (fun hc7 => ?_)
      ·
        replace hF := ifT hc7 hF
        refine go_seq ?_
        refine go_region ?_
        refine gAc rfl rfl ?_
        refine go_nil ?_
        obtain rfl := someI hF
        exact g_ret (rst rfl rs0) (fun h1 hf hs => ⟨(e4.trans (e6.trans hs.hext)), rfl⟩)
      ·
        replace hF := ifF hc7 hF
        refine go_skip ?_
        refine go_seq ?_
        refine go_region ?_
        refine gr rfl (r_fa (ot rfl) (fa_27_1 _ _)) ?_
        refine gr rfl (r_load (ot rfl) (lm_s (mem_seg 0 rfl) ag_3 rfl)) ?_
        refine gr rfl (r_fa (ot rfl) (fa_25_1 _ _)) ?_
        refine gr rfl (r_load (ot rfl) (lm_s (mem_seg 1 rfl) ag_3 rfl)) ?_
        refine gr rfl (r_bin (ot rfl) (ot rfl) rfl) ?_
        refine gr rfl (r_bin (ot rfl) (oc rfl) rfl) ?_
        refine gM rfl rfl ?_
        refine gr rfl (r_min (os1 (ot rfl) (os1 (ot rfl) os0)) rfl) ?_
        refine gr rfl (r_max (os1 (ot rfl) (os1 (oc rfl) os0)) rfl) ?_
        refine gA rfl rfl ?_
        refine go_nil ?_
        obtain rfl := someI hF
        exact g_ret (rst rfl rs0) (fun h1 hf hs => ⟨(e4.trans (e6.trans hs.hext)), rfl⟩)
    ·
      rcases Bool.eq_false_or_eq_true s4 with hb5 | hb5
      ·
        replace hF := ifT hb5 hF
        refine go_re 14 (v2 := .bool true) rfl (congrArg Value.bool hb5) ?_
        refine g_no rfl rfl rfl rfl rfl ?_
        refine g_no rfl rfl rfl rfl rfl ?_
        refine g_no rfl rfl rfl rfl rfl ?_
        refine gr rfl (r_pkT (ot rfl) (oc rfl)) ?_
        obtain rfl := someI hF
        exact Goes.weak (J6 () _ (HExt.refl _) w4 trivial) (Sub.cons (Sub.cons (Sub.cons (Sub.cons (Sub.cons (Sub.nil _) rfl) rfl) rfl) rfl) rfl)
      ·
        replace hF := ifF hb5 hF
        refine go_re 14 (v2 := .bool false) rfl (congrArg Value.bool hb5) ?_
        refine g_do rfl rfl rfl ?_
        refine gr rfl (r_load (ot rfl) (lm_w (mem_seg 1 rfl) ag_25 sz_25 rfl)) ?_
        refine g_do rfl rfl rfl ?_
        refine gr rfl (r_load (ot rfl) (lm_w (mem_seg 0 rfl) ag_27 sz_27 rfl)) ?_
        refine g_do rfl rfl rfl ?_
        replace hF := obind hF
        obtain ⟨x8, hx8, hF⟩ := hF
        refine g_callp (v := .bool x8) EE_fr rfl of (os1 (ot rfl) (os1 (ot rfl) os0)) hb_40 (fun _ => rfl) (fun hf kn w => by exact s_ref10_ahead w p0 p1  hx8) ?_
        refine gr rfl (r_pkF (ot rfl) (ot rfl)) ?_
        obtain rfl := someI hF
        exact Goes.weak (J6 () _ (HExt.refl _) w4 trivial) (Sub.cons (Sub.cons (Sub.cons (Sub.cons (Sub.cons (Sub.nil _) rfl) rfl) rfl) rfl) rfl)
  ·
    rcases Bool.eq_false_or_eq_true p0.Dead with hb3 | hb3
    ·
      replace hF := ifT hb3 hF
      refine go_re 9 (v2 := .bool true) rfl (congrArg Value.bool hb3) ?_
      refine g_no rfl rfl rfl rfl rfl ?_
      refine g_no rfl rfl rfl rfl rfl ?_
      refine g_no rfl rfl rfl rfl rfl ?_
      refine gr rfl (r_pkT (ot rfl) (oc rfl)) ?_
      obtain rfl := someI hF
      exact Goes.weak (J4 () _ (HExt.refl _) hw trivial) (Sub.cons (Sub.cons (Sub.cons (Sub.cons (Sub.cons (Sub.nil _) rfl) rfl) rfl) rfl) rfl)
    ·
      replace hF := ifF hb3 hF
      refine go_re 9 (v2 := .bool false) rfl (congrArg Value.bool hb3) ?_
      refine g_do rfl rfl rfl ?_
      refine gr rfl (r_load (ot rfl) (lm_w (mem_seg 1 rfl) ag_25 sz_25 rfl)) ?_
      refine g_do rfl rfl rfl ?_
      refine gr rfl (r_load (ot rfl) (lm_w (mem_seg 0 rfl) ag_27 sz_27 rfl)) ?_
      refine g_do rfl rfl rfl ?_
      replace hF := obind hF
      obtain ⟨x9, hx9, hF⟩ := hF
      refine g_callp (v := .bool x9) EE_fr rfl of (os1 (ot rfl) (os1 (ot rfl) os0)) hb_39 (fun _ => rfl) (fun hf kn w => by exact s_ref10_old w p0 p1  hx9) ?_
      refine gr rfl (r_pkF (ot rfl) (ot rfl)) ?_
      obtain rfl := someI hF
      exact Goes.weak (J4 () _ (HExt.refl _) hw trivial) (Sub.cons (Sub.cons (Sub.cons (Sub.cons (Sub.cons (Sub.nil _) rfl) rfl) rfl) rfl) rfl)
theorem s_ref05_One (n : Nat) {h : Heap} (hw : Wf h) (p0 : (List TKV)) (p1 : TEvent) {a0_0 : Option Addr} {c0_0 : Nat} (f0_0 : RL R_TKV h a0_0 c0_0 p0) {r : (List TKV)} (hF : F_ref05_One n p0 p1 = some r) :
    Ev EE 49 [.slice a0_0 p0.length c0_0, .agg #[.int .i64 p1.Rev, .string p1.Key, .string p1.Val, .bool p1.Del]] h (fun v h1 => ∃ a0 c0, v = .slice a0 r.length c0 ∧ RL R_TKV h1 a0 c0 r) := by
  unfold F_ref05_One at hF
  refine ev_of hw rfl at_49 rfl rfl (go_seg0 ?_)
  refine go_seq ?_
  refine go_region ?_
  refine gs_box rfl (ot rfl) rfl ?_; intro b3_1
  refine gAc rfl rfl ?_
  refine go_nil ?_
  refine go_seq ?_
  refine go_region ?_
  refine gAc rfl rfl ?_
  refine go_nil ?_
  refine go_seq ?_
  refine go_region ?_
  refine gAc rfl rfl ?_
  refine go_nil ?_
  refine go_seq ?_
  replace hF := obind hF
  obtain ⟨s2, hF, hK2⟩ := hF
  refine go_joinc (β := Option Addr × List Blk) (fun s h' => AccR R_TKV 100 h' s.2 (.slice s.1 s2.1.length s2.1.length) s2.1) (fun s => [(0, true, .slice a0_0 p0.length c0_0), (3, true, .pointer (some ⟨b3_1, 0, none⟩)), (4, true, .slice none 0 0), (5, true, .slice s.1 s2.1.length s2.1.length), (6, true, .int .i64 s2.2)]) (fun s => (List.flatten [s.2, [⟨b3_1, .cells [.int .i64 p1.Rev, .string p1.Key, .string p1.Val, .bool p1.Del] 77⟩]] : List Blk)) ?_ (fun J2 => ?_)
  ·
    rintro ⟨a2_0, a2_1⟩ h2 e2 w2 f2_0
    replace hF := hK2
    refine go_seq ?_
    refine go_seq ?_
    refine go_region ?_
    refine gr rfl (r_fa (ot rfl) (fa_77_3 _ _)) ?_
    refine gr rfl (r_load (ot rfl) (lm_s (mem_seg 1 rfl) ag_4 rfl)) ?_
    refine gr rfl (r_un (ot rfl) rfl) ?_
    refine go_nil ?_
    replace hF := obind hF
    obtain ⟨s4, hF, hK4⟩ := hF
    refine go_joinc (β := Option Addr × List Blk) (fun s h' => AccR R_TKV 100 h' s.2 (.slice s.1 s4.length s4.length) s4) (fun s => [(0, true, .slice a0_0 p0.length c0_0), (3, true, .pointer (some ⟨b3_1, 0, none⟩)), (4, true, .slice none 0 0), (5, true, .slice s.1 s4.length s4.length), (6, true, .int .i64 s2.2)]) (fun s => (List.flatten [s.2, [⟨b3_1, .cells [.int .i64 p1.Rev, .string p1.Key, .string p1.Val, .bool p1.Del] 77⟩]] : List Blk)) ?_ (fun J4 => ?_)
    ·
      rintro ⟨a4_0, a4_1⟩ h4 e4 w4 f4_0
      replace hF := hK4
      refine go_seq ?_
      refine go_seq ?_
      refine go_region ?_
      refine gM rfl rfl ?_
      refine gA rfl rfl ?_
      refine go_nil ?_
      replace hF := obind hF
      obtain ⟨s5, hF, hK5⟩ := hF
      refine go_joinc (β := Option Addr × List Blk) (fun s h' => AccR R_TKV 100 h' s.2 (.slice s.1 s5.length s5.length) s5) (fun s => [(4, true, .slice none 0 0), (5, true, .slice s.1 s5.length s5.length)]) (fun s => (List.flatten [s.2, [⟨b3_1, .cells [.int .i64 p1.Rev, .string p1.Key, .string p1.Val, .bool p1.Del] 77⟩]] : List Blk)) ?_ (fun J5 => ?_)
      ·
        rintro ⟨a5_0, a5_1⟩ h5 e5 w5 f5_0
        replace hF := hK5
        refine go_seq ?_
        refine go_region ?_
        refine gM rfl rfl ?_
        refine gA rfl rfl ?_
        refine go_nil ?_
        refine gs_accpub .z f5_0 (fun h6 e6 w6 f6_ => ?_) rfl
        obtain rfl := someI hF
        exact g_ret (rst rfl rs0) (fun h1 hf hs => ⟨(e2.trans (e4.trans (e5.trans (e6.trans hs.hext)))), ⟨_, _, rfl, (f6_.ext hs.hext.kn)⟩⟩)
      ·
        refine go_block ?_
        refine go_loop (α := Nat × (List TKV) × Int × Option Addr × List Blk × Heap) (fun a => HExt h4 a.2.2.2.2.2 ∧ Wf a.2.2.2.2.2 ∧ F_ref05_One_L1 p0 p1 a.1 a.2.1 a.2.2.1 = some s5 ∧ AccR R_TKV 100 a.2.2.2.2.2 a.2.2.2.2.1 (.slice a.2.2.2.1 a.2.1.length a.2.1.length) a.2.1) (fun a => a.1) (fun a => [(0, true, .slice a0_0 p0.length c0_0), (3, true, .pointer (some ⟨b3_1, 0, none⟩)), (4, true, .slice none 0 0), (5, true, .slice a.2.2.2.1 a.2.1.length a.2.1.length), (7, true, .int .i64 a.2.2.1)]) (fun a => (List.flatten [a.2.2.2.2.1, [⟨b3_1, .cells [.int .i64 p1.Rev, .string p1.Key, .string p1.Val, .bool p1.Del] 77⟩]] : List Blk)) (fun a => a.2.2.2.2.2) ?_ (n, s4, s2.2, a4_0, a4_1, h4) ⟨HExt.refl _, w4, hF, f4_0⟩ (Sub.cons (Sub.cons (Sub.cons (Sub.cons (Sub.cons (Sub.nil _) rfl) rfl) rfl) rfl) rfl) rfl rfl
        rintro ⟨m7, y7_0, y7_1, a7_0, a7_1, h7⟩ ⟨e7, w7, hF, f7_0⟩ ih7
        rcases m7 with _ | m7
        ·
          rw [F_ref05_One_L1.eq_1] at hF; cases hF
        ·
          rw [F_ref05_One_L1.eq_2] at hF
          refine go_seq ?_
          refine go_seq ?_
          refine go_region ?_
          refine gM rfl rfl ?_
          refine gM rfl rfl ?_
          refine gr rfl (r_len rfl (os1 (ot rfl) os0) (fun _ _ => ln_57)) ?_
          refine gr rfl (r_bin (ot rfl) (ot rfl) rfl) ?_
          refine go_nil ?_
          refine g_cond (b := (decide (y7_1 < (p0.length : Int)))) (ot rfl) (fun hc8 => ?_) (fun hc8 => ?_)
          ·
            replace hF := ifT hc8 hF
            refine go_skip ?_
            refine go_seq ?_
            refine go_block ?_
            refine go_seq ?_
            refine go_regionq (by kernel_rfl) ?_
            refine gM rfl rfl ?_
            refine gM rfl rfl ?_
            replace hF := obind hF
            obtain ⟨x9, hx9, hF⟩ := hF
            obtain ⟨q9, row9, i9, cl9, rc9, sp9⟩ := ix (ik := .i64) (cap := c0_0) (E := EE) (((f0_0.ext e2.kn).ext e4.kn).ext e7.kn) hx9 ut_57 sz_100 rfl
            obtain rfl := rc9
            refine gr rfl (r_ia (ot rfl) (ot rfl) i9) ?_
            refine gr rfl (r_fa (ot rfl) (fs_100_0 sp9)) ?_
            refine gr rfl (r_load (ot rfl) (v := .string x9.Key) (lo_e (fun hf kn => ld_field (r := [.string x9.Key, .string x9.Val, .int .i64 x9.Rev]) ag_9 (kn.cellsAt cl9) rfl))) ?_
            refine gr rfl (r_fa (ot rfl) (fa_77_1 _ _)) ?_
            refine gr rfl (r_load (ot rfl) (lm_s (mem_seg 1 rfl) ag_9 rfl)) ?_
            refine gr rfl (r_bin (ot rfl) (ot rfl) rfl) ?_
            refine go_nil ?_
            replace hF := obind hF
            obtain ⟨s11, hF, hK11⟩ := hF
            refine go_joinc (β := Option Addr × List Blk) (fun s h' => AccR R_TKV 100 h' s.2 (.slice s.1 s11.length s11.length) s11) (fun s => [(0, true, .slice a0_0 p0.length c0_0), (3, true, .pointer (some ⟨b3_1, 0, none⟩)), (4, true, .slice none 0 0), (5, true, .slice s.1 s11.length s11.length), (7, true, .int .i64 y7_1), (45, true, .int .i64 y7_1), (46, true, .slice a0_0 p0.length c0_0), (47, true, .int .i64 (p0.length : Int)), (48, true, .bool (decide (y7_1 < (p0.length : Int)))), (51, true, .slice a0_0 p0.length c0_0), (52, true, .int .i64 y7_1), (53, true, .pointer (some q9)), (54, true, .pointer (some ⟨q9.block, q9.off + 0, q9.spot⟩)), (55, true, .string x9.Key), (56, true, .pointer (some ⟨b3_1, 1, none⟩)), (57, true, .string p1.Key), (58, true, .bool (!eqB x9.Key p1.Key))]) (fun s => (List.flatten [s.2, [⟨b3_1, .cells [.int .i64 p1.Rev, .string p1.Key, .string p1.Val, .bool p1.Del] 77⟩]] : List Blk)) ?_ (fun J11 => ?_)
            ·
              rintro ⟨a11_0, a11_1⟩ h11 e11 w11 f11_0
              replace hF := hK11
              refine go_endb ?_
              refine go_region ?_
              refine gM rfl rfl ?_
              refine gr rfl (r_bin (ot rfl) (oc rfl) rfl) ?_
              refine gA rfl rfl ?_
              refine go_nil ?_
              exact Goes.weak (ih7 (m7, s11, (IntKind.i64.wrap (y7_1 + 1)), a11_0, a11_1, h11) ⟨(e7.trans e11), w11, hF, f11_0⟩ (Nat.lt_succ_self _)) (Sub.cons (Sub.cons (Sub.cons (Sub.cons (Sub.cons (Sub.nil _) rfl) rfl) rfl) rfl) rfl)
            ·
              refine g_cond (b := (!eqB x9.Key p1.Key)) (ot rfl) (fun hc10 => ?_) (fun hc10 => ?_)
              ·
                replace hF := ifT hc10 hF
                refine go_region ?_
                refine gM rfl rfl ?_
                refine gM rfl rfl ?_
                refine gM rfl rfl ?_
                replace hF := obind hF
                obtain ⟨x12, hx12, hF⟩ := hF
                obtain ⟨q12, row12, i12, cl12, rc12, sp12⟩ := ix (ik := .i64) (cap := c0_0) (E := EE) (((f0_0.ext e2.kn).ext e4.kn).ext e7.kn) hx12 ut_57 sz_100 rfl
                obtain rfl := rc12
                refine gr rfl (r_ia (ot rfl) (ot rfl) i12) ?_
                refine gr rfl (r_load (ot rfl) (v := .agg #[.string x12.Key, .string x12.Val, .int .i64 x12.Rev]) (lo_e (fun hf kn => ld_of (r := [.string x12.Key, .string x12.Val, .int .i64 x12.Rev]) ag_100 sz_100 (kn.cellsAt cl12)))) ?_
                refine gs_bslice (cs := [.string x12.Key, .string x12.Val, .int .i64 x12.Rev]) rfl (op1 (ot rfl) op0) ut_57 sz_100 zo_100 rfl rfl ?_; intro b64_13
                replace hF := obind hF
                obtain ⟨x14, hx14, hF⟩ := hF
                obtain ⟨hr14, hz14_⟩ := appL_some hx14; subst x14
                refine gs_front (.s (.z)) ?_
                refine gs_app (rows2 := [[.string x12.Key, .string x12.Val, .int .i64 x12.Rev]]) (R := R_TKV) rfl (os1 (ot rfl) (os1 (ot rfl) os0)) rfl ut_57 sz_100 rfl (by decide) by_100 zo_100 rfl zs_57_57 rfl rfl (first_m (mem_seg 1 rfl) rfl (by decide)) (Rws.one (x := x12) rfl) f7_0 hr14 (fun p14_ tl14 f14_ => ?_)
                refine gA rfl rfl ?_
                refine go_nil ?_
                obtain rfl := someI hF
                refine gs_sub (.cons_cons _ (.cons _ (.cons_cons _ (.refl _)))) ?_
                exact Goes.weak (J11 (p14_, tl14) _ (HExt.refl _) w7 f14_) (Sub.cons (Sub.cons (Sub.cons (Sub.cons (Sub.cons (Sub.cons (Sub.cons (Sub.cons (Sub.cons (Sub.cons (Sub.cons (Sub.cons (Sub.cons (Sub.cons (Sub.cons (Sub.cons (Sub.cons (Sub.nil _) rfl) rfl) rfl) rfl) rfl) rfl) rfl) rfl) rfl) rfl) rfl) rfl) rfl) rfl) rfl) rfl) rfl)
              ·
                replace hF := ifF hc10 hF
                refine go_skip ?_
                obtain rfl := someI hF
                exact Goes.weak (J11 (a7_0, a7_1) _ (HExt.refl _) w7 f7_0) (Sub.cons (Sub.cons (Sub.cons (Sub.cons (Sub.cons (Sub.cons (Sub.cons (Sub.cons (Sub.cons (Sub.cons (Sub.cons (Sub.cons (Sub.cons (Sub.cons (Sub.cons (Sub.cons (Sub.cons (Sub.nil _) rfl) rfl) rfl) rfl) rfl) rfl) rfl) rfl) rfl) rfl) rfl) rfl) rfl) rfl) rfl) rfl) rfl)
          ·
            replace hF := ifF hc8 hF
            refine go_exit rfl ?_
            obtain rfl := someI hF
            exact Goes.weak (J5 (a7_0, a7_1) _ e7 w7 f7_0) (Sub.cons (Sub.cons (Sub.nil _) rfl) rfl)
    ·
      refine g_cond (b := (!p1.Del)) (ot rfl) (fun hc3 => ?_) (fun hc3 => ?_)
      ·
        replace hF := ifT hc3 hF
        refine go_region ?_
        refine gM rfl rfl ?_
        refine gr rfl (r_fa (ot rfl) (fa_77_1 _ _)) ?_
        refine gr rfl (r_load (ot rfl) (lm_s (mem_seg 1 rfl) ag_9 rfl)) ?_
        refine gr rfl (r_fa (ot rfl) (fa_77_2 _ _)) ?_
        refine gr rfl (r_load (ot rfl) (lm_s (mem_seg 1 rfl) ag_9 rfl)) ?_
        refine gr rfl (r_fa (ot rfl) (fa_77_0 _ _)) ?_
        refine gr rfl (r_load (ot rfl) (lm_s (mem_seg 1 rfl) ag_3 rfl)) ?_
        refine gr rfl (r_build (op1 (ot rfl) (op1 (ot rfl) (op1 (ot rfl) op0))) rfl) ?_
        refine gs_bslice (cs := [.string p1.Key, .string p1.Val, .int .i64 p1.Rev]) rfl (op1 (ot rfl) op0) ut_57 sz_100 zo_100 rfl rfl ?_; intro b42_15
        replace hF := obind hF
        obtain ⟨x16, hx16, hF⟩ := hF
        obtain ⟨hr16, hz16_⟩ := appL_some hx16; subst x16
        refine gs_front (.s (.z)) ?_
        refine gs_app (rows2 := [[.string p1.Key, .string p1.Val, .int .i64 p1.Rev]]) (R := R_TKV) rfl (os1 (ot rfl) (os1 (ot rfl) os0)) rfl ut_57 sz_100 rfl (by decide) by_100 zo_100 rfl zs_57_57 rfl rfl (first_m (mem_seg 1 rfl) rfl (by decide)) (Rws.one (x := (⟨p1.Key, p1.Val, p1.Rev⟩ : TKV)) rfl) f2_0 hr16 (fun p16_ tl16 f16_ => ?_)
        refine gA rfl rfl ?_
        refine go_nil ?_
        obtain rfl := someI hF
        refine gs_sub (.cons_cons _ (.cons _ (.cons_cons _ (.refl _)))) ?_
        exact Goes.weak (J4 (p16_, tl16) _ (HExt.refl _) w2 f16_) (Sub.cons (Sub.cons (Sub.cons (Sub.cons (Sub.cons (Sub.nil _) rfl) rfl) rfl) rfl) rfl)
      ·
        replace hF := ifF hc3 hF
        refine go_skip ?_
        obtain rfl := someI hF
        exact Goes.weak (J4 (a2_0, a2_1) _ (HExt.refl _) w2 f2_0) (Sub.cons (Sub.cons (Sub.cons (Sub.cons (Sub.cons (Sub.nil _) rfl) rfl) rfl) rfl) rfl)
  ·
    refine go_block ?_
    refine go_loop (α := (List TKV) × Nat × (List TKV) × Option Addr × List Blk × Heap) (fun a => a.1 = List.drop a.2.1 p0 ∧ HExt h a.2.2.2.2.2 ∧ Wf a.2.2.2.2.2 ∧ F_ref05_One_L2 p1 a.1 a.2.1 a.2.2.1 = some s2 ∧ AccR R_TKV 100 a.2.2.2.2.2 a.2.2.2.2.1 (.slice a.2.2.2.1 a.2.2.1.length a.2.2.1.length) a.2.2.1) (fun a => a.1.length) (fun a => [(0, true, .slice a0_0 p0.length c0_0), (3, true, .pointer (some ⟨b3_1, 0, none⟩)), (4, true, .slice none 0 0), (5, true, .slice a.2.2.2.1 a.2.2.1.length a.2.2.1.length), (6, true, .int .i64 (a.2.1 : Int))]) (fun a => (List.flatten [a.2.2.2.2.1, [⟨b3_1, .cells [.int .i64 p1.Rev, .string p1.Key, .string p1.Val, .bool p1.Del] 77⟩]] : List Blk)) (fun a => a.2.2.2.2.2) ?_ (p0, 0, ([] : List TKV), none, [], h) ⟨rfl, HExt.refl _, hw, hF, (AccR.nil _ _ _)⟩ (Sub.cons (Sub.cons (Sub.cons (Sub.cons (Sub.cons (Sub.nil _) rfl) rfl) rfl) rfl) rfl) rfl rfl
    rintro ⟨r17, i17, y17_0, a17_0, a17_1, h17⟩ ⟨hr17, e17, w17, hF, f17_0⟩ ih17
    rcases r17 with _ | ⟨z17, r17⟩
    ·
      have hi17 := drop_nil hr17
      rw [F_ref05_One_L2.eq_1] at hF
      refine go_seq ?_
      refine go_seq ?_
      refine go_regionq (by kernel_rfl) ?_
      refine gM rfl rfl ?_
      refine gM rfl rfl ?_
      refine gr rfl (r_len rfl (os1 (ot rfl) os0) (fun _ _ => ln_57)) ?_
      refine gr rfl (r_bin (ot rfl) (ot rfl) rfl) ?_
      refine go_cast (.bool false) (congrArg Value.bool (decide_eq_false hi17)) ?_
      refine gM rfl rfl ?_
      refine g_no rfl rfl rfl rfl rfl ?_
      refine g_no rfl rfl rfl rfl rfl ?_
      refine g_no rfl rfl rfl rfl rfl ?_
      refine g_no rfl rfl rfl rfl rfl ?_
      refine g_no rfl rfl rfl rfl rfl ?_
      refine g_no rfl rfl rfl rfl rfl ?_
      refine g_no rfl rfl rfl rfl rfl ?_
      refine g_no rfl rfl rfl rfl rfl ?_
      refine gr rfl (r_pkF (ot rfl) (oc rfl)) ?_
      refine go_nil ?_
      refine g_cond (b := false) (ot rfl) (fun hc18 => ?_) (fun hc18 => ?_)
      · cases hc18
      refine go_exit rfl ?_
      obtain rfl := someI hF
      exact Goes.weak (J2 (a17_0, a17_1) _ e17 w17 f17_0) (Sub.cons (Sub.cons (Sub.cons (Sub.cons (Sub.cons (Sub.nil _) rfl) rfl) rfl) rfl) rfl)
    ·
      obtain ⟨hi17, hx17, hr17⟩ := drop_cons hr17
      have hb17 := (f0_0.ext e17.kn).1
      rw [F_ref05_One_L2.eq_2] at hF
      refine go_seq ?_
      refine go_seq ?_
      refine go_regionq (by kernel_rfl) ?_
      refine gM rfl rfl ?_
      refine gM rfl rfl ?_
      refine gr rfl (r_len rfl (os1 (ot rfl) os0) (fun _ _ => ln_57)) ?_
      refine gr rfl (r_bin (ot rfl) (ot rfl) rfl) ?_
      refine go_cast (.bool true) (congrArg Value.bool (decide_eq_true (Int.ofNat_lt.mpr hi17))) ?_
      refine gM rfl rfl ?_
      refine g_do rfl rfl rfl ?_
      refine gM rfl rfl ?_
      refine g_do rfl rfl rfl ?_
      refine gM rfl rfl ?_
      refine g_do rfl rfl rfl ?_
      obtain ⟨q19, row19, i19, cl19, rc19, sp19⟩ := ix (ik := .i64) (cap := c0_0) (E := EE) (f0_0.ext e17.kn) ((getI_nat _ _).trans hx17) ut_57 sz_100 rfl
      obtain rfl := rc19
      refine gr rfl (r_ia (ot rfl) (ot rfl) i19) ?_
      refine g_do rfl rfl rfl ?_
      refine gr rfl (r_fa (ot rfl) (fs_100_0 sp19)) ?_
      refine g_do rfl rfl rfl ?_
      refine gr rfl (r_load (ot rfl) (v := .string z17.Key) (lo_e (fun hf kn => ld_field (r := [.string z17.Key, .string z17.Val, .int .i64 z17.Rev]) ag_9 (kn.cellsAt cl19) rfl))) ?_
      refine g_do rfl rfl rfl ?_
      refine gr rfl (r_fa (ot rfl) (fa_77_1 _ _)) ?_
      refine g_do rfl rfl rfl ?_
      refine gr rfl (r_load (ot rfl) (lm_s (mem_seg 1 rfl) ag_9 rfl)) ?_
      refine g_do rfl rfl rfl ?_
      refine gr rfl (r_bin (ot rfl) (ot rfl) rfl) ?_
      refine gr rfl (r_pkT (ot rfl) (ot rfl)) ?_
      refine go_nil ?_
      refine g_cond (b := (lessB z17.Key p1.Key)) (ot rfl) (fun hc20 => ?_) (fun hc20 => ?_)
      ·
        replace hF := ifT hc20 hF
        refine go_skip ?_
        refine go_block ?_
        refine go_seq ?_
        refine go_region ?_
        refine gM rfl rfl ?_
        refine gM rfl rfl ?_
        refine gM rfl rfl ?_
        obtain ⟨q21, row21, i21, cl21, rc21, sp21⟩ := ix (ik := .i64) (cap := c0_0) (E := EE) (f0_0.ext e17.kn) ((getI_nat _ _).trans hx17) ut_57 sz_100 rfl
        obtain rfl := rc21
        refine gr rfl (r_ia (ot rfl) (ot rfl) i21) ?_
        refine gr rfl (r_load (ot rfl) (v := .agg #[.string z17.Key, .string z17.Val, .int .i64 z17.Rev]) (lo_e (fun hf kn => ld_of (r := [.string z17.Key, .string z17.Val, .int .i64 z17.Rev]) ag_100 sz_100 (kn.cellsAt cl21)))) ?_
        refine gs_bslice (cs := [.string z17.Key, .string z17.Val, .int .i64 z17.Rev]) rfl (op1 (ot rfl) op0) ut_57 sz_100 zo_100 rfl rfl ?_; intro b27_22
        replace hF := obind hF
        obtain ⟨x23, hx23, hF⟩ := hF
        obtain ⟨hr23, hz23_⟩ := appL_some hx23; subst x23
        refine gs_front (.s (.z)) ?_
        refine gs_app (rows2 := [[.string z17.Key, .string z17.Val, .int .i64 z17.Rev]]) (R := R_TKV) rfl (os1 (ot rfl) (os1 (ot rfl) os0)) rfl ut_57 sz_100 rfl (by decide) by_100 zo_100 rfl zs_57_57 rfl rfl (first_m (mem_seg 1 rfl) rfl (by decide)) (Rws.one (x := z17) rfl) f17_0 hr23 (fun p23_ tl23 f23_ => ?_)
        refine gA rfl rfl ?_
        refine go_nil ?_
        refine go_region ?_
        refine gM rfl rfl ?_
        refine gr rfl (r_bin (ot rfl) (oc rfl) rfl) ?_
        refine gA rfl rfl ?_
        refine go_nil ?_
        refine go_endb ?_
        refine gs_sub (.cons_cons _ (.cons _ (.cons_cons _ (.refl _)))) ?_
        refine go_re 6 (v2 := .int .i64 ((i17 + 1 : Nat) : Int)) rfl (wrap_succ hi17 hb17) ?_
        exact Goes.weak (ih17 (r17, i17 + 1, (y17_0 ++ ([z17] : List TKV)), p23_, tl23, h17) ⟨hr17, e17, w17, hF, f23_⟩ (Nat.lt_succ_self _)) (Sub.cons (Sub.cons (Sub.cons (Sub.cons (Sub.cons (Sub.nil _) rfl) rfl) rfl) rfl) rfl)
      ·
        replace hF := ifF hc20 hF
        refine go_exit rfl ?_
        obtain rfl := someI hF
        exact Goes.weak (J2 (a17_0, a17_1) _ e17 w17 f17_0) (Sub.cons (Sub.cons (Sub.cons (Sub.cons (Sub.cons (Sub.nil _) rfl) rfl) rfl) rfl) rfl)
theorem s_ref05_Fold (n : Nat) {h : Heap} (hw : Wf h) (p0 : (List TKV)) (p1 : (List TEvent)) {a0_0 : Option Addr} {c0_0 : Nat} {a1_0 : Option Addr} {c1_0 : Nat} (f0_0 : RL R_TKV h a0_0 c0_0 p0) (f1_0 : RL R_TEvent h a1_0 c1_0 p1) {r : (List TKV)} (hF : F_ref05_Fold n p0 p1 = some r) :
    Ev EE 28 [.slice a0_0 p0.length c0_0, .slice a1_0 p1.length c1_0] h (fun v h1 => ∃ a0 c0, v = .slice a0 r.length c0 ∧ RL R_TKV h1 a0 c0 r) := by
  unfold F_ref05_Fold at hF
  refine ev_of hw rfl at_28 rfl rfl (go_seg0 ?_)
  refine go_seq ?_
  refine go_region ?_
  refine gAc rfl rfl ?_
  refine go_nil ?_
  refine go_seq ?_
  refine go_seq ?_
  refine go_region ?_
  refine gAc rfl rfl ?_
  refine go_nil ?_
  replace hF := obind hF
  obtain ⟨s1, hF, hK1⟩ := hF
  refine go_joinc (β := Option Addr × Nat) (fun s h' => RL R_TKV h' s.1 s.2 s1) (fun s => [(0, true, .slice s.1 s1.length s.2), (4, true, .slice none 0 0)]) (fun s => (List.flatten [] : List Blk)) ?_ (fun J1 => ?_)
  ·
    rintro ⟨a1_0, a1_1⟩ h1 e1 w1 f1_0
    replace hF := hK1
    refine go_seq ?_
    refine go_region ?_
    refine gM rfl rfl ?_
    refine gA rfl rfl ?_
    refine go_nil ?_
    obtain rfl := someI hF
    exact g_ret (rst rfl rs0) (fun h1 hf hs => ⟨(e1.trans hs.hext), ⟨_, _, rfl, (f1_0.ext hs.hext.kn)⟩⟩)
  ·
    refine go_block ?_
    refine go_loop (α := (List TEvent) × Nat × (List TKV) × Option Addr × Nat × Heap) (fun a => a.1 = List.drop a.2.1 p1 ∧ HExt h a.2.2.2.2.2 ∧ Wf a.2.2.2.2.2 ∧ F_ref05_Fold_L1 n a.1 a.2.1 a.2.2.1 = some s1 ∧ RL R_TKV a.2.2.2.2.2 a.2.2.2.1 a.2.2.2.2.1 a.2.2.1) (fun a => a.1.length) (fun a => [(0, true, .slice a.2.2.2.1 a.2.2.1.length a.2.2.2.2.1), (1, true, .slice a1_0 p1.length c1_0), (4, true, .slice none 0 0), (5, true, .int .i64 (a.2.1 : Int))]) (fun a => (List.flatten [] : List Blk)) (fun a => a.2.2.2.2.2) ?_ (p1, 0, p0, a0_0, c0_0, h) ⟨rfl, HExt.refl _, hw, hF, f0_0⟩ (Sub.cons (Sub.cons (Sub.cons (Sub.cons (Sub.nil _) rfl) rfl) rfl) rfl) rfl rfl
    rintro ⟨r2, i2, y2_0, a2_0, a2_1, h2⟩ ⟨hr2, e2, w2, hF, f2_0⟩ ih2
    rcases r2 with _ | ⟨z2, r2⟩
    ·
      have hi2 := drop_nil hr2
      rw [F_ref05_Fold_L1.eq_1] at hF
      refine go_seq ?_
      refine go_seq ?_
      refine go_region ?_
      refine gM rfl rfl ?_
      refine gM rfl rfl ?_
      refine gr rfl (r_len rfl (os1 (ot rfl) os0) (fun _ _ => ln_30)) ?_
      refine gr rfl (r_bin (ot rfl) (ot rfl) rfl) ?_
      refine go_cast (.bool false) (congrArg Value.bool (decide_eq_false hi2)) ?_
      refine go_nil ?_
      refine g_cond (b := false) (ot rfl) (fun hc3 => ?_) (fun hc3 => ?_)
      · cases hc3
      refine go_exit rfl ?_
      obtain rfl := someI hF
      exact Goes.weak (J1 (a2_0, a2_1) _ e2 w2 f2_0) (Sub.cons (Sub.cons (Sub.nil _) rfl) rfl)
    ·
      obtain ⟨hi2, hx2, hr2⟩ := drop_cons hr2
      have hb2 := (f1_0.ext e2.kn).1
      rw [F_ref05_Fold_L1.eq_2] at hF
      refine go_seq ?_
      refine go_seq ?_
      refine go_region ?_
      refine gM rfl rfl ?_
      refine gM rfl rfl ?_
      refine gr rfl (r_len rfl (os1 (ot rfl) os0) (fun _ _ => ln_30)) ?_
      refine gr rfl (r_bin (ot rfl) (ot rfl) rfl) ?_
      refine go_cast (.bool true) (congrArg Value.bool (decide_eq_true (Int.ofNat_lt.mpr hi2))) ?_
      refine go_nil ?_
      refine g_cond (b := true) (ot rfl) (fun hc4 => ?_) (fun hc4 => ?_)
      rotate_left
      · cases hc4
      refine go_skip ?_
      refine go_seq ?_
      refine go_block ?_
      refine go_region ?_
      refine gM rfl rfl ?_
      refine gM rfl rfl ?_
      refine gM rfl rfl ?_
      obtain ⟨q5, row5, i5, cl5, rc5, sp5⟩ := ix (ik := .i64) (cap := c1_0) (E := EE) (f1_0.ext e2.kn) ((getI_nat _ _).trans hx2) ut_30 sz_77 rfl
      obtain rfl := rc5
      refine gr rfl (r_ia (ot rfl) (ot rfl) i5) ?_
      refine gr rfl (r_load (ot rfl) (v := .agg #[.int .i64 z2.Rev, .string z2.Key, .string z2.Val, .bool z2.Del]) (lo_e (fun hf kn => ld_of (r := [.int .i64 z2.Rev, .string z2.Key, .string z2.Val, .bool z2.Del]) ag_77 sz_77 (kn.cellsAt cl5)))) ?_
      replace hF := obind hF
      obtain ⟨x6, hx6, hF⟩ := hF
      refine g_call EE_fr (fun _ h => by cases h; rfl) of (os1 (ot rfl) (os1 (ot rfl) os0)) hb_49 (fun hf kn w => by exact s_ref05_One n w y2_0 z2 (f2_0.ext kn) hx6) ?_
      rintro v6 h6 e6 w6 ⟨a6_0, c6_0, rfl, f6_0⟩
      refine gA rfl rfl ?_
      refine go_nil ?_
      refine go_endb ?_
      refine go_region ?_
      refine gM rfl rfl ?_
      refine gr rfl (r_bin (ot rfl) (oc rfl) rfl) ?_
      refine gA rfl rfl ?_
      refine go_nil ?_
      refine go_re 5 (v2 := .int .i64 ((i2 + 1 : Nat) : Int)) rfl (wrap_succ hi2 hb2) ?_
      exact Goes.weak (ih2 (r2, i2 + 1, x6, a6_0, c6_0, h6) ⟨hr2, (e2.trans e6), w6, hF, f6_0⟩ (Nat.lt_succ_self _)) (Sub.cons (Sub.cons (Sub.cons (Sub.cons (Sub.nil _) rfl) rfl) rfl) rfl)
end Go.Proofs.Ytfgoccdjbgecfaa.V
