/- Walks.
   No condition: these are laws of the clean machine and of this program. -/
import Derived.Test.YtfgoccdjbgecfaaPT
namespace Go.Proofs.Ytfgoccdjbgecfaa.V
open Go
set_option linter.unusedVariables false
set_option linter.unusedSimpArgs false
set_option maxRecDepth 100000
set_option maxHeartbeats 4000000
theorem s_ref04_In {h : Heap} (hw : Wf h) (p0 : TRange) (p1 : ByteArray)   {r : Bool} (hF : F_ref04_In p0 p1 = some r) :
    Ev EE 48 [.agg #[.string p0.From, .string p0.To], .string p1] h (fun v _ => v = .bool r) := by
  unfold F_ref04_In at hF
  refine ev_of hw rfl at_48 rfl rfl (go_seg0 ?_)
  refine go_seq ?_
  refine go_region ?_
  refine gs_box rfl (ot rfl) rfl ?_; intro b2_1
  refine gAc rfl rfl ?_
  refine go_nil ?_
  refine go_seq ?_
  refine go_region ?_
  refine gM rfl rfl ?_
  refine gr rfl (r_fa (ot rfl) (fa_23_0 _ _)) ?_
  refine gr rfl (r_load (ot rfl) (lm_s (mem_seg 0 rfl) ag_9 rfl)) ?_
  refine gr rfl (r_bin (ot rfl) (ot rfl) rfl) ?_
  refine gM rfl rfl ?_
  refine grt rfl rfl rfl rfl (r_fa (ot rfl) (fa_23_1 _ _)) ?_
  refine grt rfl rfl rfl rfl (r_load (og rfl id) (lm_s (mem_seg 0 rfl) ag_9 rfl)) ?_
  refine grt rfl rfl rfl rfl (r_bin (og rfl id) (oc rfl) rfl) ?_
  refine grt rfl rfl rfl rfl (r_move (og rfl id)) ?_
  refine grf' rfl rfl rfl rfl (r_move (ot rfl)) ?_
  refine grf' rfl rfl rfl rfl (r_fa (ot rfl) (fa_23_1 _ _)) ?_
  refine grf' rfl rfl rfl rfl (r_load (og rfl id) (lm_s (mem_seg 0 rfl) ag_9 rfl)) ?_
  refine grf' rfl rfl rfl rfl (r_bin (og rfl id) (og rfl id) rfl) ?_
  refine grt rfl rfl rfl rfl (r_pickb (og rfl id) (oc rfl) (og rfl id)) ?_
  refine gr rfl (r_pickb (ot rfl) (og rfl id) (oc rfl)) ?_
  refine gA rfl rfl ?_
  refine go_nil ?_
  obtain rfl := someI hF
  exact g_ret (rst rfl rs0) (fun h1 hf hs => ⟨hs.hext, rfl⟩)
theorem s_ref05_Filter {h : Heap} (hw : Wf h) (p0 : (List TEvent)) (p1 : TRange) {a0_0 : Option Addr} {c0_0 : Nat} (f0_0 : RL R_TEvent h a0_0 c0_0 p0) {r : (List TEvent)} (hF : F_ref05_Filter p0 p1 = some r) :
    Ev EE 23 [.slice a0_0 p0.length c0_0, .agg #[.string p1.From, .string p1.To]] h (fun v h1 => ∃ a0 c0, v = .slice a0 r.length c0 ∧ RL R_TEvent h1 a0 c0 r) := by
  unfold F_ref05_Filter at hF
  refine ev_of hw rfl at_23 rfl rfl (go_seg0 ?_)
  refine go_seq ?_
  refine go_region ?_
  refine gs_box rfl (ot rfl) rfl ?_; intro b3_1
  refine gAc rfl rfl ?_
  refine go_nil ?_
  refine go_seq ?_
  refine go_region ?_
  refine gAc rfl rfl ?_
  refine go_nil ?_
  refine go_seq ?_
  refine go_seq ?_
  refine go_region ?_
  refine gAc rfl rfl ?_
  refine go_nil ?_
  replace hF := obind hF
  obtain ⟨s2, hF, hK2⟩ := hF
  refine go_joinc (β := Option Addr × List Blk) (fun s h' => AccR R_TEvent 77 h' s.2 (.slice s.1 s2.length s2.length) s2) (fun s => [(4, true, .slice none 0 0), (5, true, .slice s.1 s2.length s2.length)]) (fun s => (List.flatten [s.2, [⟨b3_1, .cells [.string p1.From, .string p1.To] 23⟩]] : List Blk)) ?_ (fun J2 => ?_)
  ·
    rintro ⟨a2_0, a2_1⟩ h2 e2 w2 f2_0
    replace hF := hK2
    refine go_seq ?_
    refine go_region ?_
    refine gM rfl rfl ?_
    refine gA rfl rfl ?_
    refine go_nil ?_
    refine gs_accpub .z f2_0 (fun h3 e3 w3 f3_ => ?_) rfl
    obtain rfl := someI hF
    exact g_ret (rst rfl rs0) (fun h1 hf hs => ⟨(e2.trans (e3.trans hs.hext)), ⟨_, _, rfl, (f3_.ext hs.hext.kn)⟩⟩)
  ·
    refine go_block ?_
    refine go_loop (α := (List TEvent) × Nat × (List TEvent) × Option Addr × List Blk × Heap) (fun a => a.1 = List.drop a.2.1 p0 ∧ HExt h a.2.2.2.2.2 ∧ Wf a.2.2.2.2.2 ∧ F_ref05_Filter_L1 p1 a.1 a.2.1 a.2.2.1 = some s2 ∧ AccR R_TEvent 77 a.2.2.2.2.2 a.2.2.2.2.1 (.slice a.2.2.2.1 a.2.2.1.length a.2.2.1.length) a.2.2.1) (fun a => a.1.length) (fun a => [(0, true, .slice a0_0 p0.length c0_0), (3, true, .pointer (some ⟨b3_1, 0, none⟩)), (4, true, .slice none 0 0), (5, true, .slice a.2.2.2.1 a.2.2.1.length a.2.2.1.length), (6, true, .int .i64 (a.2.1 : Int))]) (fun a => (List.flatten [a.2.2.2.2.1, [⟨b3_1, .cells [.string p1.From, .string p1.To] 23⟩]] : List Blk)) (fun a => a.2.2.2.2.2) ?_ (p0, 0, ([] : List TEvent), none, [], h) ⟨rfl, HExt.refl _, hw, hF, (AccR.nil _ _ _)⟩ (Sub.cons (Sub.cons (Sub.cons (Sub.cons (Sub.cons (Sub.nil _) rfl) rfl) rfl) rfl) rfl) rfl rfl
    rintro ⟨r4, i4, y4_0, a4_0, a4_1, h4⟩ ⟨hr4, e4, w4, hF, f4_0⟩ ih4
    rcases r4 with _ | ⟨z4, r4⟩
    ·
      have hi4 := drop_nil hr4
      rw [F_ref05_Filter_L1.eq_1] at hF
      refine go_seq ?_
      refine go_seq ?_
      refine go_region ?_
      refine gM rfl rfl ?_
      refine gM rfl rfl ?_
      refine gr rfl (r_len rfl (os1 (ot rfl) os0) (fun _ _ => ln_30)) ?_
      refine gr rfl (r_bin (ot rfl) (ot rfl) rfl) ?_
      refine go_cast (.bool false) (congrArg Value.bool (decide_eq_false hi4)) ?_
      refine go_nil ?_
      refine g_cond (b := false) (ot rfl) (fun hc5 => ?_) (fun hc5 => ?_)
      · cases hc5
      refine go_exit rfl ?_
      obtain rfl := someI hF
      exact Goes.weak (J2 (a4_0, a4_1) _ e4 w4 f4_0) (Sub.cons (Sub.cons (Sub.nil _) rfl) rfl)
    ·
      obtain ⟨hi4, hx4, hr4⟩ := drop_cons hr4
      have hb4 := (f0_0.ext e4.kn).1
      rw [F_ref05_Filter_L1.eq_2] at hF
      refine go_seq ?_
      refine go_seq ?_
      refine go_region ?_
      refine gM rfl rfl ?_
      refine gM rfl rfl ?_
      refine gr rfl (r_len rfl (os1 (ot rfl) os0) (fun _ _ => ln_30)) ?_
      refine gr rfl (r_bin (ot rfl) (ot rfl) rfl) ?_
      refine go_cast (.bool true) (congrArg Value.bool (decide_eq_true (Int.ofNat_lt.mpr hi4))) ?_
      refine go_nil ?_
      refine g_cond (b := true) (ot rfl) (fun hc6 => ?_) (fun hc6 => ?_)
      rotate_left
      · cases hc6
      refine go_skip ?_
      refine go_seq ?_
      refine go_block ?_
      refine go_seq ?_
      refine go_regions (L := [(0, []), (1, []), (2, []), (3, []), (4, []), (5, []), (6, [])]) (by kernel_rfl) (by kernel_rfl) (fun _ => rfl) ?_
      refine go_sop rfl rfl ?_
      refine gr rfl (r_load (ot rfl) (lm_w (mem_seg 1 rfl) ag_23 sz_23 rfl)) ?_
      refine go_nil ?_
      refine go_sop rfl rfl ?_
      refine gM rfl rfl ?_
      refine go_nil ?_
      refine go_sop rfl rfl ?_
      refine gM rfl rfl ?_
      refine go_nil ?_
      refine go_sop rfl rfl ?_
      obtain ⟨q7, row7, i7, cl7, rc7, sp7⟩ := ix (ik := .i64) (cap := c0_0) (E := EE) (f0_0.ext e4.kn) ((getI_nat _ _).trans hx4) ut_30 sz_77 rfl
      obtain rfl := rc7
      refine gr rfl (r_ia (ot rfl) (ot rfl) i7) ?_
      refine go_nil ?_
      refine go_sop rfl rfl ?_
      refine gr rfl (r_fa (ot rfl) (fs_77_1 sp7)) ?_
      refine go_nil ?_
      refine go_sop rfl rfl ?_
      refine gr rfl (r_load (ot rfl) (v := .string z4.Key) (lo_e (fun hf kn => ld_field (r := [.int .i64 z4.Rev, .string z4.Key, .string z4.Val, .bool z4.Del]) ag_9 (kn.cellsAt cl7) rfl))) ?_
      refine go_nil ?_
      refine go_sop rfl rfl ?_
      replace hF := obind hF
      obtain ⟨x8, hx8, hF⟩ := hF
      refine g_callp (v := .bool x8) EE_fr rfl of (os1 (ot rfl) (os1 (ot rfl) os0)) hb_48 (fun _ => rfl) (fun hf kn w => by exact s_ref04_In w p1 z4.Key  hx8) ?_
      refine go_nil ?_
      refine go_snil ?_
      replace hF := obind hF
      obtain ⟨s10, hF, hK10⟩ := hF
      refine go_joinc (β := Option Addr × List Blk) (fun s h' => AccR R_TEvent 77 h' s.2 (.slice s.1 s10.length s10.length) s10) (fun s => [(0, true, .slice a0_0 p0.length c0_0), (3, true, .pointer (some ⟨b3_1, 0, none⟩)), (4, true, .slice none 0 0), (5, true, .slice s.1 s10.length s10.length), (6, true, .int .i64 (i4 : Int)), (7, true, .int .i64 (i4 : Int)), (8, true, .slice a0_0 p0.length c0_0), (9, true, .int .i64 (p0.length : Int)), (10, true, .bool true), (13, true, .agg #[.string p1.From, .string p1.To]), (14, true, .slice a0_0 p0.length c0_0), (15, true, .int .i64 (i4 : Int)), (16, true, .pointer (some q7)), (17, true, .pointer (some ⟨q7.block, q7.off + 1, q7.spot⟩)), (18, true, .string z4.Key), (19, true, .bool x8)]) (fun s => (List.flatten [s.2, [⟨b3_1, .cells [.string p1.From, .string p1.To] 23⟩]] : List Blk)) ?_ (fun J10 => ?_)
      ·
        rintro ⟨a10_0, a10_1⟩ h10 e10 w10 f10_0
        replace hF := hK10
        refine go_endb ?_
        refine go_region ?_
        refine gM rfl rfl ?_
        refine gr rfl (r_bin (ot rfl) (oc rfl) rfl) ?_
        refine gA rfl rfl ?_
        refine go_nil ?_
        refine go_re 6 (v2 := .int .i64 ((i4 + 1 : Nat) : Int)) rfl (wrap_succ hi4 hb4) ?_
        exact Goes.weak (ih4 (r4, i4 + 1, s10, a10_0, a10_1, h10) ⟨hr4, (e4.trans e10), w10, hF, f10_0⟩ (Nat.lt_succ_self _)) (Sub.cons (Sub.cons (Sub.cons (Sub.cons (Sub.cons (Sub.nil _) rfl) rfl) rfl) rfl) rfl)
      ·
        refine g_cond (b := x8) (ot rfl) (fun hc9 => ?_) (fun hc9 => ?_)
        ·
          replace hF := ifT hc9 hF
          refine go_region ?_
          refine gM rfl rfl ?_
          refine gM rfl rfl ?_
          refine gM rfl rfl ?_
          obtain ⟨q11, row11, i11, cl11, rc11, sp11⟩ := ix (ik := .i64) (cap := c0_0) (E := EE) (f0_0.ext e4.kn) ((getI_nat _ _).trans hx4) ut_30 sz_77 rfl
          obtain rfl := rc11
          refine gr rfl (r_ia (ot rfl) (ot rfl) i11) ?_
          refine gr rfl (r_load (ot rfl) (v := .agg #[.int .i64 z4.Rev, .string z4.Key, .string z4.Val, .bool z4.Del]) (lo_e (fun hf kn => ld_of (r := [.int .i64 z4.Rev, .string z4.Key, .string z4.Val, .bool z4.Del]) ag_77 sz_77 (kn.cellsAt cl11)))) ?_
          refine gs_bslice (cs := [.int .i64 z4.Rev, .string z4.Key, .string z4.Val, .bool z4.Del]) rfl (op1 (ot rfl) op0) ut_30 sz_77 zo_77 rfl rfl ?_; intro b25_12
          replace hF := obind hF
          obtain ⟨x13, hx13, hF⟩ := hF
          obtain ⟨hr13, hz13_⟩ := appL_some hx13; subst x13
          refine gs_front (.s (.z)) ?_
          refine gs_app (rows2 := [[.int .i64 z4.Rev, .string z4.Key, .string z4.Val, .bool z4.Del]]) (R := R_TEvent) rfl (os1 (ot rfl) (os1 (ot rfl) os0)) rfl ut_30 sz_77 rfl (by decide) by_77 zo_77 rfl zs_30_30 rfl rfl (first_m (mem_seg 1 rfl) rfl (by decide)) (Rws.one (x := z4) rfl) f4_0 hr13 (fun p13_ tl13 f13_ => ?_)
          refine gA rfl rfl ?_
          refine go_nil ?_
          obtain rfl := someI hF
          refine gs_sub (.cons_cons _ (.cons _ (.cons_cons _ (.refl _)))) ?_
          exact Goes.weak (J10 (p13_, tl13) _ (HExt.refl _) w4 f13_) (Sub.cons (Sub.cons (Sub.cons (Sub.cons (Sub.cons (Sub.cons (Sub.cons (Sub.cons (Sub.cons (Sub.cons (Sub.cons (Sub.cons (Sub.cons (Sub.cons (Sub.cons (Sub.cons (Sub.nil _) rfl) rfl) rfl) rfl) rfl) rfl) rfl) rfl) rfl) rfl) rfl) rfl) rfl) rfl) rfl) rfl)
        ·
          replace hF := ifF hc9 hF
          refine go_skip ?_
          obtain rfl := someI hF
          exact Goes.weak (J10 (a4_0, a4_1) _ (HExt.refl _) w4 f4_0) (Sub.cons (Sub.cons (Sub.cons (Sub.cons (Sub.cons (Sub.cons (Sub.cons (Sub.cons (Sub.cons (Sub.cons (Sub.cons (Sub.cons (Sub.cons (Sub.cons (Sub.cons (Sub.cons (Sub.nil _) rfl) rfl) rfl) rfl) rfl) rfl) rfl) rfl) rfl) rfl) rfl) rfl) rfl) rfl) rfl) rfl)
theorem s_ref05_One (n : Nat) {h : Heap} (hw : Wf h) (p0 : (List TKV)) (p1 : TEvent) {a0_0 : Option Addr} {c0_0 : Nat} (f0_0 : RL R_TKV h a0_0 c0_0 p0) {r : (List TKV)} (hF : F_ref05_One n p0 p1 = some r) :
    Ev EE 49 [.slice a0_0 p0.length c0_0, .agg #[.int .i64 p1.Rev, .string p1.Key, .string p1.Val, .bool p1.Del]] h (fun v h1 => ∃ a0 c0, v = .slice a0 r.length c0 ∧ RL R_TKV h1 a0 c0 r) := by
  unfold F_ref05_One at hF
  refine ev_of hw rfl at_49 rfl rfl (go_seg0 ?_)
  refine go_seq ?_
  refine go_region ?_
  refine gs_box rfl (ot rfl) rfl ?_; intro b3_1
  refine gAc rfl rfl ?_
  refine go_nil ?_
  refine go_seq ?_
  refine go_region ?_
  refine gAc rfl rfl ?_
  refine go_nil ?_
  refine go_seq ?_
  refine go_region ?_
  refine gAc rfl rfl ?_
  refine go_nil ?_
  refine go_seq ?_
  replace hF := obind hF
  obtain ⟨s2, hF, hK2⟩ := hF
  refine go_joinc (β := Option Addr × List Blk) (fun s h' => AccR R_TKV 100 h' s.2 (.slice s.1 s2.1.length s2.1.length) s2.1) (fun s => [(0, true, .slice a0_0 p0.length c0_0), (3, true, .pointer (some ⟨b3_1, 0, none⟩)), (4, true, .slice none 0 0), (5, true, .slice s.1 s2.1.length s2.1.length), (6, true, .int .i64 s2.2)]) (fun s => (List.flatten [s.2, [⟨b3_1, .cells [.int .i64 p1.Rev, .string p1.Key, .string p1.Val, .bool p1.Del] 77⟩]] : List Blk)) ?_ (fun J2 => ?_)
  ·
    rintro ⟨a2_0, a2_1⟩ h2 e2 w2 f2_0
    replace hF := hK2
    refine go_seq ?_
    refine go_seq ?_
    refine go_region ?_
    refine gr rfl (r_fa (ot rfl) (fa_77_3 _ _)) ?_
    refine gr rfl (r_load (ot rfl) (lm_s (mem_seg 1 rfl) ag_4 rfl)) ?_
    refine gr rfl (r_un (ot rfl) rfl) ?_
    refine go_nil ?_
    replace hF := obind hF
    obtain ⟨s4, hF, hK4⟩ := hF
    refine go_joinc (β := Option Addr × List Blk) (fun s h' => AccR R_TKV 100 h' s.2 (.slice s.1 s4.length s4.length) s4) (fun s => [(0, true, .slice a0_0 p0.length c0_0), (3, true, .pointer (some ⟨b3_1, 0, none⟩)), (4, true, .slice none 0 0), (5, true, .slice s.1 s4.length s4.length), (6, true, .int .i64 s2.2)]) (fun s => (List.flatten [s.2, [⟨b3_1, .cells [.int .i64 p1.Rev, .string p1.Key, .string p1.Val, .bool p1.Del] 77⟩]] : List Blk)) ?_ (fun J4 => ?_)
    ·
      rintro ⟨a4_0, a4_1⟩ h4 e4 w4 f4_0
      replace hF := hK4
      refine go_seq ?_
      refine go_seq ?_
      refine go_region ?_
      refine gM rfl rfl ?_
      refine gA rfl rfl ?_
      refine go_nil ?_
      replace hF := obind hF
      obtain ⟨s5, hF, hK5⟩ := hF
      refine go_joinc (β := Option Addr × List Blk) (fun s h' => AccR R_TKV 100 h' s.2 (.slice s.1 s5.length s5.length) s5) (fun s => [(4, true, .slice none 0 0), (5, true, .slice s.1 s5.length s5.length)]) (fun s => (List.flatten [s.2, [⟨b3_1, .cells [.int .i64 p1.Rev, .string p1.Key, .string p1.Val, .bool p1.Del] 77⟩]] : List Blk)) ?_ (fun J5 => ?_)
      ·
        rintro ⟨a5_0, a5_1⟩ h5 e5 w5 f5_0
        replace hF := hK5
        refine go_seq ?_
        refine go_region ?_
        refine gM rfl rfl ?_
        refine gA rfl rfl ?_
        refine go_nil ?_
        refine gs_accpub .z f5_0 (fun h6 e6 w6 f6_ => ?_) rfl
        obtain rfl := someI hF
        exact g_ret (rst rfl rs0) (fun h1 hf hs => ⟨(e2.trans (e4.trans (e5.trans (e6.trans hs.hext)))), ⟨_, _, rfl, (f6_.ext hs.hext.kn)⟩⟩)
      ·
        refine go_block ?_
        refine go_loop (α := Nat × (List TKV) × Int × Option Addr × List Blk × Heap) (fun a => HExt h4 a.2.2.2.2.2 ∧ Wf a.2.2.2.2.2 ∧ F_ref05_One_L1 p0 p1 a.1 a.2.1 a.2.2.1 = some s5 ∧ AccR R_TKV 100 a.2.2.2.2.2 a.2.2.2.2.1 (.slice a.2.2.2.1 a.2.1.length a.2.1.length) a.2.1) (fun a => a.1) (fun a => [(0, true, .slice a0_0 p0.length c0_0), (3, true, .pointer (some ⟨b3_1, 0, none⟩)), (4, true, .slice none 0 0), (5, true, .slice a.2.2.2.1 a.2.1.length a.2.1.length), (7, true, .int .i64 a.2.2.1)]) (fun a => (List.flatten [a.2.2.2.2.1, [⟨b3_1, .cells [.int .i64 p1.Rev, .string p1.Key, .string p1.Val, .bool p1.Del] 77⟩]] : List Blk)) (fun a => a.2.2.2.2.2) ?_ (n, s4, s2.2, a4_0, a4_1, h4) ⟨HExt.refl _, w4, hF, f4_0⟩ (Sub.cons (Sub.cons (Sub.cons (Sub.cons (Sub.cons (Sub.nil _) rfl) rfl) rfl) rfl) rfl) rfl rfl
        rintro ⟨m7, y7_0, y7_1, a7_0, a7_1, h7⟩ ⟨e7, w7, hF, f7_0⟩ ih7
        rcases m7 with _ | m7
        ·
          rw [F_ref05_One_L1.eq_1] at hF; cases hF
        ·
          rw [F_ref05_One_L1.eq_2] at hF
          refine go_seq ?_
          refine go_seq ?_
          refine go_region ?_
          refine gM rfl rfl ?_
          refine gM rfl rfl ?_
          refine gr rfl (r_len rfl (os1 (ot rfl) os0) (fun _ _ => ln_57)) ?_
          refine gr rfl (r_bin (ot rfl) (ot rfl) rfl) ?_
          refine go_nil ?_
          refine g_cond (b := (decide (y7_1 < (p0.length : Int)))) (ot rfl) (fun hc8 => ?_) (fun hc8 => ?_)
          ·
            replace hF := ifT hc8 hF
            refine go_skip ?_
            refine go_seq ?_
            refine go_block ?_
            refine go_seq ?_
            refine go_regionq (by kernel_rfl) ?_
            refine gM rfl rfl ?_
            refine gM rfl rfl ?_
            replace hF := obind hF
            obtain ⟨x9, hx9, hF⟩ := hF
            obtain ⟨q9, row9, i9, cl9, rc9, sp9⟩ := ix (ik := .i64) (cap := c0_0) (E := EE) (((f0_0.ext e2.kn).ext e4.kn).ext e7.kn) hx9 ut_57 sz_100 rfl
            obtain rfl := rc9
            refine gr rfl (r_ia (ot rfl) (ot rfl) i9) ?_
            refine gr rfl (r_fa (ot rfl) (fs_100_0 sp9)) ?_
            refine gr rfl (r_load (ot rfl) (v := .string x9.Key) (lo_e (fun hf kn => ld_field (r := [.string x9.Key, .string x9.Val, .int .i64 x9.Rev]) ag_9 (kn.cellsAt cl9) rfl))) ?_
            refine gr rfl (r_fa (ot rfl) (fa_77_1 _ _)) ?_
            refine gr rfl (r_load (ot rfl) (lm_s (mem_seg 1 rfl) ag_9 rfl)) ?_
            refine gr rfl (r_bin (ot rfl) (ot rfl) rfl) ?_
            refine go_nil ?_
            replace hF := obind hF
            obtain ⟨s11, hF, hK11⟩ := hF
            refine go_joinc (β := Option Addr × List Blk) (fun s h' => AccR R_TKV 100 h' s.2 (.slice s.1 s11.length s11.length) s11) (fun s => [(0, true, .slice a0_0 p0.length c0_0), (3, true, .pointer (some ⟨b3_1, 0, none⟩)), (4, true, .slice none 0 0), (5, true, .slice s.1 s11.length s11.length), (7, true, .int .i64 y7_1), (45, true, .int .i64 y7_1), (46, true, .slice a0_0 p0.length c0_0), (47, true, .int .i64 (p0.length : Int)), (48, true, .bool (decide (y7_1 < (p0.length : Int)))), (51, true, .slice a0_0 p0.length c0_0), (52, true, .int .i64 y7_1), (53, true, .pointer (some q9)), (54, true, .pointer (some ⟨q9.block, q9.off + 0, q9.spot⟩)), (55, true, .string x9.Key), (56, true, .pointer (some ⟨b3_1, 1, none⟩)), (57, true, .string p1.Key), (58, true, .bool (!eqB x9.Key p1.Key))]) (fun s => (List.flatten [s.2, [⟨b3_1, .cells [.int .i64 p1.Rev, .string p1.Key, .string p1.Val, .bool p1.Del] 77⟩]] : List Blk)) ?_ (fun J11 => ?_)
            ·
              rintro ⟨a11_0, a11_1⟩ h11 e11 w11 f11_0
              replace hF := hK11
              refine go_endb ?_
              refine go_region ?_
              refine gM rfl rfl ?_
              refine gr rfl (r_bin (ot rfl) (oc rfl) rfl) ?_
              refine gA rfl rfl ?_
              refine go_nil ?_
              exact Goes.weak (ih7 (m7, s11, (IntKind.i64.wrap (y7_1 + 1)), a11_0, a11_1, h11) ⟨(e7.trans e11), w11, hF, f11_0⟩ (Nat.lt_succ_self _)) (Sub.cons (Sub.cons (Sub.cons (Sub.cons (Sub.cons (Sub.nil _) rfl) rfl) rfl) rfl) rfl)
            ·
              refine g_cond (b := (!eqB x9.Key p1.Key)) (ot rfl) (fun hc10 => ?_) (fun hc10 => ?_)
              ·
                replace hF := ifT hc10 hF
                refine go_region ?_
                refine gM rfl rfl ?_
                refine gM rfl rfl ?_
                refine gM rfl rfl ?_
                replace hF := obind hF
                obtain ⟨x12, hx12, hF⟩ := hF
                obtain ⟨q12, row12, i12, cl12, rc12, sp12⟩ := ix (ik := .i64) (cap := c0_0) (E := EE) (((f0_0.ext e2.kn).ext e4.kn).ext e7.kn) hx12 ut_57 sz_100 rfl
                obtain rfl := rc12
                refine gr rfl (r_ia (ot rfl) (ot rfl) i12) ?_
                refine gr rfl (r_load (ot rfl) (v := .agg #[.string x12.Key, .string x12.Val, .int .i64 x12.Rev]) (lo_e (fun hf kn => ld_of (r := [.string x12.Key, .string x12.Val, .int .i64 x12.Rev]) ag_100 sz_100 (kn.cellsAt cl12)))) ?_
                refine gs_bslice (cs := [.string x12.Key, .string x12.Val, .int .i64 x12.Rev]) rfl (op1 (ot rfl) op0) ut_57 sz_100 zo_100 rfl rfl ?_; intro b64_13
                replace hF := obind hF
                obtain ⟨x14, hx14, hF⟩ := hF
                obtain ⟨hr14, hz14_⟩ := appL_some hx14; subst x14
                refine gs_front (.s (.z)) ?_
                refine gs_app (rows2 := [[.string x12.Key, .string x12.Val, .int .i64 x12.Rev]]) (R := R_TKV) rfl (os1 (ot rfl) (os1 (ot rfl) os0)) rfl ut_57 sz_100 rfl (by decide) by_100 zo_100 rfl zs_57_57 rfl rfl (first_m (mem_seg 1 rfl) rfl (by decide)) (Rws.one (x := x12) rfl) f7_0 hr14 (fun p14_ tl14 f14_ => ?_)
                refine gA rfl rfl ?_
                refine go_nil ?_
                obtain rfl := someI hF
                refine gs_sub (.cons_cons _ (.cons _ (.cons_cons _ (.refl _)))) ?_
                exact Goes.weak (J11 (p14_, tl14) _ (HExt.refl _) w7 f14_) (Sub.cons (Sub.cons (Sub.cons (Sub.cons (Sub.cons (Sub.cons (Sub.cons (Sub.cons (Sub.cons (Sub.cons (Sub.cons (Sub.cons (Sub.cons (Sub.cons (Sub.cons (Sub.cons (Sub.cons (Sub.nil _) rfl) rfl) rfl) rfl) rfl) rfl) rfl) rfl) rfl) rfl) rfl) rfl) rfl) rfl) rfl) rfl) rfl)
              ·
                replace hF := ifF hc10 hF
                refine go_skip ?_
                obtain rfl := someI hF
                exact Goes.weak (J11 (a7_0, a7_1) _ (HExt.refl _) w7 f7_0) (Sub.cons (Sub.cons (Sub.cons (Sub.cons (Sub.cons (Sub.cons (Sub.cons (Sub.cons (Sub.cons (Sub.cons (Sub.cons (Sub.cons (Sub.cons (Sub.cons (Sub.cons (Sub.cons (Sub.cons (Sub.nil _) rfl) rfl) rfl) rfl) rfl) rfl) rfl) rfl) rfl) rfl) rfl) rfl) rfl) rfl) rfl) rfl) rfl)
          ·
            replace hF := ifF hc8 hF
            refine go_exit rfl ?_
            obtain rfl := someI hF
            exact Goes.weak (J5 (a7_0, a7_1) _ e7 w7 f7_0) (Sub.cons (Sub.cons (Sub.nil _) rfl) rfl)
    ·
      refine g_cond (b := (!p1.Del)) (ot rfl) (fun hc3 => ?_) (fun hc3 => ?_)
      ·
        replace hF := ifT hc3 hF
        refine go_region ?_
        refine gM rfl rfl ?_
        refine gr rfl (r_fa (ot rfl) (fa_77_1 _ _)) ?_
        refine gr rfl (r_load (ot rfl) (lm_s (mem_seg 1 rfl) ag_9 rfl)) ?_
        refine gr rfl (r_fa (ot rfl) (fa_77_2 _ _)) ?_
        refine gr rfl (r_load (ot rfl) (lm_s (mem_seg 1 rfl) ag_9 rfl)) ?_
        refine gr rfl (r_fa (ot rfl) (fa_77_0 _ _)) ?_
        refine gr rfl (r_load (ot rfl) (lm_s (mem_seg 1 rfl) ag_3 rfl)) ?_
        refine gr rfl (r_build (op1 (ot rfl) (op1 (ot rfl) (op1 (ot rfl) op0))) rfl) ?_
        refine gs_bslice (cs := [.string p1.Key, .string p1.Val, .int .i64 p1.Rev]) rfl (op1 (ot rfl) op0) ut_57 sz_100 zo_100 rfl rfl ?_; intro b42_15
        replace hF := obind hF
        obtain ⟨x16, hx16, hF⟩ := hF
        obtain ⟨hr16, hz16_⟩ := appL_some hx16; subst x16
        refine gs_front (.s (.z)) ?_
        refine gs_app (rows2 := [[.string p1.Key, .string p1.Val, .int .i64 p1.Rev]]) (R := R_TKV) rfl (os1 (ot rfl) (os1 (ot rfl) os0)) rfl ut_57 sz_100 rfl (by decide) by_100 zo_100 rfl zs_57_57 rfl rfl (first_m (mem_seg 1 rfl) rfl (by decide)) (Rws.one (x := (⟨p1.Key, p1.Val, p1.Rev⟩ : TKV)) rfl) f2_0 hr16 (fun p16_ tl16 f16_ => ?_)
        refine gA rfl rfl ?_
        refine go_nil ?_
        obtain rfl := someI hF
        refine gs_sub (.cons_cons _ (.cons _ (.cons_cons _ (.refl _)))) ?_
        exact Goes.weak (J4 (p16_, tl16) _ (HExt.refl _) w2 f16_) (Sub.cons (Sub.cons (Sub.cons (Sub.cons (Sub.cons (Sub.nil _) rfl) rfl) rfl) rfl) rfl)
      ·
        replace hF := ifF hc3 hF
        refine go_skip ?_
        obtain rfl := someI hF
        exact Goes.weak (J4 (a2_0, a2_1) _ (HExt.refl _) w2 f2_0) (Sub.cons (Sub.cons (Sub.cons (Sub.cons (Sub.cons (Sub.nil _) rfl) rfl) rfl) rfl) rfl)
  ·
    refine go_block ?_
    refine go_loop (α := (List TKV) × Nat × (List TKV) × Option Addr × List Blk × Heap) (fun a => a.1 = List.drop a.2.1 p0 ∧ HExt h a.2.2.2.2.2 ∧ Wf a.2.2.2.2.2 ∧ F_ref05_One_L2 p1 a.1 a.2.1 a.2.2.1 = some s2 ∧ AccR R_TKV 100 a.2.2.2.2.2 a.2.2.2.2.1 (.slice a.2.2.2.1 a.2.2.1.length a.2.2.1.length) a.2.2.1) (fun a => a.1.length) (fun a => [(0, true, .slice a0_0 p0.length c0_0), (3, true, .pointer (some ⟨b3_1, 0, none⟩)), (4, true, .slice none 0 0), (5, true, .slice a.2.2.2.1 a.2.2.1.length a.2.2.1.length), (6, true, .int .i64 (a.2.1 : Int))]) (fun a => (List.flatten [a.2.2.2.2.1, [⟨b3_1, .cells [.int .i64 p1.Rev, .string p1.Key, .string p1.Val, .bool p1.Del] 77⟩]] : List Blk)) (fun a => a.2.2.2.2.2) ?_ (p0, 0, ([] : List TKV), none, [], h) ⟨rfl, HExt.refl _, hw, hF, (AccR.nil _ _ _)⟩ (Sub.cons (Sub.cons (Sub.cons (Sub.cons (Sub.cons (Sub.nil _) rfl) rfl) rfl) rfl) rfl) rfl rfl
    rintro ⟨r17, i17, y17_0, a17_0, a17_1, h17⟩ ⟨hr17, e17, w17, hF, f17_0⟩ ih17
    rcases r17 with _ | ⟨z17, r17⟩
    ·
      have hi17 := drop_nil hr17
      rw [F_ref05_One_L2.eq_1] at hF
      refine go_seq ?_
      refine go_seq ?_
      refine go_regionq (by kernel_rfl) ?_
      refine gM rfl rfl ?_
      refine gM rfl rfl ?_
      refine gr rfl (r_len rfl (os1 (ot rfl) os0) (fun _ _ => ln_57)) ?_
      refine gr rfl (r_bin (ot rfl) (ot rfl) rfl) ?_
      refine go_cast (.bool false) (congrArg Value.bool (decide_eq_false hi17)) ?_
      refine gM rfl rfl ?_
      refine g_no rfl rfl rfl rfl rfl ?_
      refine g_no rfl rfl rfl rfl rfl ?_
      refine g_no rfl rfl rfl rfl rfl ?_
      refine g_no rfl rfl rfl rfl rfl ?_
      refine g_no rfl rfl rfl rfl rfl ?_
      refine g_no rfl rfl rfl rfl rfl ?_
      refine g_no rfl rfl rfl rfl rfl ?_
      refine g_no rfl rfl rfl rfl rfl ?_
      refine gr rfl (r_pkF (ot rfl) (oc rfl)) ?_
      refine go_nil ?_
      refine g_cond (b := false) (ot rfl) (fun hc18 => ?_) (fun hc18 => ?_)
      · cases hc18
      refine go_exit rfl ?_
      obtain rfl := someI hF
      exact Goes.weak (J2 (a17_0, a17_1) _ e17 w17 f17_0) (Sub.cons (Sub.cons (Sub.cons (Sub.cons (Sub.cons (Sub.nil _) rfl) rfl) rfl) rfl) rfl)
    ·
      obtain ⟨hi17, hx17, hr17⟩ := drop_cons hr17
      have hb17 := (f0_0.ext e17.kn).1
      rw [F_ref05_One_L2.eq_2] at hF
      refine go_seq ?_
      refine go_seq ?_
      refine go_regionq (by kernel_rfl) ?_
      refine gM rfl rfl ?_
      refine gM rfl rfl ?_
      refine gr rfl (r_len rfl (os1 (ot rfl) os0) (fun _ _ => ln_57)) ?_
      refine gr rfl (r_bin (ot rfl) (ot rfl) rfl) ?_
      refine go_cast (.bool true) (congrArg Value.bool (decide_eq_true (Int.ofNat_lt.mpr hi17))) ?_
      refine gM rfl rfl ?_
      refine g_do rfl rfl rfl ?_
      refine gM rfl rfl ?_
      refine g_do rfl rfl rfl ?_
      refine gM rfl rfl ?_
      refine g_do rfl rfl rfl ?_
      obtain ⟨q19, row19, i19, cl19, rc19, sp19⟩ := ix (ik := .i64) (cap := c0_0) (E := EE) (f0_0.ext e17.kn) ((getI_nat _ _).trans hx17) ut_57 sz_100 rfl
      obtain rfl := rc19
      refine gr rfl (r_ia (ot rfl) (ot rfl) i19) ?_
      refine g_do rfl rfl rfl ?_
      refine gr rfl (r_fa (ot rfl) (fs_100_0 sp19)) ?_
      refine g_do rfl rfl rfl ?_
      refine gr rfl (r_load (ot rfl) (v := .string z17.Key) (lo_e (fun hf kn => ld_field (r := [.string z17.Key, .string z17.Val, .int .i64 z17.Rev]) ag_9 (kn.cellsAt cl19) rfl))) ?_
      refine g_do rfl rfl rfl ?_
      refine gr rfl (r_fa (ot rfl) (fa_77_1 _ _)) ?_
      refine g_do rfl rfl rfl ?_
      refine gr rfl (r_load (ot rfl) (lm_s (mem_seg 1 rfl) ag_9 rfl)) ?_
      refine g_do rfl rfl rfl ?_
      refine gr rfl (r_bin (ot rfl) (ot rfl) rfl) ?_
      refine gr rfl (r_pkT (ot rfl) (ot rfl)) ?_
      refine go_nil ?_
      refine g_cond (b := (lessB z17.Key p1.Key)) (ot rfl) (fun hc20 => ?_) (fun hc20 => ?_)
      ·
        replace hF := ifT hc20 hF
        refine go_skip ?_
        refine go_block ?_
        refine go_seq ?_
        refine go_region ?_
        refine gM rfl rfl ?_
        refine gM rfl rfl ?_
        refine gM rfl rfl ?_
        obtain ⟨q21, row21, i21, cl21, rc21, sp21⟩ := ix (ik := .i64) (cap := c0_0) (E := EE) (f0_0.ext e17.kn) ((getI_nat _ _).trans hx17) ut_57 sz_100 rfl
        obtain rfl := rc21
        refine gr rfl (r_ia (ot rfl) (ot rfl) i21) ?_
        refine gr rfl (r_load (ot rfl) (v := .agg #[.string z17.Key, .string z17.Val, .int .i64 z17.Rev]) (lo_e (fun hf kn => ld_of (r := [.string z17.Key, .string z17.Val, .int .i64 z17.Rev]) ag_100 sz_100 (kn.cellsAt cl21)))) ?_
        refine gs_bslice (cs := [.string z17.Key, .string z17.Val, .int .i64 z17.Rev]) rfl (op1 (ot rfl) op0) ut_57 sz_100 zo_100 rfl rfl ?_; intro b27_22
        replace hF := obind hF
        obtain ⟨x23, hx23, hF⟩ := hF
        obtain ⟨hr23, hz23_⟩ := appL_some hx23; subst x23
        refine gs_front (.s (.z)) ?_
        refine gs_app (rows2 := [[.string z17.Key, .string z17.Val, .int .i64 z17.Rev]]) (R := R_TKV) rfl (os1 (ot rfl) (os1 (ot rfl) os0)) rfl ut_57 sz_100 rfl (by decide) by_100 zo_100 rfl zs_57_57 rfl rfl (first_m (mem_seg 1 rfl) rfl (by decide)) (Rws.one (x := z17) rfl) f17_0 hr23 (fun p23_ tl23 f23_ => ?_)
        refine gA rfl rfl ?_
        refine go_nil ?_
        refine go_region ?_
        refine gM rfl rfl ?_
        refine gr rfl (r_bin (ot rfl) (oc rfl) rfl) ?_
        refine gA rfl rfl ?_
        refine go_nil ?_
        refine go_endb ?_
        refine gs_sub (.cons_cons _ (.cons _ (.cons_cons _ (.refl _)))) ?_
        refine go_re 6 (v2 := .int .i64 ((i17 + 1 : Nat) : Int)) rfl (wrap_succ hi17 hb17) ?_
        exact Goes.weak (ih17 (r17, i17 + 1, (y17_0 ++ ([z17] : List TKV)), p23_, tl23, h17) ⟨hr17, e17, w17, hF, f23_⟩ (Nat.lt_succ_self _)) (Sub.cons (Sub.cons (Sub.cons (Sub.cons (Sub.cons (Sub.nil _) rfl) rfl) rfl) rfl) rfl)
      ·
        replace hF := ifF hc20 hF
        refine go_exit rfl ?_
        obtain rfl := someI hF
        exact Goes.weak (J2 (a17_0, a17_1) _ e17 w17 f17_0) (Sub.cons (Sub.cons (Sub.cons (Sub.cons (Sub.cons (Sub.nil _) rfl) rfl) rfl) rfl) rfl)
theorem s_ref05_Fold (n : Nat) {h : Heap} (hw : Wf h) (p0 : (List TKV)) (p1 : (List TEvent)) {a0_0 : Option Addr} {c0_0 : Nat} {a1_0 : Option Addr} {c1_0 : Nat} (f0_0 : RL R_TKV h a0_0 c0_0 p0) (f1_0 : RL R_TEvent h a1_0 c1_0 p1) {r : (List TKV)} (hF : F_ref05_Fold n p0 p1 = some r) :
    Ev EE 28 [.slice a0_0 p0.length c0_0, .slice a1_0 p1.length c1_0] h (fun v h1 => ∃ a0 c0, v = .slice a0 r.length c0 ∧ RL R_TKV h1 a0 c0 r) := by
  unfold F_ref05_Fold at hF
  refine ev_of hw rfl at_28 rfl rfl (go_seg0 ?_)
  refine go_seq ?_
  refine go_region ?_
  refine gAc rfl rfl ?_
  refine go_nil ?_
  refine go_seq ?_
  refine go_seq ?_
  refine go_region ?_
  refine gAc rfl rfl ?_
  refine go_nil ?_
  replace hF := obind hF
  obtain ⟨s1, hF, hK1⟩ := hF
  refine go_joinc (β := Option Addr × Nat) (fun s h' => RL R_TKV h' s.1 s.2 s1) (fun s => [(0, true, .slice s.1 s1.length s.2), (4, true, .slice none 0 0)]) (fun s => (List.flatten [] : List Blk)) ?_ (fun J1 => ?_)
  ·
    rintro ⟨a1_0, a1_1⟩ h1 e1 w1 f1_0
    replace hF := hK1
    refine go_seq ?_
    refine go_region ?_
    refine gM rfl rfl ?_
    refine gA rfl rfl ?_
    refine go_nil ?_
    obtain rfl := someI hF
    exact g_ret (rst rfl rs0) (fun h1 hf hs => ⟨(e1.trans hs.hext), ⟨_, _, rfl, (f1_0.ext hs.hext.kn)⟩⟩)
  ·
    refine go_block ?_
    refine go_loop (α := (List TEvent) × Nat × (List TKV) × Option Addr × Nat × Heap) (fun a => a.1 = List.drop a.2.1 p1 ∧ HExt h a.2.2.2.2.2 ∧ Wf a.2.2.2.2.2 ∧ F_ref05_Fold_L1 n a.1 a.2.1 a.2.2.1 = some s1 ∧ RL R_TKV a.2.2.2.2.2 a.2.2.2.1 a.2.2.2.2.1 a.2.2.1) (fun a => a.1.length) (fun a => [(0, true, .slice a.2.2.2.1 a.2.2.1.length a.2.2.2.2.1), (1, true, .slice a1_0 p1.length c1_0), (4, true, .slice none 0 0), (5, true, .int .i64 (a.2.1 : Int))]) (fun a => (List.flatten [] : List Blk)) (fun a => a.2.2.2.2.2) ?_ (p1, 0, p0, a0_0, c0_0, h) ⟨rfl, HExt.refl _, hw, hF, f0_0⟩ (Sub.cons (Sub.cons (Sub.cons (Sub.cons (Sub.nil _) rfl) rfl) rfl) rfl) rfl rfl
    rintro ⟨r2, i2, y2_0, a2_0, a2_1, h2⟩ ⟨hr2, e2, w2, hF, f2_0⟩ ih2
    rcases r2 with _ | ⟨z2, r2⟩
    ·
      have hi2 := drop_nil hr2
      rw [F_ref05_Fold_L1.eq_1] at hF
      refine go_seq ?_
      refine go_seq ?_
      refine go_region ?_
      refine gM rfl rfl ?_
      refine gM rfl rfl ?_
      refine gr rfl (r_len rfl (os1 (ot rfl) os0) (fun _ _ => ln_30)) ?_
      refine gr rfl (r_bin (ot rfl) (ot rfl) rfl) ?_
      refine go_cast (.bool false) (congrArg Value.bool (decide_eq_false hi2)) ?_
      refine go_nil ?_
      refine g_cond (b := false) (ot rfl) (fun hc3 => ?_) (fun hc3 => ?_)
      · cases hc3
      refine go_exit rfl ?_
      obtain rfl := someI hF
      exact Goes.weak (J1 (a2_0, a2_1) _ e2 w2 f2_0) (Sub.cons (Sub.cons (Sub.nil _) rfl) rfl)
    ·
      obtain ⟨hi2, hx2, hr2⟩ := drop_cons hr2
      have hb2 := (f1_0.ext e2.kn).1
      rw [F_ref05_Fold_L1.eq_2] at hF
      refine go_seq ?_
      refine go_seq ?_
      refine go_region ?_
      refine gM rfl rfl ?_
      refine gM rfl rfl ?_
      refine gr rfl (r_len rfl (os1 (ot rfl) os0) (fun _ _ => ln_30)) ?_
      refine gr rfl (r_bin (ot rfl) (ot rfl) rfl) ?_
      refine go_cast (.bool true) (congrArg Value.bool (decide_eq_true (Int.ofNat_lt.mpr hi2))) ?_
      refine go_nil ?_
      refine g_cond (b := true) (ot rfl) (fun hc4 => ?_) (fun hc4 => ?_)
      rotate_left
      · cases hc4
      refine go_skip ?_
      refine go_seq ?_
      refine go_block ?_
      refine go_region ?_
      refine gM rfl rfl ?_
      refine gM rfl rfl ?_
      refine gM rfl rfl ?_
      obtain ⟨q5, row5, i5, cl5, rc5, sp5⟩ := ix (ik := .i64) (cap := c1_0) (E := EE) (f1_0.ext e2.kn) ((getI_nat _ _).trans hx2) ut_30 sz_77 rfl
      obtain rfl := rc5
      refine gr rfl (r_ia (ot rfl) (ot rfl) i5) ?_
      refine gr rfl (r_load (ot rfl) (v := .agg #[.int .i64 z2.Rev, .string z2.Key, .string z2.Val, .bool z2.Del]) (lo_e (fun hf kn => ld_of (r := [.int .i64 z2.Rev, .string z2.Key, .string z2.Val, .bool z2.Del]) ag_77 sz_77 (kn.cellsAt cl5)))) ?_
      replace hF := obind hF
      obtain ⟨x6, hx6, hF⟩ := hF
      refine g_call EE_fr (fun _ h => by cases h; rfl) of (os1 (ot rfl) (os1 (ot rfl) os0)) hb_49 (fun hf kn w => by exact s_ref05_One n w y2_0 z2 (f2_0.ext kn) hx6) ?_
      rintro v6 h6 e6 w6 ⟨a6_0, c6_0, rfl, f6_0⟩
      refine gA rfl rfl ?_
      refine go_nil ?_
      refine go_endb ?_
      refine go_region ?_
      refine gM rfl rfl ?_
      refine gr rfl (r_bin (ot rfl) (oc rfl) rfl) ?_
      refine gA rfl rfl ?_
      refine go_nil ?_
      refine go_re 5 (v2 := .int .i64 ((i2 + 1 : Nat) : Int)) rfl (wrap_succ hi2 hb2) ?_
      exact Goes.weak (ih2 (r2, i2 + 1, x6, a6_0, c6_0, h6) ⟨hr2, (e2.trans e6), w6, hF, f6_0⟩ (Nat.lt_succ_self _)) (Sub.cons (Sub.cons (Sub.cons (Sub.cons (Sub.nil _) rfl) rfl) rfl) rfl)
end Go.Proofs.Ytfgoccdjbgecfaa.V
