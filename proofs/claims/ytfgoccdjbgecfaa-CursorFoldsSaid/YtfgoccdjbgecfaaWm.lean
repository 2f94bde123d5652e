/- Walks.
   No condition: these are laws of the clean machine and of this program. -/
import Derived.Test.YtfgoccdjbgecfaaPT
import Derived.Test.YtfgoccdjbgecfaaWv
import Derived.Test.YtfgoccdjbgecfaaWo
namespace Go.Proofs.Ytfgoccdjbgecfaa.V
open Go
set_option linter.unusedVariables false
set_option linter.unusedSimpArgs false
set_option maxRecDepth 100000
set_option maxHeartbeats 4000000
theorem s_cursor_bad {h : Heap} (hw : Wf h) (p0 : Tcursor_Cursor) (p1 : THead)   {r : Int} (hF : F_cursor_bad p0 p1 = some r) :
    Ev EE 35 [.agg #[.string p0.R.From, .string p0.R.To, .int .i64 p0.Next, .bool p0.Once, .bool p0.Dead], .agg #[.int .i64 p1.Seq, .int .i64 p1.Rev, .int .i64 p1.Hor]] h (fun v _ => v = .int .i64 r) := by
  unfold F_cursor_bad at hF
  refine ev_of hw rfl at_35 rfl rfl (go_seg0 ?_)
  refine go_seq ?_
  refine go_region ?_
  refine gs_box rfl (ot rfl) rfl ?_; intro b2_1
  refine gs_box rfl (ot rfl) rfl ?_; intro b3_2
  refine gAc rfl rfl ?_
  refine go_nil ?_
  refine go_seq ?_
  refine go_block ?_
  refine go_seq ?_
  refine go_region ?_
  refine gr rfl (r_fa (ot rfl) (fa_31_3 _ _)) ?_
  refine gr rfl (r_load (ot rfl) (lm_s (mem_seg 1 rfl) ag_4 rfl)) ?_
  refine gA rfl rfl ?_
  refine go_nil ?_
  refine g_cond (b := p0.Dead) (ot rfl) (fun hc3 => ?_) (fun hc3 => ?_)
  ·
    replace hF := ifT hc3 hF
    refine go_seq ?_
    refine go_region ?_
    refine gAc rfl rfl ?_
    refine go_nil ?_
    obtain rfl := someI hF
    exact g_ret (rst rfl rs0) (fun h1 hf hs => ⟨hs.hext, rfl⟩)
  ·
    replace hF := ifF hc3 hF
    refine go_seq ?_
    refine go_region ?_
    refine gr rfl (r_fa (ot rfl) (fa_31_1 _ _)) ?_
    refine gr rfl (r_load (ot rfl) (lm_s (mem_seg 1 rfl) ag_3 rfl)) ?_
    refine gr rfl (r_fa (ot rfl) (fa_27_2 _ _)) ?_
    refine gr rfl (r_load (ot rfl) (lm_s (mem_seg 0 rfl) ag_3 rfl)) ?_
    refine gr rfl (r_bin (ot rfl) (ot rfl) rfl) ?_
    refine gA rfl rfl ?_
    refine go_nil ?_
    refine g_cond (b := (decide (p0.Next ≤ p1.Hor))) (ot rfl) (fun hc4 => ?_) (fun hc4 => ?_)
    ·
      replace hF := ifT hc4 hF
      refine go_seq ?_
      refine go_region ?_
      refine gAc rfl rfl ?_
      refine go_nil ?_
      obtain rfl := someI hF
      exact g_ret (rst rfl rs0) (fun h1 hf hs => ⟨hs.hext, rfl⟩)
    ·
      replace hF := ifF hc4 hF
      refine go_seq ?_
      refine go_region ?_
      refine gr rfl (r_fa (ot rfl) (fa_31_1 _ _)) ?_
      refine gr rfl (r_load (ot rfl) (lm_s (mem_seg 1 rfl) ag_3 rfl)) ?_
      refine gr rfl (r_bin (ot rfl) (oc rfl) rfl) ?_
      refine gr rfl (r_fa (ot rfl) (fa_27_1 _ _)) ?_
      refine gr rfl (r_load (ot rfl) (lm_s (mem_seg 0 rfl) ag_3 rfl)) ?_
      refine gr rfl (r_bin (ot rfl) (ot rfl) rfl) ?_
      refine gA rfl rfl ?_
      refine go_nil ?_
      refine g_cond (b := (decide ((IntKind.i64.wrap (p0.Next - 1)) > p1.Rev))) (ot rfl) (fun hc5 => ?_) (fun hc5 => ?_)
      ·
        replace hF := ifT hc5 hF
        refine go_seq ?_
        refine go_region ?_
        refine gAc rfl rfl ?_
        refine go_nil ?_
        obtain rfl := someI hF
        exact g_ret (rst rfl rs0) (fun h1 hf hs => ⟨hs.hext, rfl⟩)
      ·
        replace hF := ifF hc5 hF
        refine go_skip ?_
        refine go_endb ?_
        refine go_seq ?_
        refine go_region ?_
        refine gAc rfl rfl ?_
        refine go_nil ?_
        obtain rfl := someI hF
        exact g_ret (rst rfl rs0) (fun h1 hf hs => ⟨hs.hext, rfl⟩)
theorem s_cursor_gather {h : Heap} (hw : Wf h) (p0 : (List (List TEvent))) {a0_0 : Option Addr} {c0_0 : Nat} (f0_0 : RL (Rep.sl R_TEvent 30) h a0_0 c0_0 p0) {r : (List (List TEvent))} (hF : F_cursor_gather p0 = some r) :
    Ev EE 38 [.slice a0_0 p0.length c0_0] h (fun v h1 => ∃ a0 c0, v = .slice a0 r.length c0 ∧ RL (Rep.sl R_TEvent 30) h1 a0 c0 r) := by
  unfold F_cursor_gather at hF
  refine ev_of hw rfl at_38 rfl rfl (go_seg0 ?_)
  refine go_seq ?_
  refine go_region ?_
  refine gAc rfl rfl ?_
  refine go_nil ?_
  refine go_seq ?_
  refine go_region ?_
  refine gAc rfl rfl ?_
  refine go_nil ?_
  refine go_seq ?_
  refine go_seq ?_
  refine go_region ?_
  refine gM rfl rfl ?_
  refine gr rfl (r_len rfl (os1 (ot rfl) os0) (fun _ _ => ln_28)) ?_
  refine gMc rfl rfl ?_
  refine go_nil ?_
  replace hF := obind hF
  obtain ⟨s1, hF, hK1⟩ := hF
  refine go_joinc (β := Option Addr × List Blk) (fun s h' => AccR (Rep.sl R_TEvent 30) 30 h' s.2 (.slice s.1 s1.length s1.length) s1) (fun s => [(2, true, .slice none 0 0), (3, true, .slice s.1 s1.length s1.length)]) (fun s => (List.flatten [s.2] : List Blk)) ?_ (fun J1 => ?_)
  ·
    rintro ⟨a1_0, a1_1⟩ h1 e1 w1 f1_0
    replace hF := hK1
    refine go_seq ?_
    refine go_region ?_
    refine gM rfl rfl ?_
    refine gA rfl rfl ?_
    refine go_nil ?_
    refine gs_accpub .z f1_0 (fun h2 e2 w2 f2_ => ?_) rfl
    obtain rfl := someI hF
    exact g_ret (rst rfl rs0) (fun h1 hf hs => ⟨(e1.trans (e2.trans hs.hext)), ⟨_, _, rfl, (f2_.ext hs.hext.kn)⟩⟩)
  ·
    refine go_block ?_
    refine go_loop (α := (List (List TEvent)) × Nat × (List (List TEvent)) × Option Addr × List Blk × Heap) (fun a => a.1 = List.drop a.2.1 p0 ∧ HExt h a.2.2.2.2.2 ∧ Wf a.2.2.2.2.2 ∧ F_cursor_gather_L1 a.1 a.2.1 a.2.2.1 = some s1 ∧ AccR (Rep.sl R_TEvent 30) 30 a.2.2.2.2.2 a.2.2.2.2.1 (.slice a.2.2.2.1 a.2.2.1.length a.2.2.1.length) a.2.2.1) (fun a => a.1.length) (fun a => [(2, true, .slice none 0 0), (3, true, .slice a.2.2.2.1 a.2.2.1.length a.2.2.1.length), (6, true, .slice a0_0 p0.length c0_0), (7, true, .int .i64 (p0.length : Int)), (8, true, .int .i64 (a.2.1 : Int))]) (fun a => (List.flatten [a.2.2.2.2.1] : List Blk)) (fun a => a.2.2.2.2.2) ?_ (p0, 0, ([] : List (List TEvent)), none, [], h) ⟨rfl, HExt.refl _, hw, hF, (AccR.nil _ _ _)⟩ (Sub.cons (Sub.cons (Sub.cons (Sub.cons (Sub.cons (Sub.nil _) rfl) rfl) rfl) rfl) rfl) rfl rfl
    rintro ⟨r3, i3, y3_0, a3_0, a3_1, h3⟩ ⟨hr3, e3, w3, hF, f3_0⟩ ih3
    rcases r3 with _ | ⟨z3, r3⟩
    ·
      have hi3 := drop_nil hr3
      rw [F_cursor_gather_L1.eq_1] at hF
      refine go_seq ?_
      refine go_region ?_
      refine gr rfl (r_bin (ot rfl) (ot rfl) rfl) ?_
      refine go_cast (.bool false) (congrArg Value.bool (decide_eq_false hi3)) ?_
      refine go_nil ?_
      refine go_seq ?_
      refine g_cond (b := false) (ot rfl) (fun hc4 => ?_) (fun hc4 => ?_)
      · cases hc4
      refine go_exit rfl ?_
      obtain rfl := someI hF
      exact Goes.weak (J1 (a3_0, a3_1) _ e3 w3 f3_0) (Sub.cons (Sub.cons (Sub.nil _) rfl) rfl)
    ·
      obtain ⟨hi3, hx3, hr3⟩ := drop_cons hr3
      have hb3 := (f0_0.ext e3.kn).1
      rw [F_cursor_gather_L1.eq_2] at hF
      refine go_seq ?_
      refine go_region ?_
      refine gr rfl (r_bin (ot rfl) (ot rfl) rfl) ?_
      refine go_cast (.bool true) (congrArg Value.bool (decide_eq_true (Int.ofNat_lt.mpr hi3))) ?_
      refine go_nil ?_
      refine go_seq ?_
      refine g_cond (b := true) (ot rfl) (fun hc5 => ?_) (fun hc5 => ?_)
      rotate_left
      · cases hc5
      refine go_skip ?_
      refine go_seq ?_
      refine go_block ?_
      refine go_seq ?_
      refine go_region ?_
      obtain ⟨q6, row6, i6, cl6, rc6, sp6⟩ := ix (ik := .i64) (cap := c0_0) (E := EE) (f0_0.ext e3.kn) ((getI_nat _ _).trans hx3) ut_28 sz_30 rfl
      obtain ⟨a6_0, c6_0, rfl, f6_0⟩ := rc6
      refine gr rfl (r_ia (ot rfl) (ot rfl) i6) ?_
      refine gr rfl (r_load (ot rfl) (v := .slice a6_0 z3.length c6_0) (lo_e (fun hf kn => ld_one ag_30 (kn.cellsAt cl6)))) ?_
      refine gA rfl rfl ?_
      refine go_nil ?_
      refine go_seq ?_
      refine go_region ?_
      refine gM rfl rfl ?_
      refine gr rfl (r_len rfl (os1 (ot rfl) os0) (fun _ _ => ln_30)) ?_
      refine gr rfl (r_bin (ot rfl) (oc rfl) rfl) ?_
      refine go_nil ?_
      refine g_cond (b := (decide ((z3.length : Int) > 0))) (ot rfl) (fun hc7 => ?_) (fun hc7 => ?_)
      ·
        replace hF := ifT hc7 hF
        refine go_region ?_
        refine gM rfl rfl ?_
        refine gM rfl rfl ?_
        refine gs_bslice (cs := [.slice a6_0 z3.length c6_0]) rfl (op1 (ot rfl) op0) ut_28 sz_30 zo_30 rfl rfl ?_; intro b17_8
        replace hF := obind hF
        obtain ⟨x9, hx9, hF⟩ := hF
        obtain ⟨hr9, hz9_⟩ := appL_some hx9; subst x9
        refine gs_front (.s (.z)) ?_
        refine gs_app (rows2 := [[.slice a6_0 z3.length c6_0]]) (R := (Rep.sl R_TEvent 30)) rfl (os1 (ot rfl) (os1 (ot rfl) os0)) rfl ut_28 sz_30 rfl (by decide) by_30 zo_30 rfl zs_28_28 rfl rfl (first_m (mem_seg 1 rfl) rfl (by decide)) (Rws.one (x := z3) (sl_C f6_0)) f3_0 hr9 (fun p9_ tl9 f9_ => ?_)
        refine gA rfl rfl ?_
        refine go_nil ?_
        refine go_endb ?_
        refine go_region ?_
        refine gr rfl (r_bin (ot rfl) (oc rfl) rfl) ?_
        refine gM rfl rfl ?_
        refine go_nil ?_
        refine gs_sub (.cons_cons _ (.cons _ (.refl _))) ?_
        refine go_re 8 (v2 := .int .i64 ((i3 + 1 : Nat) : Int)) rfl (wrap_succ hi3 hb3) ?_
        exact Goes.weak (ih3 (r3, i3 + 1, (y3_0 ++ ([z3] : List (List TEvent))), p9_, tl9, h3) ⟨hr3, e3, w3, hF, f9_⟩ (Nat.lt_succ_self _)) (Sub.cons (Sub.cons (Sub.cons (Sub.cons (Sub.cons (Sub.nil _) rfl) rfl) rfl) rfl) rfl)
      ·
        replace hF := ifF hc7 hF
        refine go_skip ?_
        refine go_endb ?_
        refine go_region ?_
        refine gr rfl (r_bin (ot rfl) (oc rfl) rfl) ?_
        refine gM rfl rfl ?_
        refine go_nil ?_
        refine go_re 8 (v2 := .int .i64 ((i3 + 1 : Nat) : Int)) rfl (wrap_succ hi3 hb3) ?_
        exact Goes.weak (ih3 (r3, i3 + 1, y3_0, a3_0, a3_1, h3) ⟨hr3, e3, w3, hF, f3_0⟩ (Nat.lt_succ_self _)) (Sub.cons (Sub.cons (Sub.cons (Sub.cons (Sub.cons (Sub.nil _) rfl) rfl) rfl) rfl) rfl)
theorem s_cursor_Deliver (n : Nat) {h : Heap} (hw : Wf h) (p0 : Tcursor_Cursor) (p1 : THead) (p2 : (List (List TEvent))) {a2_0 : Option Addr} {c2_0 : Nat} (f2_0 : RL (Rep.sl R_TEvent 30) h a2_0 c2_0 p2) {r : Tcursor_Cursor × Tcursor_Notice} (hF : F_cursor_Deliver n p0 p1 p2 = some r) :
    Ev EE 9 [.agg #[.string p0.R.From, .string p0.R.To, .int .i64 p0.Next, .bool p0.Once, .bool p0.Dead], .agg #[.int .i64 p1.Seq, .int .i64 p1.Rev, .int .i64 p1.Hor], .slice a2_0 p2.length c2_0] h (fun v h1 => ∃ a0 c0, v = .tuple #[.agg #[.string r.1.R.From, .string r.1.R.To, .int .i64 r.1.Next, .bool r.1.Once, .bool r.1.Dead], .agg #[.int .i64 r.2.Err, .int .i64 r.2.Hor, .int .i64 r.2.Upto, .slice a0 r.2.Rows.length c0]] ∧ RL (Rep.sl R_TEvent 30) h1 a0 c0 r.2.Rows) := by
  unfold F_cursor_Deliver at hF
  refine ev_of hw rfl at_9 rfl rfl (go_seg0 ?_)
  refine go_seq ?_
  refine go_region ?_
  refine gs_box rfl (ot rfl) rfl ?_; intro b3_1
  refine gs_box rfl (ot rfl) rfl ?_; intro b4_2
  refine gs_alloc rfl zo_31 rfl ?_; intro b6_3
  refine gs_alloc rfl zo_34 rfl ?_; intro b7_4
  refine go_nil ?_
  refine go_seq ?_
  refine go_seq ?_
  refine go_region ?_
  refine gr rfl (r_load (ot rfl) (lm_w (mem_seg 3 rfl) ag_31 sz_31 rfl)) ?_
  refine gr rfl (r_load (ot rfl) (lm_w (mem_seg 2 rfl) ag_27 sz_27 rfl)) ?_
  replace hF := obind hF
  obtain ⟨x5, hx5, hF⟩ := hF
  refine g_callp (v := .int .i64 x5) EE_fr rfl of (os1 (ot rfl) (os1 (ot rfl) os0)) hb_35 (fun _ => rfl) (fun hf kn w => by exact s_cursor_bad w p0 p1  hx5) ?_
  refine gA rfl rfl ?_
  refine go_nil ?_
  refine go_seq ?_
  refine go_region ?_
  refine gM rfl rfl ?_
  refine go_nil ?_
  refine go_block ?_
  refine go_seq ?_
  refine go_region ?_
  refine gr rfl (r_bin (ot rfl) (oc rfl) rfl) ?_
  refine gA rfl rfl ?_
  refine go_nil ?_
  refine g_cond (b := (x5 == 0)) (ot rfl) (fun hc6 => ?_) (fun hc6 => ?_)
  ·
    replace hF := ifT hc6 hF
    refine go_skip ?_
    refine go_endb ?_
    refine go_seq ?_
    refine go_region ?_
    refine gr rfl (r_fa (ot rfl) (fa_31_1 _ _)) ?_
    refine gr rfl (r_load (ot rfl) (lm_s (mem_seg 3 rfl) ag_3 rfl)) ?_
    refine gM rfl rfl ?_
    refine gr rfl (r_len rfl (os1 (ot rfl) os0) (fun _ _ => ln_28)) ?_
    refine gr rfl (r_bin (ot rfl) (ot rfl) rfl) ?_
    refine gr rfl (r_fa (ot rfl) (fa_31_1 _ _)) ?_
    refine gs_store (ot rfl) (ot rfl) sz_3 rfl rfl rfl rfl rfl (.s (.s (.s (.z)))) ?_
    refine go_nil ?_
    refine go_seq ?_
    refine go_region ?_
    refine gAc rfl rfl ?_
    refine go_nil ?_
    refine go_seq ?_
    refine go_region ?_
    refine gAc rfl rfl ?_
    refine go_nil ?_
    refine go_seq ?_
    refine go_seq ?_
    refine go_region ?_
    refine gM rfl rfl ?_
    refine gr rfl (r_len rfl (os1 (ot rfl) os0) (fun _ _ => ln_28)) ?_
    refine gMc rfl rfl ?_
    refine go_nil ?_
    replace hF := obind hF
    obtain ⟨s7, hF, hK7⟩ := hF
    refine go_joinc (β := Option Addr × List Blk × Option Addr × List Blk) (fun s h' => AccR (Rep.sl R_TEvent 30) 30 h' s.2.1 (.slice s.1 s7.1.length s7.1.length) s7.1 ∧ AccR R_TEvent 77 h' s.2.2.2 (.slice s.2.2.1 s7.2.length s7.2.length) s7.2) (fun s => [(3, true, .pointer (some ⟨b3_1, 0, none⟩)), (6, true, .pointer (some ⟨b6_3, 0, none⟩)), (7, true, .pointer (some ⟨b7_4, 0, none⟩)), (9, true, .slice s.1 s7.1.length s7.1.length), (10, true, .slice s.2.2.1 s7.2.length s7.2.length)]) (fun s => (List.flatten [s.2.2.2, s.2.1, [⟨b7_4, .cells [.int .i64 0, .int .i64 0, .int .i64 0, .slice none 0 0] 34⟩], [⟨b6_3, .cells [.string ByteArray.empty, .string ByteArray.empty, .int .i64 0, .bool false, .bool false] 31⟩], [⟨b4_2, .cells [.int .i64 p1.Seq, .int .i64 p1.Rev, .int .i64 p1.Hor] 27⟩], [⟨b3_1, .cells [.string p0.R.From, .string p0.R.To, .int .i64 (IntKind.i64.wrap (p0.Next + (p2.length : Int))), .bool p0.Once, .bool p0.Dead] 31⟩]] : List Blk)) ?_ (fun J7 => ?_)
    ·
      rintro ⟨a7_0, a7_1, a7_2, a7_3⟩ h7 e7 w7 ⟨f7_0, f7_1⟩
      replace hF := hK7
      refine go_seq ?_
      refine go_seq ?_
      refine go_region ?_
      refine gr rfl (r_fa (ot rfl) (fa_31_2 _ _)) ?_
      refine gr rfl (r_load (ot rfl) (lm_s (mem_seg 5 rfl) ag_4 rfl)) ?_
      refine go_nil ?_
      refine gs_accpub .z f7_1 (fun h9 e9 w9 f9_ => ?_) rfl
      refine gs_accpub .z (f7_0.ext e9.kn) (fun h10 e10 w10 f10_ => ?_) rfl
      replace hF := obind hF
      obtain ⟨s11, hF, hK11⟩ := hF
      refine go_joinc (β := Option Addr × Nat) (fun s h' => RL (Rep.sl R_TEvent 30) h' s.1 s.2 s11) (fun s => [(3, true, .pointer (some ⟨b3_1, 0, none⟩)), (6, true, .pointer (some ⟨b6_3, 0, none⟩)), (7, true, .pointer (some ⟨b7_4, 0, none⟩)), (9, true, .slice s.1 s11.length s.2)]) (fun s => (List.flatten [[⟨b7_4, .cells [.int .i64 0, .int .i64 0, .int .i64 0, .slice none 0 0] 34⟩], [⟨b6_3, .cells [.string ByteArray.empty, .string ByteArray.empty, .int .i64 0, .bool false, .bool false] 31⟩], [⟨b4_2, .cells [.int .i64 p1.Seq, .int .i64 p1.Rev, .int .i64 p1.Hor] 27⟩], [⟨b3_1, .cells [.string p0.R.From, .string p0.R.To, .int .i64 (IntKind.i64.wrap (p0.Next + (p2.length : Int))), .bool p0.Once, .bool p0.Dead] 31⟩]] : List Blk)) ?_ (fun J11 => ?_)
      ·
        rintro ⟨a11_0, a11_1⟩ h11 e11 w11 f11_0
        replace hF := hK11
        refine go_seq ?_
        refine go_regions (L := [(0, []), (1, []), (2, []), (3, []), (4, []), (5, [0, 2]), (6, []), (7, [2]), (8, [])]) (by kernel_rfl) (by kernel_rfl) (fun _ => rfl) ?_
        refine go_sop rfl rfl ?_
        refine gr rfl (r_load (ot rfl) (lm_w (mem_seg 3 rfl) ag_31 sz_31 rfl)) ?_
        refine go_nil ?_
        refine go_sop rfl rfl ?_
        refine gr rfl (r_fa (ot rfl) (fa_31_1 _ _)) ?_
        refine go_nil ?_
        refine go_sop rfl rfl ?_
        refine gr rfl (r_load (ot rfl) (lm_s (mem_seg 3 rfl) ag_3 rfl)) ?_
        refine go_nil ?_
        refine go_sop rfl rfl ?_
        refine gr rfl (r_bin (ot rfl) (oc rfl) rfl) ?_
        refine go_nil ?_
        refine go_sop rfl rfl ?_
        refine gM rfl rfl ?_
        refine go_nil ?_
        refine go_sopc [(0, .agg #[.string p0.R.From, .string p0.R.To, .int .i64 (IntKind.i64.wrap (p0.Next + (p2.length : Int))), .bool p0.Once, .bool p0.Dead]), (2, .int .i64 (IntKind.i64.wrap (p0.Next + (p2.length : Int))))] rfl rfl rfl (rc1 rfl (r_load (ot rfl) (lm_w (mem_seg 3 rfl) ag_31 sz_31 rfl)) (rc1 rfl (r_load (ot rfl) (lm_s (mem_seg 3 rfl) ag_3 rfl)) rc0)) (vq1 (veq_agg _ _ (va1 (veq_str _ _) (va1 (veq_str _ _) (va1 (veq_int _ _ _) (va1 (veq_bool _ _) (va1 (veq_bool _ _) (va0 _))))))) (vq1 (veq_int _ _ _) vq0)) rfl ?_
        replace hF := obind hF
        obtain ⟨x12, hx12, hF⟩ := hF
        refine g_call EE_fr (fun _ h => by cases h; rfl) of (os1 (ot rfl) os0) hb_38 (fun hf kn w => by exact s_cursor_gather w s11 (f11_0.ext kn) hx12) ?_
        rintro v12 h12 e12 w12 ⟨a12_0, c12_0, rfl, f12_0⟩
        refine go_nil ?_
        refine go_rck (rc1 rfl (r_load (ot rfl) (lm_w (mem_seg 3 rfl) ag_31 sz_31 rfl)) (rc1 rfl (r_load (ot rfl) (lm_s (mem_seg 3 rfl) ag_3 rfl)) rc0)) ?_
        refine go_sop rfl rfl ?_
        refine gr rfl (r_build (op1 (ot rfl) (op1 (ot rfl) op0)) rfl) ?_
        refine go_nil ?_
        refine go_sopc [(2, .int .i64 (IntKind.i64.wrap (p0.Next + (p2.length : Int))))] rfl rfl rfl (rc1 rfl (r_load (ot rfl) (lm_s (mem_seg 3 rfl) ag_3 rfl)) rc0) (vq1 (veq_int _ _ _) vq0) rfl ?_
        refine gs_store (ot rfl) (ot rfl) sz_31 rfl rfl rfl rfl rfl (.s (.z)) ?_
        refine go_nil ?_
        refine go_rck (rc1 rfl (r_load (ot rfl) (lm_s (mem_seg 3 rfl) ag_3 rfl)) rc0) ?_
        refine go_sop rfl rfl ?_
        refine gs_store (ot rfl) (ot rfl) sz_34 rfl rfl rfl rfl rfl .z ?_
        refine go_nil ?_
        refine go_snil ?_
        obtain rfl := someI hF
        exact g_ret (rsc rfl (lm_w (mem_seg 1 rfl) ag_31 sz_31 rfl) (rsc rfl (lm_w (mem_seg 0 rfl) ag_34 sz_34 rfl) rs0)) (fun h1 hf hs => ⟨(e7.trans (e9.trans (e10.trans (e11.trans (e12.trans hs.hext))))), ⟨_, _, rfl, (f12_0.ext hs.hext.kn)⟩⟩)
      ·
        refine g_cond (b := p0.Once) (ot rfl) (fun hc8 => ?_) (fun hc8 => ?_)
        ·
          replace hF := ifT hc8 hF
          refine go_region ?_
          refine gM rfl rfl ?_
          replace hF := obind hF
          obtain ⟨x13, hx13, hF⟩ := hF
          refine g_call EE_fr (fun _ h => by cases h; rfl) of (os1 (ot rfl) os0) hb_37 (fun hf kn w => by exact s_event_Last w s7.2 ((f9_.ext e10.kn).ext kn) hx13) ?_
          rintro v13 h13 e13 w13 ⟨a13_0, c13_0, rfl, f13_0⟩
          refine gs_bslice (cs := [.slice a13_0 x13.length c13_0]) rfl (op1 (ot rfl) op0) ut_28 sz_30 zo_30 rfl rfl ?_; intro b59_14
          refine gA rfl rfl ?_
          refine go_nil ?_
          refine gs_pub .z (fun h15 e15 w15 hb15 => ?_)
          have f15_ : RL (Rep.sl R_TEvent 30) h15 (some ⟨b59_14, 0, none⟩) 1 ([x13] : List (List TEvent)) := RL.of_blk (R := (Rep.sl R_TEvent 30)) (rows := [[.slice a13_0 x13.length c13_0]]) (.inl rfl) hb15 rfl (Rws.cons (x := x13) (sl_C (f13_0.ext e15.kn)) Rws.nil) (by simp) (by simp) rfl
          obtain rfl := someI hF
          exact Goes.weak (J11 ((some ⟨b59_14, 0, none⟩), 1) _ (e13.trans e15) w15 f15_) (Sub.cons (Sub.cons (Sub.cons (Sub.cons (Sub.nil _) rfl) rfl) rfl) rfl)
        ·
          replace hF := ifF hc8 hF
          refine go_skip ?_
          obtain rfl := someI hF
          exact Goes.weak (J11 (a7_0, s7.1.length) _ (HExt.refl _) w10 f10_) (Sub.cons (Sub.cons (Sub.cons (Sub.cons (Sub.nil _) rfl) rfl) rfl) rfl)
    ·
      refine go_block ?_
      refine go_loop (α := (List (List TEvent)) × Nat × (List (List TEvent)) × (List TEvent) × Option Addr × List Blk × Option Addr × List Blk × Heap) (fun a => a.1 = List.drop a.2.1 p2 ∧ HExt h a.2.2.2.2.2.2.2.2 ∧ Wf a.2.2.2.2.2.2.2.2 ∧ F_cursor_Deliver_L1 n p0 a.1 a.2.1 a.2.2.1 a.2.2.2.1 = some s7 ∧ AccR (Rep.sl R_TEvent 30) 30 a.2.2.2.2.2.2.2.2 a.2.2.2.2.2.1 (.slice a.2.2.2.2.1 a.2.2.1.length a.2.2.1.length) a.2.2.1 ∧ AccR R_TEvent 77 a.2.2.2.2.2.2.2.2 a.2.2.2.2.2.2.2.1 (.slice a.2.2.2.2.2.2.1 a.2.2.2.1.length a.2.2.2.1.length) a.2.2.2.1) (fun a => a.1.length) (fun a => [(3, true, .pointer (some ⟨b3_1, 0, none⟩)), (6, true, .pointer (some ⟨b6_3, 0, none⟩)), (7, true, .pointer (some ⟨b7_4, 0, none⟩)), (9, true, .slice a.2.2.2.2.1 a.2.2.1.length a.2.2.1.length), (10, true, .slice a.2.2.2.2.2.2.1 a.2.2.2.1.length a.2.2.2.1.length), (37, true, .slice a2_0 p2.length c2_0), (38, true, .int .i64 (p2.length : Int)), (39, true, .int .i64 (a.2.1 : Int))]) (fun a => (List.flatten [a.2.2.2.2.2.2.2.1, a.2.2.2.2.2.1, [⟨b7_4, .cells [.int .i64 0, .int .i64 0, .int .i64 0, .slice none 0 0] 34⟩], [⟨b6_3, .cells [.string ByteArray.empty, .string ByteArray.empty, .int .i64 0, .bool false, .bool false] 31⟩], [⟨b4_2, .cells [.int .i64 p1.Seq, .int .i64 p1.Rev, .int .i64 p1.Hor] 27⟩], [⟨b3_1, .cells [.string p0.R.From, .string p0.R.To, .int .i64 (IntKind.i64.wrap (p0.Next + (p2.length : Int))), .bool p0.Once, .bool p0.Dead] 31⟩]] : List Blk)) (fun a => a.2.2.2.2.2.2.2.2) ?_ (p2, 0, ([] : List (List TEvent)), ([] : List TEvent), none, [], none, [], h) ⟨rfl, HExt.refl _, hw, hF, (AccR.nil _ _ _), (AccR.nil _ _ _)⟩ (Sub.cons (Sub.cons (Sub.cons (Sub.cons (Sub.cons (Sub.cons (Sub.cons (Sub.cons (Sub.nil _) rfl) rfl) rfl) rfl) rfl) rfl) rfl) rfl) rfl rfl
      rintro ⟨r16, i16, y16_0, y16_1, a16_0, a16_1, a16_2, a16_3, h16⟩ ⟨hr16, e16, w16, hF, f16_0, f16_1⟩ ih16
      rcases r16 with _ | ⟨z16, r16⟩
      ·
        have hi16 := drop_nil hr16
        rw [F_cursor_Deliver_L1.eq_1] at hF
        refine go_seq ?_
        refine go_region ?_
        refine gr rfl (r_bin (ot rfl) (ot rfl) rfl) ?_
        refine go_cast (.bool false) (congrArg Value.bool (decide_eq_false hi16)) ?_
        refine go_nil ?_
        refine go_seq ?_
        refine g_cond (b := false) (ot rfl) (fun hc17 => ?_) (fun hc17 => ?_)
        · cases hc17
        refine go_exit rfl ?_
        obtain rfl := someI hF
        exact Goes.weak (J7 (a16_0, a16_1, a16_2, a16_3) _ e16 w16 ⟨f16_0, f16_1⟩) (Sub.cons (Sub.cons (Sub.cons (Sub.cons (Sub.cons (Sub.nil _) rfl) rfl) rfl) rfl) rfl)
      ·
        obtain ⟨hi16, hx16, hr16⟩ := drop_cons hr16
        have hb16 := (f2_0.ext e16.kn).1
        rw [F_cursor_Deliver_L1.eq_2] at hF
        refine go_seq ?_
        refine go_region ?_
        refine gr rfl (r_bin (ot rfl) (ot rfl) rfl) ?_
        refine go_cast (.bool true) (congrArg Value.bool (decide_eq_true (Int.ofNat_lt.mpr hi16))) ?_
        refine go_nil ?_
        refine go_seq ?_
        refine g_cond (b := true) (ot rfl) (fun hc18 => ?_) (fun hc18 => ?_)
        rotate_left
        · cases hc18
        refine go_skip ?_
        refine go_seq ?_
        refine go_block ?_
        refine go_seq ?_
        refine go_region ?_
        obtain ⟨q19, row19, i19, cl19, rc19, sp19⟩ := ix (ik := .i64) (cap := c2_0) (E := EE) (f2_0.ext e16.kn) ((getI_nat _ _).trans hx16) ut_28 sz_30 rfl
        obtain ⟨a19_0, c19_0, rfl, f19_0⟩ := rc19
        refine gr rfl (r_ia (ot rfl) (ot rfl) i19) ?_
        refine gr rfl (r_load (ot rfl) (v := .slice a19_0 z16.length c19_0) (lo_e (fun hf kn => ld_one ag_30 (kn.cellsAt cl19)))) ?_
        refine gA rfl rfl ?_
        refine go_nil ?_
        refine go_seq ?_
        refine go_region ?_
        refine gM rfl rfl ?_
        refine gr rfl (r_fa (ot rfl) (fa_31_0 _ _)) ?_
        refine gr rfl (r_load (ot rfl) (lm_a (vs := [_, _]) (mem_seg 5 rfl) ag_23 sz_23 rfl rfl)) ?_
        replace hF := obind hF
        obtain ⟨x20, hx20, hF⟩ := hF
        refine g_call EE_fr (fun _ h => by cases h; rfl) of (os1 (ot rfl) (os1 (ot rfl) os0)) hb_36 (fun hf kn w => by exact s_event_Filter n w z16 p0.R (f19_0.ext kn) hx20) ?_
        rintro v20 h20 e20 w20 ⟨a20_0, c20_0, rfl, f20_0⟩
        refine gA rfl rfl ?_
        refine go_nil ?_
        refine go_seq ?_
        refine go_region ?_
        refine gM rfl rfl ?_
        refine gM rfl rfl ?_
        refine gs_bslice (cs := [.slice a20_0 x20.length c20_0]) rfl (op1 (ot rfl) op0) ut_28 sz_30 zo_30 rfl rfl ?_; intro b49_21
        replace hF := obind hF
        obtain ⟨x22, hx22, hF⟩ := hF
        obtain ⟨hr22, hz22_⟩ := appL_some hx22; subst x22
        refine gs_front (.s (.s (.z))) ?_
        refine gs_app (rows2 := [[.slice a20_0 x20.length c20_0]]) (R := (Rep.sl R_TEvent 30)) rfl (os1 (ot rfl) (os1 (ot rfl) os0)) rfl ut_28 sz_30 rfl (by decide) by_30 zo_30 rfl zs_28_28 rfl rfl (first_m (mem_seg 1 rfl) rfl (by decide)) (Rws.one (x := x20) (sl_C f20_0)) (f16_0.ext e20.kn) hr22 (fun p22_ tl22 f22_ => ?_)
        refine gA rfl rfl ?_
        refine go_nil ?_
        refine go_region ?_
        refine gM rfl rfl ?_
        refine gM rfl rfl ?_
        replace hF := obind hF
        obtain ⟨x23, hx23, hF⟩ := hF
        obtain ⟨hr23, hz23_⟩ := appL_some hx23; subst x23
        refine gs_front (.s (.s (.z))) ?_
        obtain ⟨rw23, hw23, hq23⟩ := RL.first f20_0 (by decide)
        refine gs_app (rows2 := rw23) (R := R_TEvent) rfl (os1 (ot rfl) (os1 (ot rfl) os0)) rfl ut_30 sz_77 rfl (by decide) by_77 zo_77 rfl zs_30_30 rfl rfl (first_e hq23 (fun h' kn => kn.firstV hq23)) hw23 (f16_1.ext e20.kn) hr23 (fun p23_ tl23 f23_ => ?_)
        refine gA rfl rfl ?_
        refine go_nil ?_
        refine go_endb ?_
        refine go_region ?_
        refine gr rfl (r_bin (ot rfl) (oc rfl) rfl) ?_
        refine gM rfl rfl ?_
        refine go_nil ?_
        refine gs_sub (.cons_cons _ (.cons_cons _ (.cons _ (.cons_cons _ (.cons_cons _ (.cons_cons _ (.cons_cons _ (.refl _)))))))) ?_
        refine go_re 39 (v2 := .int .i64 ((i16 + 1 : Nat) : Int)) rfl (wrap_succ hi16 hb16) ?_
        exact Goes.weak (ih16 (r16, i16 + 1, (y16_0 ++ ([x20] : List (List TEvent))), (y16_1 ++ x20), p22_, tl22, p23_, tl23, h20) ⟨hr16, (e16.trans e20), w20, hF, f22_, f23_⟩ (Nat.lt_succ_self _)) (Sub.cons (Sub.cons (Sub.cons (Sub.cons (Sub.cons (Sub.cons (Sub.cons (Sub.cons (Sub.nil _) rfl) rfl) rfl) rfl) rfl) rfl) rfl) rfl)
  ·
    replace hF := ifF hc6 hF
    refine go_seq ?_
    refine go_region ?_
    refine gr rfl (r_bin (ot rfl) (oc rfl) rfl) ?_
    refine gA rfl rfl ?_
    refine go_nil ?_
    refine g_cond (b := (x5 == 5)) (ot rfl) (fun hc24 => ?_) (fun hc24 => ?_)
    ·
      replace hF := ifT hc24 hF
      refine go_seq ?_
      refine go_region ?_
      refine gr rfl (r_fa (ot rfl) (fa_31_3 _ _)) ?_
      refine gs_store (ot rfl) (oc rfl) sz_4 rfl rfl rfl rfl rfl (.s (.s (.s (.z)))) ?_
      refine go_nil ?_
      refine go_seq ?_
      refine go_regions (L := [(0, []), (1, []), (2, []), (3, []), (4, []), (5, [3]), (6, [])]) (by kernel_rfl) (by kernel_rfl) (fun _ => rfl) ?_
      refine go_sop rfl rfl ?_
      refine gr rfl (r_load (ot rfl) (lm_w (mem_seg 3 rfl) ag_31 sz_31 rfl)) ?_
      refine go_nil ?_
      refine go_sop rfl rfl ?_
      refine gM rfl rfl ?_
      refine go_nil ?_
      refine go_sop rfl rfl ?_
      refine gr rfl (r_fa (ot rfl) (fa_27_2 _ _)) ?_
      refine go_nil ?_
      refine go_sop rfl rfl ?_
      refine gr rfl (r_load (ot rfl) (lm_s (mem_seg 2 rfl) ag_3 rfl)) ?_
      refine go_nil ?_
      refine go_sop rfl rfl ?_
      refine gr rfl (r_build (op1 (ot rfl) (op1 (ot rfl) op0)) rfl) ?_
      refine go_nil ?_
      refine go_sopc [(3, .int .i64 p1.Hor)] rfl rfl rfl (rc1 rfl (r_load (ot rfl) (lm_s (mem_seg 2 rfl) ag_3 rfl)) rc0) (vq1 (veq_int _ _ _) vq0) rfl ?_
      refine gs_store (ot rfl) (ot rfl) sz_31 rfl rfl rfl rfl rfl (.s (.z)) ?_
      refine go_nil ?_
      refine go_rck (rc1 rfl (r_load (ot rfl) (lm_s (mem_seg 2 rfl) ag_3 rfl)) rc0) ?_
      refine go_sop rfl rfl ?_
      refine gs_store (ot rfl) (ot rfl) sz_34 rfl rfl rfl rfl rfl .z ?_
      refine go_nil ?_
      refine go_snil ?_
      obtain rfl := someI hF
      exact g_ret (rsc rfl (lm_w (mem_seg 1 rfl) ag_31 sz_31 rfl) (rsc rfl (lm_w (mem_seg 0 rfl) ag_34 sz_34 rfl) rs0)) (fun h1 hf hs => ⟨hs.hext, ⟨_, _, rfl, (RL.nil _ _ _)⟩⟩)
    ·
      replace hF := ifF hc24 hF
      refine go_seq ?_
      refine go_region ?_
      refine gr rfl (r_load (ot rfl) (lm_w (mem_seg 3 rfl) ag_31 sz_31 rfl)) ?_
      refine gM rfl rfl ?_
      refine gr rfl (r_build (op1 (ot rfl) op0) rfl) ?_
      refine gs_store (ot rfl) (ot rfl) sz_31 rfl rfl rfl rfl rfl (.s (.z)) ?_
      refine gs_store (ot rfl) (ot rfl) sz_34 rfl rfl rfl rfl rfl .z ?_
      refine go_nil ?_
      obtain rfl := someI hF
      exact g_ret (rsc rfl (lm_w (mem_seg 1 rfl) ag_31 sz_31 rfl) (rsc rfl (lm_w (mem_seg 0 rfl) ag_34 sz_34 rfl) rs0)) (fun h1 hf hs => ⟨hs.hext, ⟨_, _, rfl, (RL.nil _ _ _)⟩⟩)
theorem s_cursor_Window {h : Heap} (hw : Wf h) (p0 : Tcursor_Cursor) (p1 : THead) (p2 : Int)   {r : Int} (hF : F_cursor_Window p0 p1 p2 = some r) :
    Ev EE 15 [.agg #[.string p0.R.From, .string p0.R.To, .int .i64 p0.Next, .bool p0.Once, .bool p0.Dead], .agg #[.int .i64 p1.Seq, .int .i64 p1.Rev, .int .i64 p1.Hor], .int .i64 p2] h (fun v _ => v = .int .i64 r) := by
  unfold F_cursor_Window at hF
  refine ev_of hw rfl at_15 rfl rfl (go_seg0 ?_)
  refine go_seq ?_
  refine go_region ?_
  refine gs_box rfl (ot rfl) rfl ?_; intro b3_1
  refine gs_box rfl (ot rfl) rfl ?_; intro b4_2
  refine gAc rfl rfl ?_
  refine go_nil ?_
  refine go_seq ?_
  refine go_seq ?_
  refine go_region ?_
  refine gr rfl (r_load (ot rfl) (lm_w (mem_seg 1 rfl) ag_31 sz_31 rfl)) ?_
  refine gr rfl (r_load (ot rfl) (lm_w (mem_seg 0 rfl) ag_27 sz_27 rfl)) ?_
  replace hF := obind hF
  obtain ⟨x3, hx3, hF⟩ := hF
  refine g_callp (v := .int .i64 x3) EE_fr rfl of (os1 (ot rfl) (os1 (ot rfl) os0)) hb_35 (fun _ => rfl) (fun hf kn w => by exact s_cursor_bad w p0 p1  hx3) ?_
  refine gr rfl (r_bin (ot rfl) (oc rfl) rfl) ?_
  refine go_nil ?_
  refine g_cond (b := (x3 != 0)) (ot rfl) (fun hc4 => ?_) (fun hc4 => ?_)
  ·
    replace hF := ifT hc4 hF
    refine go_seq ?_
    refine go_region ?_
    refine gAc rfl rfl ?_
    refine go_nil ?_
    obtain rfl := someI hF
    exact g_ret (rst rfl rs0) (fun h1 hf hs => ⟨hs.hext, rfl⟩)
  ·
    replace hF := ifF hc4 hF
    refine go_skip ?_
    refine go_seq ?_
    refine go_region ?_
    refine gr rfl (r_fa (ot rfl) (fa_27_1 _ _)) ?_
    refine gr rfl (r_load (ot rfl) (lm_s (mem_seg 0 rfl) ag_3 rfl)) ?_
    refine gr rfl (r_fa (ot rfl) (fa_31_1 _ _)) ?_
    refine gr rfl (r_load (ot rfl) (lm_s (mem_seg 1 rfl) ag_3 rfl)) ?_
    refine gr rfl (r_bin (ot rfl) (ot rfl) rfl) ?_
    refine gr rfl (r_bin (ot rfl) (oc rfl) rfl) ?_
    refine gM rfl rfl ?_
    refine gr rfl (r_min (os1 (ot rfl) (os1 (ot rfl) os0)) rfl) ?_
    refine gr rfl (r_max (os1 (ot rfl) (os1 (oc rfl) os0)) rfl) ?_
    refine gA rfl rfl ?_
    refine go_nil ?_
    obtain rfl := someI hF
    exact g_ret (rst rfl rs0) (fun h1 hf hs => ⟨hs.hext, rfl⟩)
theorem s_cursor_Open (n : Nat) {h : Heap} (hw : Wf h) (p0 : Ohist_Hist) (p1 : TRange) (p2 : Int) {bp0 : Nat} {bp0m2 : Nat} {rw0_2 : List (ByteArray × Value)} {q0_3 : Option Addr} {t0_3 : List Blk} (fm0_2 : MR R_TEvent h rw0_2 p0.keys) (f0_3 : AccR (Rep.sl R_TEvent 30) 30 h t0_3 (.slice q0_3 p0.rows.length p0.rows.length) p0.rows) {r : Tcursor_Cursor × (List TKV) × Int × Ohist_Hist} (hF : F_cursor_Open n p0 p1 p2 = some r) :
    EvO EE 20 [.pointer (some ⟨bp0, 0, none⟩), .agg #[.string p1.From, .string p1.To], .int .i64 p2] [[⟨bp0, .cells [.int .i64 p0.bounds_rev, .int .i64 p0.bounds_hor, .map (some bp0m2), .slice q0_3 p0.rows.length p0.rows.length] 90⟩], [⟨bp0m2, .map (encM kS id rw0_2)⟩], t0_3] h (fun v S h1 => ∃ rwy0_2 qy0_3 ty0_3 a0 c0, v = .tuple #[.agg #[.string r.1.R.From, .string r.1.R.To, .int .i64 r.1.Next, .bool r.1.Once, .bool r.1.Dead], .slice a0 r.2.1.length c0, .int .i64 r.2.2.1] ∧ S = [[⟨bp0, .cells [.int .i64 r.2.2.2.bounds_rev, .int .i64 r.2.2.2.bounds_hor, .map (some bp0m2), .slice qy0_3 r.2.2.2.rows.length r.2.2.2.rows.length] 90⟩], [⟨bp0m2, .map (encM kS id rwy0_2)⟩], ty0_3] ∧ MR R_TEvent h1 rwy0_2 r.2.2.2.keys ∧ AccR (Rep.sl R_TEvent 30) 30 h1 ty0_3 (.slice qy0_3 r.2.2.2.rows.length r.2.2.2.rows.length) r.2.2.2.rows ∧ RL R_TKV h1 a0 c0 r.2.1) := by
  unfold F_cursor_Open at hF
  refine evo_of rfl at_20 rfl rfl ?_
  refine go_seq ?_
  refine go_region ?_
  refine gs_box rfl (ot rfl) rfl ?_; intro b4_1
  refine gs_alloc rfl zo_31 rfl ?_; intro b6_2
  refine gAc rfl rfl ?_
  refine gAc rfl rfl ?_
  refine go_nil ?_
  refine go_seq ?_
  refine go_seq ?_
  refine go_region ?_
  refine gM rfl rfl ?_
  refine gr rfl (r_bin (ot rfl) (oc rfl) rfl) ?_
  refine go_nil ?_
  replace hF := obind hF
  obtain ⟨s4, hF, hK4⟩ := hF
  refine go_joinc (β := Option Addr × List Blk × List (ByteArray × Value)) (fun s h' => AccR (Rep.sl R_TEvent 30) 30 h' s.2.1 (.slice s.1 s4.2.2.2.1.length s4.2.2.2.1.length) s4.2.2.2.1 ∧ MR R_TEvent h' s.2.2 s4.2.2.2.2) (fun s => [(0, true, .pointer (some ⟨bp0, 0, none⟩)), (2, true, .int .i64 s4.1), (4, true, .pointer (some ⟨b4_1, 0, none⟩)), (6, true, .pointer (some ⟨b6_2, 0, none⟩)), (7, true, .slice none 0 0), (8, true, .int .i64 0)]) (fun s => (List.flatten [[⟨b6_2, .cells [.string ByteArray.empty, .string ByteArray.empty, .int .i64 0, .bool false, .bool false] 31⟩], [⟨b4_1, .cells [.string p1.From, .string p1.To] 23⟩], [⟨bp0, .cells [.int .i64 s4.2.1, .int .i64 s4.2.2.1, .map (some bp0m2), .slice s.1 s4.2.2.2.1.length s4.2.2.2.1.length] 90⟩], [⟨bp0m2, .map (encM kS id s.2.2)⟩], s.2.1] : List Blk)) ?_ (fun J4 => ?_)
  ·
    rintro ⟨a4_0, a4_1, a4_2⟩ h4 e4 w4 ⟨f4_3, f4_4⟩
    replace hF := hK4
    refine go_seq ?_
    refine go_region ?_
    refine gM rfl rfl ?_
    refine gM rfl rfl ?_
    refine gr rfl (r_load (ot rfl) (lm_w (mem_seg 1 rfl) ag_23 sz_23 rfl)) ?_
    replace hF := obind hF
    obtain ⟨x5, hx5, hF⟩ := hF
    refine gs_call EE_fr w4 (.cons (.s (.s (.z))) (.cons (.s (.s (.z))) (.cons (.s (.s (.z))) .nil))) (fun _ h => by cases h; rfl) of (os1 (ot rfl) (os1 (ot rfl) (os1 (ot rfl) os0))) hb_33 (by exact s_hist_Hist_At n w4 (⟨s4.2.1, s4.2.2.1, s4.2.2.2.2, s4.2.2.2.1⟩ : Ohist_Hist) s4.1 p1 f4_4 f4_3 hx5) ?_
    rintro v5 S5 h5 e5 w5 ⟨rw5_y0_2, q5_y0_3, t5_y0_3, a5_0, c5_0, rfl, rfl, f5_0, f5_1, f5_2⟩
    simp only [List.cons_append, List.nil_append]
    refine gM rfl rfl ?_
    refine gE rfl rfl rfl ?_
    refine gE rfl rfl rfl ?_
    refine gA rfl rfl ?_
    refine gA rfl rfl ?_
    refine go_nil ?_
    refine go_seq ?_
    refine go_seq ?_
    refine go_region ?_
    refine gM rfl rfl ?_
    refine gr rfl (r_bin (ot rfl) (oc rfl) rfl) ?_
    refine go_nil ?_
    refine g_cond (b := (x5.2.1 != 0)) (ot rfl) (fun hc6 => ?_) (fun hc6 => ?_)
    ·
      replace hF := ifT hc6 hF
      refine go_seq ?_
      refine go_region ?_
      refine gr rfl (r_build op0 rfl) ?_
      refine gM rfl rfl ?_
      refine gs_store (ot rfl) (ot rfl) sz_31 rfl rfl rfl rfl rfl (.s (.s (.s (.z)))) ?_
      refine gAc rfl rfl ?_
      refine gA rfl rfl ?_
      refine go_nil ?_
      obtain rfl := someI hF
      exact g_retS (.cons_cons _ (.cons_cons _ (.cons_cons _ (.cons _ (.cons _ (.refl _)))))) (.refl _) (rsc rfl (lm_w (mem_seg 3 rfl) ag_31 sz_31 rfl) (rst rfl (rst rfl rs0))) (fun h1 hf hs => ⟨[[⟨bp0, .cells [.int .i64 x5.2.2.bounds_rev, .int .i64 x5.2.2.bounds_hor, .map (some bp0m2), .slice q5_y0_3 x5.2.2.rows.length x5.2.2.rows.length] 90⟩], [⟨bp0m2, .map (encM kS id rw5_y0_2)⟩], t5_y0_3], _, hf, (e4.trans e5), w5, hs, (ndb (by intro e; cases e) (ndb (by intro e; cases e) (ndt f5_1 nd0))), ⟨_, _, _, _, _, rfl, rfl, f5_0, f5_1, (RL.nil _ _ _)⟩⟩)
    ·
      replace hF := ifF hc6 hF
      refine go_skip ?_
      refine go_seq ?_
      refine go_region ?_
      refine gr rfl (r_load (ot rfl) (lm_w (mem_seg 4 rfl) ag_23 sz_23 rfl)) ?_
      refine gM rfl rfl ?_
      refine gr rfl (r_bin (ot rfl) (oc rfl) rfl) ?_
      refine gr rfl (r_build (op1 (ot rfl) (op1 (ot rfl) op0)) rfl) ?_
      refine gM rfl rfl ?_
      refine gs_store (ot rfl) (ot rfl) sz_31 rfl rfl rfl rfl rfl (.s (.s (.s (.z)))) ?_
      refine gA rfl rfl ?_
      refine gAc rfl rfl ?_
      refine go_nil ?_
      obtain rfl := someI hF
      exact g_retS (.cons_cons _ (.cons_cons _ (.cons_cons _ (.cons _ (.cons _ (.refl _)))))) (.refl _) (rsc rfl (lm_w (mem_seg 3 rfl) ag_31 sz_31 rfl) (rst rfl (rst rfl rs0))) (fun h1 hf hs => ⟨[[⟨bp0, .cells [.int .i64 x5.2.2.bounds_rev, .int .i64 x5.2.2.bounds_hor, .map (some bp0m2), .slice q5_y0_3 x5.2.2.rows.length x5.2.2.rows.length] 90⟩], [⟨bp0m2, .map (encM kS id rw5_y0_2)⟩], t5_y0_3], _, hf, (e4.trans e5), w5, hs, (ndb (by intro e; cases e) (ndb (by intro e; cases e) (ndt f5_1 nd0))), ⟨_, _, _, _, _, rfl, rfl, f5_0, f5_1, f5_2⟩⟩)
  ·
    refine g_cond (b := (p2 == 0)) (ot rfl) (fun hc3 => ?_) (fun hc3 => ?_)
    ·
      replace hF := ifT hc3 hF
      refine go_region ?_
      refine gM rfl rfl ?_
      replace hF := obind hF
      obtain ⟨x7, hx7, hF⟩ := hF
      refine gs_call EE_fr hw (.cons (.s (.s (.z))) (.cons (.s (.s (.z))) (.cons (.s (.s (.z))) .nil))) (fun _ h => by cases h; rfl) of (os1 (ot rfl) os0) hb_21 (by exact s_hist_Hist_Rev hw p0 fm0_2 f0_3 hx7) ?_
      rintro v7 S7 h7 e7 w7 ⟨rw7_y0_2, q7_y0_3, t7_y0_3, rfl, rfl, f7_0, f7_1⟩
      simp only [List.cons_append, List.nil_append]
      refine gA rfl rfl ?_
      refine go_nil ?_
      obtain rfl := someI hF
      refine gs_perm (perm_of (d := []) _ [3, 4, 0, 1, 2] rfl) ?_
      exact Goes.weak (J4 (q7_y0_3, t7_y0_3, rw7_y0_2) _ e7 w7 ⟨f7_1, f7_0⟩) (Sub.cons (Sub.cons (Sub.cons (Sub.cons (Sub.cons (Sub.cons (Sub.nil _) rfl) rfl) rfl) rfl) rfl) rfl)
    ·
      replace hF := ifF hc3 hF
      refine go_skip ?_
      obtain rfl := someI hF
      exact Goes.weak (J4 (q0_3, t0_3, rw0_2) _ (HExt.refl _) hw ⟨f0_3, fm0_2⟩) (Sub.cons (Sub.cons (Sub.cons (Sub.cons (Sub.cons (Sub.cons (Sub.nil _) rfl) rfl) rfl) rfl) rfl) rfl)
theorem s_cursor_Poll (n : Nat) {h : Heap} (hw : Wf h) (p0 : Tcursor_Cursor) (p1 : Ohist_Hist) (p2 : Int) {bp1 : Nat} {bp1m2 : Nat} {rw1_2 : List (ByteArray × Value)} {q1_3 : Option Addr} {t1_3 : List Blk} (fm1_2 : MR R_TEvent h rw1_2 p1.keys) (f1_3 : AccR (Rep.sl R_TEvent 30) 30 h t1_3 (.slice q1_3 p1.rows.length p1.rows.length) p1.rows) {r : Tcursor_Cursor × Tcursor_Notice × Ohist_Hist} (hF : F_cursor_Poll n p0 p1 p2 = some r) :
    EvO EE 24 [.agg #[.string p0.R.From, .string p0.R.To, .int .i64 p0.Next, .bool p0.Once, .bool p0.Dead], .pointer (some ⟨bp1, 0, none⟩), .int .i64 p2] [[⟨bp1, .cells [.int .i64 p1.bounds_rev, .int .i64 p1.bounds_hor, .map (some bp1m2), .slice q1_3 p1.rows.length p1.rows.length] 90⟩], [⟨bp1m2, .map (encM kS id rw1_2)⟩], t1_3] h (fun v S h1 => ∃ rwy0_2 qy0_3 ty0_3 a0 c0, v = .tuple #[.agg #[.string r.1.R.From, .string r.1.R.To, .int .i64 r.1.Next, .bool r.1.Once, .bool r.1.Dead], .agg #[.int .i64 r.2.1.Err, .int .i64 r.2.1.Hor, .int .i64 r.2.1.Upto, .slice a0 r.2.1.Rows.length c0]] ∧ S = [[⟨bp1, .cells [.int .i64 r.2.2.bounds_rev, .int .i64 r.2.2.bounds_hor, .map (some bp1m2), .slice qy0_3 r.2.2.rows.length r.2.2.rows.length] 90⟩], [⟨bp1m2, .map (encM kS id rwy0_2)⟩], ty0_3] ∧ MR R_TEvent h1 rwy0_2 r.2.2.keys ∧ AccR (Rep.sl R_TEvent 30) 30 h1 ty0_3 (.slice qy0_3 r.2.2.rows.length r.2.2.rows.length) r.2.2.rows ∧ RL (Rep.sl R_TEvent 30) h1 a0 c0 r.2.1.Rows) := by
  unfold F_cursor_Poll at hF
  refine evo_of rfl at_24 rfl rfl ?_
  refine go_seq ?_
  refine go_region ?_
  refine gs_box rfl (ot rfl) rfl ?_; intro b3_1
  refine gs_alloc rfl zo_31 rfl ?_; intro b6_2
  refine gs_alloc rfl zo_34 rfl ?_; intro b7_3
  refine go_nil ?_
  refine go_seq ?_
  refine go_region ?_
  refine gM rfl rfl ?_
  replace hF := obind hF
  obtain ⟨x4, hx4, hF⟩ := hF
  refine gs_call EE_fr hw (.cons (.s (.s (.s (.z)))) (.cons (.s (.s (.s (.z)))) (.cons (.s (.s (.s (.z)))) .nil))) (fun _ h => by cases h; rfl) of (os1 (ot rfl) os0) hb_21 (by exact s_hist_Hist_Rev hw p1 fm1_2 f1_3 hx4) ?_
  rintro v4 S4 h4 e4 w4 ⟨rw4_y0_2, q4_y0_3, t4_y0_3, rfl, rfl, f4_0, f4_1⟩
  simp only [List.cons_append, List.nil_append]
  refine gM rfl rfl ?_
  replace hF := obind hF
  obtain ⟨x5, hx5, hF⟩ := hF
  refine gs_call EE_fr w4 (.cons .z (.cons .z (.cons .z .nil))) (fun _ h => by cases h; rfl) of (os1 (ot rfl) os0) hb_32 (by exact s_hist_Hist_Hor w4 (⟨x4.2.bounds_rev, x4.2.bounds_hor, x4.2.keys, x4.2.rows⟩ : Ohist_Hist) f4_0 f4_1 hx5) ?_
  rintro v5 S5 h5 e5 w5 ⟨rw5_y0_2, q5_y0_3, t5_y0_3, rfl, rfl, f5_0, f5_1⟩
  simp only [List.cons_append, List.nil_append]
  refine gr rfl (r_build (op1 (ot rfl) (op1 (ot rfl) op0)) rfl) ?_
  refine gs_alloc rfl zo_27 rfl ?_; intro b8_6
  refine gs_store (ot rfl) (ot rfl) sz_27 rfl rfl rfl rfl rfl .z ?_
  refine go_nil ?_
  refine go_seq ?_
  refine go_region ?_
  refine gAc rfl rfl ?_
  refine go_nil ?_
  refine go_seq ?_
  refine go_seq ?_
  refine go_region ?_
  refine gr rfl (r_load (ot rfl) (lm_w (mem_seg 6 rfl) ag_31 sz_31 rfl)) ?_
  refine gr rfl (r_load (ot rfl) (lm_w (mem_seg 0 rfl) ag_27 sz_27 rfl)) ?_
  refine gM rfl rfl ?_
  replace hF := obind hF
  obtain ⟨x7, hx7, hF⟩ := hF
  refine g_callp (v := .int .i64 x7) EE_fr rfl of (os1 (ot rfl) (os1 (ot rfl) (os1 (ot rfl) os0))) hb_15 (fun _ => rfl) (fun hf kn w => by exact s_cursor_Window w p0 (⟨0, x4.1, x5.1⟩ : THead) p2  hx7) ?_
  refine gMc rfl rfl ?_
  refine go_nil ?_
  replace hF := obind hF
  obtain ⟨s8, hF, hK8⟩ := hF
  refine go_joinc (β := Option Addr × List Blk × Option Addr × List Blk × List (ByteArray × Value)) (fun s h' => AccR (Rep.sl R_TEvent 30) 30 h' s.2.1 (.slice s.1 s8.1.length s8.1.length) s8.1 ∧ AccR (Rep.sl R_TEvent 30) 30 h' s.2.2.2.1 (.slice s.2.2.1 s8.2.2.2.1.length s8.2.2.2.1.length) s8.2.2.2.1 ∧ MR R_TEvent h' s.2.2.2.2 s8.2.2.2.2) (fun s => [(3, true, .pointer (some ⟨b3_1, 0, none⟩)), (6, true, .pointer (some ⟨b6_2, 0, none⟩)), (7, true, .pointer (some ⟨b7_3, 0, none⟩)), (8, true, .pointer (some ⟨b8_6, 0, none⟩)), (9, true, .slice s.1 s8.1.length s8.1.length)]) (fun s => (List.flatten [s.2.1, [⟨b8_6, .cells [.int .i64 0, .int .i64 x4.1, .int .i64 x5.1] 27⟩], [⟨bp1, .cells [.int .i64 s8.2.1, .int .i64 s8.2.2.1, .map (some bp1m2), .slice s.2.2.1 s8.2.2.2.1.length s8.2.2.2.1.length] 90⟩], [⟨bp1m2, .map (encM kS id s.2.2.2.2)⟩], s.2.2.2.1, [⟨b7_3, .cells [.int .i64 0, .int .i64 0, .int .i64 0, .slice none 0 0] 34⟩], [⟨b6_2, .cells [.string ByteArray.empty, .string ByteArray.empty, .int .i64 0, .bool false, .bool false] 31⟩], [⟨b3_1, .cells [.string p0.R.From, .string p0.R.To, .int .i64 p0.Next, .bool p0.Once, .bool p0.Dead] 31⟩]] : List Blk)) ?_ (fun J8 => ?_)
  ·
    rintro ⟨a8_0, a8_1, a8_2, a8_3, a8_4⟩ h8 e8 w8 ⟨f8_0, f8_3, f8_4⟩
    replace hF := hK8
    refine go_seq ?_
    refine go_region ?_
    refine gr rfl (r_load (ot rfl) (lm_w (mem_seg 7 rfl) ag_31 sz_31 rfl)) ?_
    refine gr rfl (r_load (ot rfl) (lm_w (mem_seg 1 rfl) ag_27 sz_27 rfl)) ?_
    refine gM rfl rfl ?_
    refine gs_accpub .z f8_0 (fun h10 e10 w10 f10_ => ?_) rfl
    replace hF := obind hF
    obtain ⟨x9, hx9, hF⟩ := hF
    refine g_call EE_fr (fun _ h => by cases h; rfl) of (os1 (ot rfl) (os1 (ot rfl) (os1 (ot rfl) os0))) hb_9 (fun hf kn w => by exact s_cursor_Deliver n w p0 (⟨0, x4.1, x5.1⟩ : THead) s8.1 (f10_.ext kn) hx9) ?_
    rintro v9 h9 e9 w9 ⟨a9_0, c9_0, rfl, f9_0⟩
    refine gE rfl rfl rfl ?_
    refine gE rfl rfl rfl ?_
    refine gs_store (ot rfl) (ot rfl) sz_31 rfl rfl rfl rfl rfl (.s (.s (.s (.s (.s (.z)))))) ?_
    refine gs_store (ot rfl) (ot rfl) sz_34 rfl rfl rfl rfl rfl (.s (.s (.s (.s (.z))))) ?_
    refine go_nil ?_
    obtain rfl := someI hF
    exact g_retS (.cons _ (.cons_cons _ (.cons_cons _ (.cons_cons _ (.cons _ (.cons _ (.cons _ (.refl _)))))))) (.refl _) (rsc rfl (lm_w (mem_seg 5 rfl) ag_31 sz_31 rfl) (rsc rfl (lm_w (mem_seg 4 rfl) ag_34 sz_34 rfl) rs0)) (fun h1 hf hs => ⟨[[⟨bp1, .cells [.int .i64 s8.2.1, .int .i64 s8.2.2.1, .map (some bp1m2), .slice a8_2 s8.2.2.2.1.length s8.2.2.2.1.length] 90⟩], [⟨bp1m2, .map (encM kS id a8_4)⟩], a8_3], _, hf, (e4.trans (e5.trans (e8.trans (e10.trans e9)))), w9, hs, (ndb (by intro e; cases e) (ndb (by intro e; cases e) (ndt ((f8_3.ext e10.kn).ext e9.kn) nd0))), ⟨_, _, _, _, _, rfl, rfl, ((f8_4.ext e10.kn).ext e9.kn), ((f8_3.ext e10.kn).ext e9.kn), f9_0⟩⟩)
  ·
    refine go_block ?_
    refine go_loop (α := Nat × (List (List TEvent)) × Int × Int × Int × (List (List TEvent)) × (List (ByteArray × (List TEvent))) × Option Addr × List Blk × Option Addr × List Blk × List (ByteArray × Value) × Heap) (fun a => HExt h5 a.2.2.2.2.2.2.2.2.2.2.2.2 ∧ Wf a.2.2.2.2.2.2.2.2.2.2.2.2 ∧ F_cursor_Poll_L1 p0 x7 a.1 a.2.1 a.2.2.1 a.2.2.2.1 a.2.2.2.2.1 a.2.2.2.2.2.1 a.2.2.2.2.2.2.1 = some s8 ∧ AccR (Rep.sl R_TEvent 30) 30 a.2.2.2.2.2.2.2.2.2.2.2.2 a.2.2.2.2.2.2.2.2.1 (.slice a.2.2.2.2.2.2.2.1 a.2.1.length a.2.1.length) a.2.1 ∧ AccR (Rep.sl R_TEvent 30) 30 a.2.2.2.2.2.2.2.2.2.2.2.2 a.2.2.2.2.2.2.2.2.2.2.1 (.slice a.2.2.2.2.2.2.2.2.2.1 a.2.2.2.2.2.1.length a.2.2.2.2.2.1.length) a.2.2.2.2.2.1 ∧ MR R_TEvent a.2.2.2.2.2.2.2.2.2.2.2.2 a.2.2.2.2.2.2.2.2.2.2.2.1 a.2.2.2.2.2.2.1) (fun a => a.1) (fun a => [(1, true, .pointer (some ⟨bp1, 0, none⟩)), (3, true, .pointer (some ⟨b3_1, 0, none⟩)), (6, true, .pointer (some ⟨b6_2, 0, none⟩)), (7, true, .pointer (some ⟨b7_3, 0, none⟩)), (8, true, .pointer (some ⟨b8_6, 0, none⟩)), (9, true, .slice a.2.2.2.2.2.2.2.1 a.2.1.length a.2.1.length), (21, true, .int .i64 x7), (22, true, .int .i64 a.2.2.1)]) (fun a => (List.flatten [a.2.2.2.2.2.2.2.2.1, [⟨b8_6, .cells [.int .i64 0, .int .i64 x4.1, .int .i64 x5.1] 27⟩], [⟨bp1, .cells [.int .i64 a.2.2.2.1, .int .i64 a.2.2.2.2.1, .map (some bp1m2), .slice a.2.2.2.2.2.2.2.2.2.1 a.2.2.2.2.2.1.length a.2.2.2.2.2.1.length] 90⟩], [⟨bp1m2, .map (encM kS id a.2.2.2.2.2.2.2.2.2.2.2.1)⟩], a.2.2.2.2.2.2.2.2.2.2.1, [⟨b7_3, .cells [.int .i64 0, .int .i64 0, .int .i64 0, .slice none 0 0] 34⟩], [⟨b6_2, .cells [.string ByteArray.empty, .string ByteArray.empty, .int .i64 0, .bool false, .bool false] 31⟩], [⟨b3_1, .cells [.string p0.R.From, .string p0.R.To, .int .i64 p0.Next, .bool p0.Once, .bool p0.Dead] 31⟩]] : List Blk)) (fun a => a.2.2.2.2.2.2.2.2.2.2.2.2) ?_ (n, ([] : List (List TEvent)), 0, x5.2.bounds_rev, x5.2.bounds_hor, x5.2.rows, x5.2.keys, none, [], q5_y0_3, t5_y0_3, rw5_y0_2, h5) ⟨HExt.refl _, w5, hF, (AccR.nil _ _ _), f5_1, f5_0⟩ (Sub.cons (Sub.cons (Sub.cons (Sub.cons (Sub.cons (Sub.cons (Sub.cons (Sub.cons (Sub.nil _) rfl) rfl) rfl) rfl) rfl) rfl) rfl) rfl) rfl rfl
    rintro ⟨m11, y11_0, y11_1, y11_2, y11_3, y11_4, y11_5, a11_0, a11_1, a11_2, a11_3, a11_4, h11⟩ ⟨e11, w11, hF, f11_0, f11_4, f11_5⟩ ih11
    rcases m11 with _ | m11
    ·
      rw [F_cursor_Poll_L1.eq_1] at hF; cases hF
    ·
      rw [F_cursor_Poll_L1.eq_2] at hF
      refine go_seq ?_
      refine go_region ?_
      refine gr rfl (r_bin (ot rfl) (ot rfl) rfl) ?_
      refine go_nil ?_
      refine go_seq ?_
      refine g_cond (b := (decide (y11_1 < x7))) (ot rfl) (fun hc12 => ?_) (fun hc12 => ?_)
      ·
        replace hF := ifT hc12 hF
        refine go_skip ?_
        refine go_seq ?_
        refine go_block ?_
        refine go_seq ?_
        refine go_region ?_
        refine gM rfl rfl ?_
        refine gA rfl rfl ?_
        refine go_nil ?_
        refine go_seq ?_
        refine go_region ?_
        refine gM rfl rfl ?_
        refine gr rfl (r_fa (ot rfl) (fa_31_1 _ _)) ?_
        refine gr rfl (r_load (ot rfl) (lm_s (mem_seg 7 rfl) ag_3 rfl)) ?_
        refine gM rfl rfl ?_
        refine gr rfl (r_bin (ot rfl) (ot rfl) rfl) ?_
        replace hF := obind hF
        obtain ⟨x13, hx13, hF⟩ := hF
        refine gs_call EE_fr w11 (.cons (.s (.s (.z))) (.cons (.s (.s (.z))) (.cons (.s (.s (.z))) .nil))) (fun _ h => by cases h; rfl) of (os1 (ot rfl) (os1 (ot rfl) os0)) hb_22 (by exact s_hist_Hist_Events w11 (⟨y11_2, y11_3, y11_5, y11_4⟩ : Ohist_Hist) (IntKind.i64.wrap (p0.Next + y11_1)) f11_5 f11_4 hx13) ?_
        rintro v13 S13 h13 e13 w13 ⟨rw13_y0_2, q13_y0_3, t13_y0_3, a13_0, c13_0, rfl, rfl, f13_0, f13_1, f13_2⟩
        simp only [List.cons_append, List.nil_append]
        refine gM rfl rfl ?_
        refine gE rfl rfl rfl ?_
        refine gE rfl rfl rfl ?_
        refine gA rfl rfl ?_
        refine gA rfl rfl ?_
        refine go_nil ?_
        refine go_region ?_
        refine gM rfl rfl ?_
        refine gM rfl rfl ?_
        refine gs_bslice (cs := [.slice a13_0 x13.1.length c13_0]) rfl (op1 (ot rfl) op0) ut_28 sz_30 zo_30 rfl rfl ?_; intro b36_14
        replace hF := obind hF
        obtain ⟨x15, hx15, hF⟩ := hF
        obtain ⟨hr15, hz15_⟩ := appL_some hx15; subst x15
        refine gs_front (.s (.s (.s (.s (.z))))) ?_
        refine gs_app (rows2 := [[.slice a13_0 x13.1.length c13_0]]) (R := (Rep.sl R_TEvent 30)) rfl (os1 (ot rfl) (os1 (ot rfl) os0)) rfl ut_28 sz_30 rfl (by decide) by_30 zo_30 rfl zs_28_28 rfl rfl (first_m (mem_seg 1 rfl) rfl (by decide)) (Rws.one (x := x13.1) (sl_C f13_2)) (f11_0.ext e13.kn) hr15 (fun p15_ tl15 f15_ => ?_)
        refine gA rfl rfl ?_
        refine go_nil ?_
        refine go_endb ?_
        refine go_region ?_
        refine gr rfl (r_bin (ot rfl) (oc rfl) rfl) ?_
        refine gM rfl rfl ?_
        refine go_nil ?_
        refine gs_sub (.cons_cons _ (.cons _ (.cons_cons _ (.cons_cons _ (.cons_cons _ (.cons_cons _ (.cons_cons _ (.cons_cons _ (.cons_cons _ (.refl _)))))))))) ?_
        refine gs_perm (perm_of (d := []) _ [0, 4, 1, 2, 3, 5, 6, 7] rfl) ?_
        exact Goes.weak (ih11 (m11, (y11_0 ++ ([x13.1] : List (List TEvent))), (IntKind.i64.wrap (y11_1 + 1)), x13.2.2.bounds_rev, x13.2.2.bounds_hor, x13.2.2.rows, x13.2.2.keys, p15_, tl15, q13_y0_3, t13_y0_3, rw13_y0_2, h13) ⟨(e11.trans e13), w13, hF, f15_, f13_1, f13_0⟩ (Nat.lt_succ_self _)) (Sub.cons (Sub.cons (Sub.cons (Sub.cons (Sub.cons (Sub.cons (Sub.cons (Sub.cons (Sub.nil _) rfl) rfl) rfl) rfl) rfl) rfl) rfl) rfl)
      ·
        replace hF := ifF hc12 hF
        refine go_exit rfl ?_
        obtain rfl := someI hF
        exact Goes.weak (J8 (a11_0, a11_1, a11_2, a11_3, a11_4) _ e11 w11 ⟨f11_0, f11_4, f11_5⟩) (Sub.cons (Sub.cons (Sub.cons (Sub.cons (Sub.cons (Sub.nil _) rfl) rfl) rfl) rfl) rfl)
theorem s_cursor_Token {h : Heap} (hw : Wf h) (p0 : Tcursor_Cursor)   {r : Ttoken_Token} (hF : F_cursor_Token p0 = some r) :
    Ev EE 31 [.agg #[.string p0.R.From, .string p0.R.To, .int .i64 p0.Next, .bool p0.Once, .bool p0.Dead]] h (fun v _ => v = .agg #[.string r.R.From, .string r.R.To, .int .i64 r.Next, .bool r.Once]) := by
  unfold F_cursor_Token at hF
  refine ev_of hw rfl at_31 rfl rfl (go_seg0 ?_)
  refine go_seq ?_
  refine go_region ?_
  refine gs_box rfl (ot rfl) rfl ?_; intro b1_1
  refine gs_alloc rfl zo_74 rfl ?_; intro b2_2
  refine go_nil ?_
  refine go_seq ?_
  refine go_region ?_
  refine gr rfl (r_fa (ot rfl) (fa_31_0 _ _)) ?_
  refine gr rfl (r_load (ot rfl) (lm_a (vs := [_, _]) (mem_seg 1 rfl) ag_23 sz_23 rfl rfl)) ?_
  refine gr rfl (r_fa (ot rfl) (fa_31_1 _ _)) ?_
  refine gr rfl (r_load (ot rfl) (lm_s (mem_seg 1 rfl) ag_3 rfl)) ?_
  refine gr rfl (r_fa (ot rfl) (fa_31_2 _ _)) ?_
  refine gr rfl (r_load (ot rfl) (lm_s (mem_seg 1 rfl) ag_4 rfl)) ?_
  refine gr rfl (r_build (op1 (ot rfl) (op1 (ot rfl) (op1 (ot rfl) op0))) rfl) ?_
  refine gs_store (ot rfl) (ot rfl) sz_74 rfl rfl rfl rfl rfl .z ?_
  refine go_nil ?_
  obtain rfl := someI hF
  exact g_ret (rsc rfl (lm_w (mem_seg 0 rfl) ag_74 sz_74 rfl) rs0) (fun h1 hf hs => ⟨hs.hext, rfl⟩)
theorem s_cursor_Resume {h : Heap} (hw : Wf h) (p0 : Ttoken_Token)   {r : Tcursor_Cursor} (hF : F_cursor_Resume p0 = some r) :
    Ev EE 30 [.agg #[.string p0.R.From, .string p0.R.To, .int .i64 p0.Next, .bool p0.Once]] h (fun v _ => v = .agg #[.string r.R.From, .string r.R.To, .int .i64 r.Next, .bool r.Once, .bool r.Dead]) := by
  unfold F_cursor_Resume at hF
  refine ev_of hw rfl at_30 rfl rfl (go_seg0 ?_)
  refine go_seq ?_
  refine go_region ?_
  refine gs_box rfl (ot rfl) rfl ?_; intro b1_1
  refine gs_alloc rfl zo_31 rfl ?_; intro b2_2
  refine go_nil ?_
  refine go_seq ?_
  refine go_region ?_
  refine gr rfl (r_fa (ot rfl) (fa_74_0 _ _)) ?_
  refine gr rfl (r_load (ot rfl) (lm_a (vs := [_, _]) (mem_seg 1 rfl) ag_23 sz_23 rfl rfl)) ?_
  refine gr rfl (r_fa (ot rfl) (fa_74_1 _ _)) ?_
  refine gr rfl (r_load (ot rfl) (lm_s (mem_seg 1 rfl) ag_3 rfl)) ?_
  refine gr rfl (r_fa (ot rfl) (fa_74_2 _ _)) ?_
  refine gr rfl (r_load (ot rfl) (lm_s (mem_seg 1 rfl) ag_4 rfl)) ?_
  refine gr rfl (r_build (op1 (ot rfl) (op1 (ot rfl) (op1 (ot rfl) op0))) rfl) ?_
  refine gs_store (ot rfl) (ot rfl) sz_31 rfl rfl rfl rfl rfl .z ?_
  refine go_nil ?_
  obtain rfl := someI hF
  exact g_ret (rsc rfl (lm_w (mem_seg 0 rfl) ag_31 sz_31 rfl) rs0) (fun h1 hf hs => ⟨hs.hext, rfl⟩)
end Go.Proofs.Ytfgoccdjbgecfaa.V
