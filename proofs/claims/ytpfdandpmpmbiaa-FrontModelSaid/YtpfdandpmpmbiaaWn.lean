/- Walks.
   No condition: these are laws of the clean machine and of this program. -/
import Derived.Test.YtpfdandpmpmbiaaPT
import Derived.Test.YtpfdandpmpmbiaaWt
namespace Go.Proofs.Ytpfdandpmpmbiaa.V
open Go
set_option linter.unusedVariables false
set_option linter.unusedSimpArgs false
set_option maxRecDepth 100000
set_option maxHeartbeats 4000000
theorem s_front_At {h : Heap} (hw : Wf h) (p0 : TReq) (p1 : THead) {a0_4 : Option Addr} {c0_4 : Nat} {a0_5 : Option Addr} {c0_5 : Nat} {a0_6 : Option Addr} {c0_6 : Nat} (f0_4 : RL R_TCmp h a0_4 c0_4 p0.Cmps) (f0_5 : RL R_TOp h a0_5 c0_5 p0.Then) (f0_6 : RL R_TOp h a0_6 c0_6 p0.Else) {r : Int × Int} (hF : F_front_At p0 p1 = some r) :
    Ev EE 42 [.agg #[.int .i64 p0.Kind, .string p0.R.From, .string p0.R.To, .int .i64 p0.Rev, .slice a0_4 p0.Cmps.length c0_4, .slice a0_5 p0.Then.length c0_5, .slice a0_6 p0.Else.length c0_6], .agg #[.int .i64 p1.Seq, .int .i64 p1.Rev, .int .i64 p1.Hor]] h (fun v _ => v = .tuple #[.int .i64 r.1, .int .i64 r.2]) := by
  unfold F_front_At at hF
  refine ev_of hw rfl at_42 rfl rfl (go_seg0 ?_)
  refine go_seq ?_
  refine go_region ?_
  refine gs_box rfl (ot rfl) rfl ?_; intro b2_1
  refine gs_box rfl (ot rfl) rfl ?_; intro b3_2
  refine gAc rfl rfl ?_
  refine gAc rfl rfl ?_
  refine go_nil ?_
  refine go_seq ?_
  refine go_region ?_
  refine gr rfl (r_fa (ot rfl) (fa_61_2 _ _)) ?_
  refine gr rfl (r_load (ot rfl) (lm_s (mem_seg 1 rfl) ag_3 rfl)) ?_
  refine gA rfl rfl ?_
  refine go_nil ?_
  refine go_seq ?_
  refine go_seq ?_
  refine go_region ?_
  refine gM rfl rfl ?_
  refine gr rfl (r_bin (ot rfl) (oc rfl) rfl) ?_
  refine go_nil ?_
  replace hF := obind hF
  obtain ⟨s4, hF, hK4⟩ := hF
  refine go_joinc (β := Unit) (fun s h' => True) (fun s => [(3, true, .pointer (some ⟨b3_2, 0, none⟩)), (4, true, .int .i64 0), (5, true, .int .i64 0), (6, true, .int .i64 s4)]) (fun s => (List.flatten [[⟨b3_2, .cells [.int .i64 p1.Seq, .int .i64 p1.Rev, .int .i64 p1.Hor] 71⟩], [⟨b2_1, .cells [.int .i64 p0.Kind, .string p0.R.From, .string p0.R.To, .int .i64 p0.Rev, .slice a0_4 p0.Cmps.length c0_4, .slice a0_5 p0.Then.length c0_5, .slice a0_6 p0.Else.length c0_6] 61⟩]] : List Blk)) ?_ (fun J4 => ?_)
  ·
    rintro _ h4 e4 w4 _
    replace hF := hK4
    refine go_seq ?_
    refine go_block ?_
    refine go_seq ?_
    refine go_region ?_
    refine gM rfl rfl ?_
    refine gr rfl (r_fa (ot rfl) (fa_71_2 _ _)) ?_
    refine gr rfl (r_load (ot rfl) (lm_s (mem_seg 0 rfl) ag_3 rfl)) ?_
    refine gr rfl (r_bin (ot rfl) (ot rfl) rfl) ?_
    refine gA rfl rfl ?_
    refine go_nil ?_
    refine g_cond (b := (decide (s4 < p1.Hor))) (ot rfl) (fun hc5 => ?_) (fun hc5 => ?_)
    ·
      replace hF := ifT hc5 hF
      refine go_seq ?_
      refine go_region ?_
      refine gAc rfl rfl ?_
      refine gAc rfl rfl ?_
      refine go_nil ?_
      obtain rfl := someI hF
      exact g_ret (rst rfl (rst rfl rs0)) (fun h1 hf hs => ⟨(e4.trans hs.hext), rfl⟩)
    ·
      replace hF := ifF hc5 hF
      refine go_seq ?_
      refine go_region ?_
      refine gM rfl rfl ?_
      refine gr rfl (r_fa (ot rfl) (fa_71_1 _ _)) ?_
      refine gr rfl (r_load (ot rfl) (lm_s (mem_seg 0 rfl) ag_3 rfl)) ?_
      refine gr rfl (r_bin (ot rfl) (ot rfl) rfl) ?_
      refine gA rfl rfl ?_
      refine go_nil ?_
      refine g_cond (b := (decide (s4 > p1.Rev))) (ot rfl) (fun hc6 => ?_) (fun hc6 => ?_)
      ·
        replace hF := ifT hc6 hF
        refine go_seq ?_
        refine go_region ?_
        refine gAc rfl rfl ?_
        refine gAc rfl rfl ?_
        refine go_nil ?_
        obtain rfl := someI hF
        exact g_ret (rst rfl (rst rfl rs0)) (fun h1 hf hs => ⟨(e4.trans hs.hext), rfl⟩)
      ·
        replace hF := ifF hc6 hF
        refine go_skip ?_
        refine go_endb ?_
        refine go_seq ?_
        refine go_region ?_
        refine gM rfl rfl ?_
        refine gA rfl rfl ?_
        refine gAc rfl rfl ?_
        refine go_nil ?_
        obtain rfl := someI hF
        exact g_ret (rst rfl (rst rfl rs0)) (fun h1 hf hs => ⟨(e4.trans hs.hext), rfl⟩)
  ·
    refine g_cond (b := (p0.Rev == 0)) (ot rfl) (fun hc3 => ?_) (fun hc3 => ?_)
    ·
      replace hF := ifT hc3 hF
      refine go_region ?_
      refine gr rfl (r_fa (ot rfl) (fa_71_1 _ _)) ?_
      refine gr rfl (r_load (ot rfl) (lm_s (mem_seg 0 rfl) ag_3 rfl)) ?_
      refine gA rfl rfl ?_
      refine go_nil ?_
      obtain rfl := someI hF
      exact Goes.weak (J4 () _ (HExt.refl _) hw trivial) (Sub.cons (Sub.cons (Sub.cons (Sub.cons (Sub.nil _) rfl) rfl) rfl) rfl)
    ·
      replace hF := ifF hc3 hF
      refine go_skip ?_
      obtain rfl := someI hF
      exact Goes.weak (J4 () _ (HExt.refl _) hw trivial) (Sub.cons (Sub.cons (Sub.cons (Sub.cons (Sub.nil _) rfl) rfl) rfl) rfl)
theorem s_front_Read {h : Heap} (hw : Wf h) (p0 : TReq) (p1 : (List TKV)) (p2 : THead) {a0_4 : Option Addr} {c0_4 : Nat} {a0_5 : Option Addr} {c0_5 : Nat} {a0_6 : Option Addr} {c0_6 : Nat} {a1_0 : Option Addr} {c1_0 : Nat} (f0_4 : RL R_TCmp h a0_4 c0_4 p0.Cmps) (f0_5 : RL R_TOp h a0_5 c0_5 p0.Then) (f0_6 : RL R_TOp h a0_6 c0_6 p0.Else) (f1_0 : RL R_TKV h a1_0 c1_0 p1) {r : TResp} (hF : F_front_Read p0 p1 p2 = some r) :
    Ev EE 44 [.agg #[.int .i64 p0.Kind, .string p0.R.From, .string p0.R.To, .int .i64 p0.Rev, .slice a0_4 p0.Cmps.length c0_4, .slice a0_5 p0.Then.length c0_5, .slice a0_6 p0.Else.length c0_6], .slice a1_0 p1.length c1_0, .agg #[.int .i64 p2.Seq, .int .i64 p2.Rev, .int .i64 p2.Hor]] h (fun v h1 => ∃ a0 c0, v = .agg #[.int .i64 r.H.Seq, .int .i64 r.H.Rev, .int .i64 r.H.Hor, .int .i64 r.Err, .bool r.Ok, .slice a0 r.L.length c0] ∧ RL R_TKV h1 a0 c0 r.L) := by
  unfold F_front_Read at hF
  refine ev_of hw rfl at_44 rfl rfl (go_seg0 ?_)
  refine go_seq ?_
  refine go_region ?_
  refine gs_box rfl (ot rfl) rfl ?_; intro b3_1
  refine gs_box rfl (ot rfl) rfl ?_; intro b5_2
  refine gs_alloc rfl zo_73 rfl ?_; intro b6_3
  refine go_nil ?_
  refine go_seq ?_
  refine go_seq ?_
  refine go_region ?_
  refine gr rfl (r_load (ot rfl) (lm_w (mem_seg 2 rfl) ag_61 sz_61 rfl)) ?_
  refine gr rfl (r_load (ot rfl) (lm_w (mem_seg 1 rfl) ag_71 sz_71 rfl)) ?_
  replace hF := obind hF
  obtain ⟨x4, hx4, hF⟩ := hF
  refine g_callp (v := .tuple #[.int .i64 x4.1, .int .i64 x4.2]) EE_fr rfl of (os1 (ot rfl) (os1 (ot rfl) os0)) hb_42 (fun _ => rfl) (fun hf kn w => by exact s_front_At w p0 p2 (f0_4.ext kn) (f0_5.ext kn) (f0_6.ext kn) hx4) ?_
  refine gM rfl rfl ?_
  refine gE rfl rfl rfl ?_
  refine gE rfl rfl rfl ?_
  refine gA rfl rfl ?_
  refine gA rfl rfl ?_
  refine go_nil ?_
  refine go_seq ?_
  refine go_region ?_
  refine gM rfl rfl ?_
  refine gr rfl (r_bin (ot rfl) (oc rfl) rfl) ?_
  refine go_nil ?_
  refine g_cond (b := (x4.2 != 0)) (ot rfl) (fun hc5 => ?_) (fun hc5 => ?_)
  ·
    replace hF := ifT hc5 hF
    refine go_seq ?_
    refine go_region ?_
    refine gr rfl (r_load (ot rfl) (lm_w (mem_seg 1 rfl) ag_71 sz_71 rfl)) ?_
    refine gM rfl rfl ?_
    refine gr rfl (r_build (op1 (ot rfl) (op1 (ot rfl) op0)) rfl) ?_
    refine gs_store (ot rfl) (ot rfl) sz_73 rfl rfl rfl rfl rfl .z ?_
    refine go_nil ?_
    obtain rfl := someI hF
    exact g_ret (rsc rfl (lm_w (mem_seg 0 rfl) ag_73 sz_73 rfl) rs0) (fun h1 hf hs => ⟨hs.hext, ⟨_, _, rfl, (RL.nil _ _ _)⟩⟩)
  ·
    replace hF := ifF hc5 hF
    refine go_skip ?_
    refine go_seq ?_
    refine go_region ?_
    refine gr rfl (r_load (ot rfl) (lm_w (mem_seg 1 rfl) ag_71 sz_71 rfl)) ?_
    refine gM rfl rfl ?_
    refine gr rfl (r_build (op1 (ot rfl) (op1 (ot rfl) op0)) rfl) ?_
    refine gs_store (ot rfl) (ot rfl) sz_73 rfl rfl rfl rfl rfl .z ?_
    refine go_nil ?_
    obtain rfl := someI hF
    exact g_ret (rsc rfl (lm_w (mem_seg 0 rfl) ag_73 sz_73 rfl) rs0) (fun h1 hf hs => ⟨hs.hext, ⟨_, _, rfl, (f1_0.ext hs.hext.kn)⟩⟩)
theorem s_front_rows {h : Heap} (hw : Wf h) (p0 : Int) (p1 : (List TOp)) {a1_0 : Option Addr} {c1_0 : Nat} (f1_0 : RL R_TOp h a1_0 c1_0 p1) {r : (List TEvent)} (hF : F_front_rows p0 p1 = some r) :
    Ev EE 77 [.int .i64 p0, .slice a1_0 p1.length c1_0] h (fun v h1 => ∃ a0 c0, v = .slice a0 r.length c0 ∧ RL R_TEvent h1 a0 c0 r) := by
  unfold F_front_rows at hF
  refine ev_of hw rfl at_77 rfl rfl (go_seg0 ?_)
  refine go_seq ?_
  refine go_region ?_
  refine gAc rfl rfl ?_
  refine go_nil ?_
  refine go_seq ?_
  refine go_region ?_
  refine gAc rfl rfl ?_
  refine go_nil ?_
  refine go_seq ?_
  refine go_seq ?_
  refine go_region ?_
  refine gM rfl rfl ?_
  refine gr rfl (r_len rfl (os1 (ot rfl) os0) (fun _ _ => ln_39)) ?_
  refine gMc rfl rfl ?_
  refine go_nil ?_
  replace hF := obind hF
  obtain ⟨s1, hF, hK1⟩ := hF
  refine go_joinc (β := Option Addr × List Blk) (fun s h' => AccR R_TEvent 108 h' s.2 (.slice s.1 s1.length s1.length) s1) (fun s => [(4, true, .slice none 0 0), (5, true, .slice s.1 s1.length s1.length)]) (fun s => (List.flatten [s.2] : List Blk)) ?_ (fun J1 => ?_)
  ·
    rintro ⟨a1_0, a1_1⟩ h1 e1 w1 f1_0
    replace hF := hK1
    refine go_seq ?_
    refine go_region ?_
    refine gM rfl rfl ?_
    refine gA rfl rfl ?_
    refine go_nil ?_
    refine gs_accpub .z f1_0 (fun h2 e2 w2 f2_ => ?_) rfl
    obtain rfl := someI hF
    exact g_ret (rst rfl rs0) (fun h1 hf hs => ⟨(e1.trans (e2.trans hs.hext)), ⟨_, _, rfl, (f2_.ext hs.hext.kn)⟩⟩)
  ·
    refine go_block ?_
    refine go_loop (α := (List TOp) × Nat × (List TEvent) × Option Addr × List Blk × Heap) (fun a => a.1 = List.drop a.2.1 p1 ∧ HExt h a.2.2.2.2.2 ∧ Wf a.2.2.2.2.2 ∧ F_front_rows_L1 p0 a.1 a.2.1 a.2.2.1 = some s1 ∧ AccR R_TEvent 108 a.2.2.2.2.2 a.2.2.2.2.1 (.slice a.2.2.2.1 a.2.2.1.length a.2.2.1.length) a.2.2.1) (fun a => a.1.length) (fun a => [(0, true, .int .i64 p0), (4, true, .slice none 0 0), (5, true, .slice a.2.2.2.1 a.2.2.1.length a.2.2.1.length), (9, true, .slice a1_0 p1.length c1_0), (10, true, .int .i64 (p1.length : Int)), (11, true, .int .i64 (a.2.1 : Int))]) (fun a => (List.flatten [a.2.2.2.2.1] : List Blk)) (fun a => a.2.2.2.2.2) ?_ (p1, 0, ([] : List TEvent), none, [], h) ⟨rfl, HExt.refl _, hw, hF, (AccR.nil _ _ _)⟩ (Sub.cons (Sub.cons (Sub.cons (Sub.cons (Sub.cons (Sub.cons (Sub.nil _) rfl) rfl) rfl) rfl) rfl) rfl) rfl rfl
    rintro ⟨r3, i3, y3_0, a3_0, a3_1, h3⟩ ⟨hr3, e3, w3, hF, f3_0⟩ ih3
    rcases r3 with _ | ⟨z3, r3⟩
    ·
      have hi3 := drop_nil hr3
      rw [F_front_rows_L1.eq_1] at hF
      refine go_seq ?_
      refine go_region ?_
      refine gr rfl (r_bin (ot rfl) (ot rfl) rfl) ?_
      refine go_cast (.bool false) (congrArg Value.bool (decide_eq_false hi3)) ?_
      refine go_nil ?_
      refine go_seq ?_
      refine g_cond (b := false) (ot rfl) (fun hc4 => ?_) (fun hc4 => ?_)
      · cases hc4
      refine go_exit rfl ?_
      obtain rfl := someI hF
      exact Goes.weak (J1 (a3_0, a3_1) _ e3 w3 f3_0) (Sub.cons (Sub.cons (Sub.nil _) rfl) rfl)
    ·
      obtain ⟨hi3, hx3, hr3⟩ := drop_cons hr3
      have hb3 := (f1_0.ext e3.kn).1
      rw [F_front_rows_L1.eq_2] at hF
      refine go_seq ?_
      refine go_region ?_
      refine gr rfl (r_bin (ot rfl) (ot rfl) rfl) ?_
      refine go_cast (.bool true) (congrArg Value.bool (decide_eq_true (Int.ofNat_lt.mpr hi3))) ?_
      refine go_nil ?_
      refine go_seq ?_
      refine g_cond (b := true) (ot rfl) (fun hc5 => ?_) (fun hc5 => ?_)
      rotate_left
      · cases hc5
      refine go_skip ?_
      refine go_seq ?_
      refine go_block ?_
      refine go_seq ?_
      refine go_region ?_
      obtain ⟨q6, row6, i6, cl6, rc6, sp6⟩ := ix (ik := .i64) (cap := c1_0) (E := EE) (f1_0.ext e3.kn) ((getI_nat _ _).trans hx3) ut_39 sz_45 rfl
      obtain rfl := rc6
      refine gr rfl (r_ia (ot rfl) (ot rfl) i6) ?_
      refine gr rfl (r_load (ot rfl) (v := .agg #[.string z3.Key, .string z3.Val, .bool z3.Del]) (lo_e (fun hf kn => ld_of (r := [.string z3.Key, .string z3.Val, .bool z3.Del]) ag_45 sz_45 (kn.cellsAt cl6)))) ?_
      refine gs_alloc rfl zo_45 rfl ?_; intro b7_7
      refine gs_store (ot rfl) (ot rfl) sz_45 rfl rfl rfl rfl rfl .z ?_
      refine go_nil ?_
      refine go_seq ?_
      refine go_region ?_
      refine gM rfl rfl ?_
      refine gr rfl (r_fa (ot rfl) (fa_45_0 _ _)) ?_
      refine gr rfl (r_load (ot rfl) (lm_s (mem_seg 0 rfl) ag_9 rfl)) ?_
      refine gr rfl (r_fa (ot rfl) (fa_45_1 _ _)) ?_
      refine gr rfl (r_load (ot rfl) (lm_s (mem_seg 0 rfl) ag_9 rfl)) ?_
      refine gr rfl (r_fa (ot rfl) (fa_45_2 _ _)) ?_
      refine gr rfl (r_load (ot rfl) (lm_s (mem_seg 0 rfl) ag_4 rfl)) ?_
      refine gr rfl (r_build (op1 (ot rfl) (op1 (ot rfl) (op1 (ot rfl) (op1 (ot rfl) op0)))) rfl) ?_
      refine gs_alloc rfl zo_108 rfl ?_; intro b8_8
      refine gs_store (ot rfl) (ot rfl) sz_108 rfl rfl rfl rfl rfl .z ?_
      refine go_nil ?_
      refine go_seq ?_
      refine go_seq ?_
      refine go_region ?_
      refine gr rfl (r_fa (ot rfl) (fa_45_2 _ _)) ?_
      refine gr rfl (r_load (ot rfl) (lm_s (mem_seg 1 rfl) ag_4 rfl)) ?_
      refine go_nil ?_
      replace hF := obind hF
      obtain ⟨s10, hF, hK10⟩ := hF
      refine go_joinc (β := Unit) (fun s h' => True) (fun s => [(0, true, .int .i64 p0), (4, true, .slice none 0 0), (5, true, .slice a3_0 y3_0.length y3_0.length), (7, true, .pointer (some ⟨b7_7, 0, none⟩)), (8, true, .pointer (some ⟨b8_8, 0, none⟩)), (9, true, .slice a1_0 p1.length c1_0), (10, true, .int .i64 (p1.length : Int)), (11, true, .int .i64 (i3 : Int)), (12, true, .bool true), (13, true, .pointer (some q6)), (14, true, .agg #[.string z3.Key, .string z3.Val, .bool z3.Del]), (15, true, .int .i64 p0), (16, true, .pointer (some ⟨b7_7, 0, none⟩)), (17, true, .string z3.Key), (18, true, .pointer (some ⟨b7_7, 1, none⟩)), (19, true, .string z3.Val), (20, true, .pointer (some ⟨b7_7, 2, none⟩)), (21, true, .bool z3.Del), (22, true, .agg #[.int .i64 p0, .string z3.Key, .string z3.Val, .bool z3.Del]), (23, true, .pointer (some ⟨b7_7, 2, none⟩)), (24, true, .bool z3.Del)]) (fun s => (List.flatten [[⟨b8_8, .cells [.int .i64 p0, .string z3.Key, .string s10, .bool z3.Del] 108⟩], [⟨b7_7, .cells [.string z3.Key, .string z3.Val, .bool z3.Del] 45⟩], a3_1] : List Blk)) ?_ (fun J10 => ?_)
      ·
        rintro _ h10 e10 w10 _
        replace hF := hK10
        refine go_region ?_
        refine gM rfl rfl ?_
        refine gr rfl (r_load (ot rfl) (lm_w (mem_seg 0 rfl) ag_108 sz_108 rfl)) ?_
        refine gs_bslice (cs := [.int .i64 p0, .string z3.Key, .string s10, .bool z3.Del]) rfl (op1 (ot rfl) op0) ut_50 sz_108 zo_108 rfl rfl ?_; intro b28_11
        replace hF := obind hF
        obtain ⟨x12, hx12, hF⟩ := hF
        obtain ⟨hr12, hz12_⟩ := appL_some hx12; subst x12
        refine gs_front (.s (.s (.s (.z)))) ?_
        refine gs_app (rows2 := [[.int .i64 p0, .string z3.Key, .string s10, .bool z3.Del]]) (R := R_TEvent) rfl (os1 (ot rfl) (os1 (ot rfl) os0)) rfl ut_50 sz_108 rfl (by decide) by_108 zo_108 rfl zs_50_50 rfl rfl (first_m (mem_seg 1 rfl) rfl (by decide)) (Rws.one (x := (⟨p0, z3.Key, s10, z3.Del⟩ : TEvent)) rfl) (f3_0.ext e10.kn) hr12 (fun p12_ tl12 f12_ => ?_)
        refine gA rfl rfl ?_
        refine go_nil ?_
        refine go_endb ?_
        refine go_region ?_
        refine gr rfl (r_bin (ot rfl) (oc rfl) rfl) ?_
        refine gM rfl rfl ?_
        refine go_nil ?_
        refine gs_sub (.cons_cons _ (.cons _ (.cons _ (.cons _ (.refl _))))) ?_
        refine go_re 11 (v2 := .int .i64 ((i3 + 1 : Nat) : Int)) rfl (wrap_succ hi3 hb3) ?_
        exact Goes.weak (ih3 (r3, i3 + 1, (y3_0 ++ ([(⟨p0, z3.Key, s10, z3.Del⟩ : TEvent)] : List TEvent)), p12_, tl12, h10) ⟨hr3, (e3.trans e10), w10, hF, f12_⟩ (Nat.lt_succ_self _)) (Sub.cons (Sub.cons (Sub.cons (Sub.cons (Sub.cons (Sub.cons (Sub.nil _) rfl) rfl) rfl) rfl) rfl) rfl)
      ·
        refine g_cond (b := z3.Del) (ot rfl) (fun hc9 => ?_) (fun hc9 => ?_)
        ·
          replace hF := ifT hc9 hF
          refine go_region ?_
          refine gr rfl (r_fa (ot rfl) (fa_108_2 _ _)) ?_
          refine gs_store (ot rfl) (oc rfl) sz_9 rfl rfl rfl rfl rfl .z ?_
          refine go_nil ?_
          obtain rfl := someI hF
          exact Goes.weak (J10 () _ (HExt.refl _) w3 trivial) (Sub.cons (Sub.cons (Sub.cons (Sub.cons (Sub.cons (Sub.cons (Sub.cons (Sub.cons (Sub.cons (Sub.cons (Sub.cons (Sub.cons (Sub.cons (Sub.cons (Sub.cons (Sub.cons (Sub.cons (Sub.cons (Sub.cons (Sub.cons (Sub.cons (Sub.nil _) rfl) rfl) rfl) rfl) rfl) rfl) rfl) rfl) rfl) rfl) rfl) rfl) rfl) rfl) rfl) rfl) rfl) rfl) rfl) rfl) rfl)
        ·
          replace hF := ifF hc9 hF
          refine go_skip ?_
          obtain rfl := someI hF
          exact Goes.weak (J10 () _ (HExt.refl _) w3 trivial) (Sub.cons (Sub.cons (Sub.cons (Sub.cons (Sub.cons (Sub.cons (Sub.cons (Sub.cons (Sub.cons (Sub.cons (Sub.cons (Sub.cons (Sub.cons (Sub.cons (Sub.cons (Sub.cons (Sub.cons (Sub.cons (Sub.cons (Sub.cons (Sub.cons (Sub.nil _) rfl) rfl) rfl) rfl) rfl) rfl) rfl) rfl) rfl) rfl) rfl) rfl) rfl) rfl) rfl) rfl) rfl) rfl) rfl) rfl) rfl)
theorem s_front_Decide (n : Nat) {h : Heap} (hw : Wf h) (p0 : TReq) (p1 : (List TKV)) (p2 : THead) {a0_4 : Option Addr} {c0_4 : Nat} {a0_5 : Option Addr} {c0_5 : Nat} {a0_6 : Option Addr} {c0_6 : Nat} {a1_0 : Option Addr} {c1_0 : Nat} (f0_4 : RL R_TCmp h a0_4 c0_4 p0.Cmps) (f0_5 : RL R_TOp h a0_5 c0_5 p0.Then) (f0_6 : RL R_TOp h a0_6 c0_6 p0.Else) (f1_0 : RL R_TKV h a1_0 c1_0 p1) {r : Tfront_Plan} (hF : F_front_Decide n p0 p1 p2 = some r) :
    Ev EE 45 [.agg #[.int .i64 p0.Kind, .string p0.R.From, .string p0.R.To, .int .i64 p0.Rev, .slice a0_4 p0.Cmps.length c0_4, .slice a0_5 p0.Then.length c0_5, .slice a0_6 p0.Else.length c0_6], .slice a1_0 p1.length c1_0, .agg #[.int .i64 p2.Seq, .int .i64 p2.Rev, .int .i64 p2.Hor]] h (fun v h1 => ∃ a0 c0, v = .agg #[.bool r.Ok, .slice a0 r.Rows.length c0, .int .i64 r.Err, .int .i64 r.Hor] ∧ RL R_TEvent h1 a0 c0 r.Rows) := by
  unfold F_front_Decide at hF
  refine ev_of hw rfl at_45 rfl rfl (go_seg0 ?_)
  refine go_seq ?_
  refine go_region ?_
  refine gs_box rfl (ot rfl) rfl ?_; intro b3_1
  refine gs_box rfl (ot rfl) rfl ?_; intro b5_2
  refine gs_alloc rfl zo_90 rfl ?_; intro b6_3
  refine go_nil ?_
  refine go_seq ?_
  refine go_seq ?_
  refine go_region ?_
  refine gr rfl (r_fa (ot rfl) (fa_61_0 _ _)) ?_
  refine gr rfl (r_load (ot rfl) (lm_s (mem_seg 2 rfl) ag_3 rfl)) ?_
  refine go_nil ?_
  refine go_block ?_
  refine go_seq ?_
  refine go_region ?_
  refine gr rfl (r_bin (ot rfl) (oc rfl) rfl) ?_
  refine gA rfl rfl ?_
  refine go_nil ?_
  refine g_cond (b := (p0.Kind == 3)) (ot rfl) (fun hc4 => ?_) (fun hc4 => ?_)
  ·
    replace hF := ifT hc4 hF
    refine go_seq ?_
    refine go_seq ?_
    refine go_region ?_
    refine gr rfl (r_fa (ot rfl) (fa_61_2 _ _)) ?_
    refine gr rfl (r_load (ot rfl) (lm_s (mem_seg 2 rfl) ag_3 rfl)) ?_
    refine gr rfl (r_fa (ot rfl) (fa_71_1 _ _)) ?_
    refine gr rfl (r_load (ot rfl) (lm_s (mem_seg 1 rfl) ag_3 rfl)) ?_
    refine gr rfl (r_bin (ot rfl) (ot rfl) rfl) ?_
    refine go_nil ?_
    refine g_cond (b := (decide (p0.Rev > p2.Rev))) (ot rfl) (fun hc5 => ?_) (fun hc5 => ?_)
    ·
      replace hF := ifT hc5 hF
      refine go_seq ?_
      refine go_region ?_
      refine gr rfl (r_build (op1 (oc rfl) op0) rfl) ?_
      refine gs_store (ot rfl) (ot rfl) sz_90 rfl rfl rfl rfl rfl .z ?_
      refine go_nil ?_
      obtain rfl := someI hF
      exact g_ret (rsc rfl (lm_w (mem_seg 0 rfl) ag_90 sz_90 rfl) rs0) (fun h1 hf hs => ⟨hs.hext, ⟨_, _, rfl, (RL.nil _ _ _)⟩⟩)
    ·
      replace hF := ifF hc5 hF
      refine go_skip ?_
      refine go_seq ?_
      refine go_region ?_
      refine gr rfl (r_fa (ot rfl) (fa_61_2 _ _)) ?_
      refine gr rfl (r_load (ot rfl) (lm_s (mem_seg 2 rfl) ag_3 rfl)) ?_
      refine gr rfl (r_build (op1 (ot rfl) op0) rfl) ?_
      refine gs_store (ot rfl) (ot rfl) sz_90 rfl rfl rfl rfl rfl .z ?_
      refine go_nil ?_
      obtain rfl := someI hF
      exact g_ret (rsc rfl (lm_w (mem_seg 0 rfl) ag_90 sz_90 rfl) rs0) (fun h1 hf hs => ⟨hs.hext, ⟨_, _, rfl, (RL.nil _ _ _)⟩⟩)
  ·
    replace hF := ifF hc4 hF
    refine go_seq ?_
    refine go_region ?_
    refine gr rfl (r_bin (ot rfl) (oc rfl) rfl) ?_
    refine gA rfl rfl ?_
    refine go_nil ?_
    refine g_cond (b := (p0.Kind == 1)) (ot rfl) (fun hc6 => ?_) (fun hc6 => ?_)
    ·
      replace hF := ifT hc6 hF
      refine go_seq ?_
      refine go_region ?_
      refine gM rfl rfl ?_
      refine gr rfl (r_load (ot rfl) (lm_w (mem_seg 2 rfl) ag_61 sz_61 rfl)) ?_
      replace hF := obind hF
      obtain ⟨x7, hx7, hF⟩ := hF
      refine g_call EE_fr (fun _ h => by cases h; rfl) of (os1 (ot rfl) (os1 (ot rfl) os0)) hb_30 (fun hf kn w => by exact s_txn_Plan n w p1 p0 (f1_0.ext kn) (f0_4.ext kn) (f0_5.ext kn) (f0_6.ext kn) hx7) ?_
      rintro v7 h7 e7 w7 ⟨a7_0, c7_0, rfl, f7_0⟩
      refine gM rfl rfl ?_
      refine gE rfl rfl rfl ?_
      refine gE rfl rfl rfl ?_
      refine gA rfl rfl ?_
      refine gA rfl rfl ?_
      refine go_nil ?_
      refine go_seq ?_
      refine go_block ?_
      refine go_seq ?_
      refine go_region ?_
      refine gM rfl rfl ?_
      refine gr rfl (r_len rfl (os1 (ot rfl) os0) (fun _ _ => ln_39)) ?_
      refine gr rfl (r_bin (ot rfl) (oc rfl) rfl) ?_
      refine gA rfl rfl ?_
      refine go_nil ?_
      replace hF := obind hF
      obtain ⟨s9, hF, hK9⟩ := hF
      refine go_joinc (β := (Unit)) (fun s h' => s9 = .go s) (fun s => [(5, true, .pointer (some ⟨b5_2, 0, none⟩)), (6, true, .pointer (some ⟨b6_3, 0, none⟩)), (7, true, .bool x7.1), (8, true, .slice a7_0 x7.2.length c7_0)]) (fun s => (List.flatten [[⟨b6_3, .cells [.bool false, .slice none 0 0, .int .i64 0, .int .i64 0] 90⟩], [⟨b5_2, .cells [.int .i64 p2.Seq, .int .i64 p2.Rev, .int .i64 p2.Hor] 71⟩], [⟨b3_1, .cells [.int .i64 p0.Kind, .string p0.R.From, .string p0.R.To, .int .i64 p0.Rev, .slice a0_4 p0.Cmps.length c0_4, .slice a0_5 p0.Then.length c0_5, .slice a0_6 p0.Else.length c0_6] 61⟩]] : List Blk)) ?_ (fun J9 => ?_)
      ·
        rintro _ h9 e9 w9 hs9
        subst hs9
        replace hF := lpgo hK9
        refine go_endb ?_
        refine go_seq ?_
        refine go_region ?_
        refine gM rfl rfl ?_
        refine gr rfl (r_fa (ot rfl) (fa_71_1 _ _)) ?_
        refine gr rfl (r_load (ot rfl) (lm_s (mem_seg 1 rfl) ag_3 rfl)) ?_
        refine gr rfl (r_bin (ot rfl) (oc rfl) rfl) ?_
        refine gM rfl rfl ?_
        replace hF := obind hF
        obtain ⟨x10, hx10, hF⟩ := hF
        refine g_call EE_fr (fun _ h => by cases h; rfl) of (os1 (ot rfl) (os1 (ot rfl) os0)) hb_77 (fun hf kn w => by exact s_front_rows w (IntKind.i64.wrap (p2.Rev + 1)) x7.2 ((f7_0.ext e9.kn).ext kn) hx10) ?_
        rintro v10 h10 e10 w10 ⟨a10_0, c10_0, rfl, f10_0⟩
        refine gr rfl (r_build (op1 (ot rfl) (op1 (ot rfl) op0)) rfl) ?_
        refine gs_store (ot rfl) (ot rfl) sz_90 rfl rfl rfl rfl rfl .z ?_
        refine go_nil ?_
        obtain rfl := someI hF
        exact g_ret (rsc rfl (lm_w (mem_seg 0 rfl) ag_90 sz_90 rfl) rs0) (fun h1 hf hs => ⟨(e7.trans (e9.trans (e10.trans hs.hext))), ⟨_, _, rfl, (f10_0.ext hs.hext.kn)⟩⟩)
      ·
        refine g_cond (b := ((x7.2.length : Int) == 0)) (ot rfl) (fun hc8 => ?_) (fun hc8 => ?_)
        ·
          replace hF := ifT hc8 hF
          refine go_skip ?_
          obtain rfl := someI hF
          exact Goes.weak (J9 () _ (HExt.refl _) w7 rfl) (Sub.cons (Sub.cons (Sub.cons (Sub.cons (Sub.nil _) rfl) rfl) rfl) rfl)
        ·
          replace hF := ifF hc8 hF
          refine go_seq ?_
          refine go_region ?_
          refine gr rfl (r_fa (ot rfl) (fa_71_1 _ _)) ?_
          refine gr rfl (r_load (ot rfl) (lm_s (mem_seg 1 rfl) ag_3 rfl)) ?_
          refine gr rfl (r_bin (ot rfl) (oc rfl) rfl) ?_
          refine gA rfl rfl ?_
          refine go_nil ?_
          refine g_cond (b := (decide (p2.Rev ≥ 1000))) (ot rfl) (fun hc11 => ?_) (fun hc11 => ?_)
          ·
            replace hF := ifT hc11 hF
            refine go_seq ?_
            refine go_region ?_
            refine gr rfl (r_build (op1 (oc rfl) op0) rfl) ?_
            refine gs_store (ot rfl) (ot rfl) sz_90 rfl rfl rfl rfl rfl .z ?_
            refine go_nil ?_
            obtain rfl := someI hF
            obtain rfl := someI hK9
            exact g_ret (rsc rfl (lm_w (mem_seg 0 rfl) ag_90 sz_90 rfl) rs0) (fun h1 hf hs => ⟨(e7.trans hs.hext), ⟨_, _, rfl, (RL.nil _ _ _)⟩⟩)
          ·
            replace hF := ifF hc11 hF
            refine go_seq ?_
            refine go_region ?_
            refine gr rfl (r_fa (ot rfl) (fa_71_1 _ _)) ?_
            refine gr rfl (r_load (ot rfl) (lm_s (mem_seg 1 rfl) ag_3 rfl)) ?_
            refine gr rfl (r_bin (ot rfl) (oc rfl) rfl) ?_
            refine gr rfl (r_fa (ot rfl) (fa_71_2 _ _)) ?_
            refine gr rfl (r_load (ot rfl) (lm_s (mem_seg 1 rfl) ag_3 rfl)) ?_
            refine gr rfl (r_bin (ot rfl) (ot rfl) rfl) ?_
            refine gr rfl (r_bin (ot rfl) (oc rfl) rfl) ?_
            refine gA rfl rfl ?_
            refine go_nil ?_
            refine g_cond (b := (decide ((IntKind.i64.wrap ((IntKind.i64.wrap (p2.Rev + 1)) - p2.Hor)) > 16))) (ot rfl) (fun hc12 => ?_) (fun hc12 => ?_)
            ·
              replace hF := ifT hc12 hF
              refine go_seq ?_
              refine go_region ?_
              refine gr rfl (r_build (op1 (oc rfl) op0) rfl) ?_
              refine gs_store (ot rfl) (ot rfl) sz_90 rfl rfl rfl rfl rfl .z ?_
              refine go_nil ?_
              obtain rfl := someI hF
              obtain rfl := someI hK9
              exact g_ret (rsc rfl (lm_w (mem_seg 0 rfl) ag_90 sz_90 rfl) rs0) (fun h1 hf hs => ⟨(e7.trans hs.hext), ⟨_, _, rfl, (RL.nil _ _ _)⟩⟩)
            ·
              replace hF := ifF hc12 hF
              refine go_skip ?_
              obtain rfl := someI hF
              exact Goes.weak (J9 () _ (HExt.refl _) w7 rfl) (Sub.cons (Sub.cons (Sub.cons (Sub.cons (Sub.nil _) rfl) rfl) rfl) rfl)
    ·
      replace hF := ifF hc6 hF
      refine go_skip ?_
      refine go_endb ?_
      refine go_seq ?_
      refine go_region ?_
      refine gr rfl (r_build op0 rfl) ?_
      refine gs_store (ot rfl) (ot rfl) sz_90 rfl rfl rfl rfl rfl .z ?_
      refine go_nil ?_
      obtain rfl := someI hF
      exact g_ret (rsc rfl (lm_w (mem_seg 0 rfl) ag_90 sz_90 rfl) rs0) (fun h1 hf hs => ⟨hs.hext, ⟨_, _, rfl, (RL.nil _ _ _)⟩⟩)
theorem s_front_Step {h : Heap} (hw : Wf h) (p0 : THead) (p1 : Tfront_Plan) {a1_1 : Option Addr} {c1_1 : Nat} (f1_1 : RL R_TEvent h a1_1 c1_1 p1.Rows) {r : THead} (hF : F_front_Step p0 p1 = some r) :
    Ev EE 46 [.agg #[.int .i64 p0.Seq, .int .i64 p0.Rev, .int .i64 p0.Hor], .agg #[.bool p1.Ok, .slice a1_1 p1.Rows.length c1_1, .int .i64 p1.Err, .int .i64 p1.Hor]] h (fun v _ => v = .agg #[.int .i64 r.Seq, .int .i64 r.Rev, .int .i64 r.Hor]) := by
  unfold F_front_Step at hF
  refine ev_of hw rfl at_46 rfl rfl (go_seg0 ?_)
  refine go_seq ?_
  refine go_region ?_
  refine gs_box rfl (ot rfl) rfl ?_; intro b2_1
  refine gs_box rfl (ot rfl) rfl ?_; intro b3_2
  refine gs_alloc rfl zo_71 rfl ?_; intro b4_3
  refine go_nil ?_
  refine go_seq ?_
  refine go_region ?_
  refine gr rfl (r_fa (ot rfl) (fa_71_0 _ _)) ?_
  refine gr rfl (r_load (ot rfl) (lm_s (mem_seg 2 rfl) ag_3 rfl)) ?_
  refine gr rfl (r_bin (ot rfl) (oc rfl) rfl) ?_
  refine gr rfl (r_fa (ot rfl) (fa_71_0 _ _)) ?_
  refine gs_store (ot rfl) (ot rfl) sz_3 rfl rfl rfl rfl rfl (.s (.s (.z))) ?_
  refine go_nil ?_
  refine go_seq ?_
  refine go_seq ?_
  refine go_region ?_
  refine gr rfl (r_fa (ot rfl) (fa_90_1 _ _)) ?_
  refine gr rfl (r_load (ot rfl) (lm_s (mem_seg 1 rfl) ag_50 rfl)) ?_
  refine gr rfl (r_len rfl (os1 (ot rfl) os0) (fun _ _ => ln_50)) ?_
  refine gr rfl (r_bin (ot rfl) (oc rfl) rfl) ?_
  refine go_nil ?_
  replace hF := obind hF
  obtain ⟨s5, hF, hK5⟩ := hF
  refine go_joinc (β := Unit) (fun s h' => True) (fun s => [(2, true, .pointer (some ⟨b2_1, 0, none⟩)), (3, true, .pointer (some ⟨b3_2, 0, none⟩)), (4, true, .pointer (some ⟨b4_3, 0, none⟩))]) (fun s => (List.flatten [[⟨b4_3, .cells [.int .i64 0, .int .i64 0, .int .i64 0] 71⟩], [⟨b3_2, .cells [.bool p1.Ok, .slice a1_1 p1.Rows.length c1_1, .int .i64 p1.Err, .int .i64 p1.Hor] 90⟩], [⟨b2_1, .cells [.int .i64 (IntKind.i64.wrap (p0.Seq + 1)), .int .i64 s5, .int .i64 p0.Hor] 71⟩]] : List Blk)) ?_ (fun J5 => ?_)
  ·
    rintro _ h5 e5 w5 _
    replace hF := hK5
    refine go_seq ?_
    refine go_region ?_
    refine gr rfl (r_fa (ot rfl) (fa_71_2 _ _)) ?_
    refine gr rfl (r_load (ot rfl) (lm_s (mem_seg 2 rfl) ag_3 rfl)) ?_
    refine gr rfl (r_fa (ot rfl) (fa_90_3 _ _)) ?_
    refine gr rfl (r_load (ot rfl) (lm_s (mem_seg 1 rfl) ag_3 rfl)) ?_
    refine gr rfl (r_max (os1 (ot rfl) (os1 (ot rfl) os0)) rfl) ?_
    refine gr rfl (r_fa (ot rfl) (fa_71_2 _ _)) ?_
    refine gs_store (ot rfl) (ot rfl) sz_3 rfl rfl rfl rfl rfl (.s (.s (.z))) ?_
    refine go_nil ?_
    refine go_seq ?_
    refine go_region ?_
    refine gr rfl (r_load (ot rfl) (lm_w (mem_seg 2 rfl) ag_71 sz_71 rfl)) ?_
    refine gs_store (ot rfl) (ot rfl) sz_71 rfl rfl rfl rfl rfl .z ?_
    refine go_nil ?_
    obtain rfl := someI hF
    exact g_ret (rsc rfl (lm_w (mem_seg 0 rfl) ag_71 sz_71 rfl) rs0) (fun h1 hf hs => ⟨(e5.trans hs.hext), rfl⟩)
  ·
    refine g_cond (b := (decide ((p1.Rows.length : Int) > 0))) (ot rfl) (fun hc4 => ?_) (fun hc4 => ?_)
    ·
      replace hF := ifT hc4 hF
      refine go_region ?_
      refine gr rfl (r_fa (ot rfl) (fa_71_1 _ _)) ?_
      refine gr rfl (r_load (ot rfl) (lm_s (mem_seg 2 rfl) ag_3 rfl)) ?_
      refine gr rfl (r_bin (ot rfl) (oc rfl) rfl) ?_
      refine gr rfl (r_fa (ot rfl) (fa_71_1 _ _)) ?_
      refine gs_store (ot rfl) (ot rfl) sz_3 rfl rfl rfl rfl rfl (.s (.s (.z))) ?_
      refine go_nil ?_
      obtain rfl := someI hF
      exact Goes.weak (J5 () _ (HExt.refl _) hw trivial) (Sub.cons (Sub.cons (Sub.cons (Sub.nil _) rfl) rfl) rfl)
    ·
      replace hF := ifF hc4 hF
      refine go_skip ?_
      obtain rfl := someI hF
      exact Goes.weak (J5 () _ (HExt.refl _) hw trivial) (Sub.cons (Sub.cons (Sub.cons (Sub.nil _) rfl) rfl) rfl)
theorem s_front_Answer {h : Heap} (hw : Wf h) (p0 : THead) (p1 : Tfront_Plan) {a1_1 : Option Addr} {c1_1 : Nat} (f1_1 : RL R_TEvent h a1_1 c1_1 p1.Rows) {r : TResp} (hF : F_front_Answer p0 p1 = some r) :
    Ev EE 48 [.agg #[.int .i64 p0.Seq, .int .i64 p0.Rev, .int .i64 p0.Hor], .agg #[.bool p1.Ok, .slice a1_1 p1.Rows.length c1_1, .int .i64 p1.Err, .int .i64 p1.Hor]] h (fun v h1 => ∃ a0 c0, v = .agg #[.int .i64 r.H.Seq, .int .i64 r.H.Rev, .int .i64 r.H.Hor, .int .i64 r.Err, .bool r.Ok, .slice a0 r.L.length c0] ∧ RL R_TKV h1 a0 c0 r.L) := by
  unfold F_front_Answer at hF
  refine ev_of hw rfl at_48 rfl rfl (go_seg0 ?_)
  refine go_seq ?_
  refine go_region ?_
  refine gs_box rfl (ot rfl) rfl ?_; intro b2_1
  refine gs_box rfl (ot rfl) rfl ?_; intro b3_2
  refine gs_alloc rfl zo_73 rfl ?_; intro b4_3
  refine go_nil ?_
  refine go_seq ?_
  refine go_region ?_
  refine gr rfl (r_load (ot rfl) (lm_w (mem_seg 2 rfl) ag_71 sz_71 rfl)) ?_
  refine gr rfl (r_fa (ot rfl) (fa_90_2 _ _)) ?_
  refine gr rfl (r_load (ot rfl) (lm_s (mem_seg 1 rfl) ag_29 rfl)) ?_
  refine gr rfl (r_fa (ot rfl) (fa_90_0 _ _)) ?_
  refine gr rfl (r_load (ot rfl) (lm_s (mem_seg 1 rfl) ag_4 rfl)) ?_
  refine gM rfl rfl ?_
  refine grt rfl rfl rfl rfl (r_fa (ot rfl) (fa_90_2 _ _)) ?_
  refine grt rfl rfl rfl rfl (r_load (og rfl id) (lm_s (mem_seg 1 rfl) ag_29 rfl)) ?_
  refine grt rfl rfl rfl rfl (r_bin (og rfl id) (oc rfl) rfl) ?_
  refine gr rfl (r_pickb (ot rfl) (og rfl id) (oc rfl)) ?_
  refine gr rfl (r_build (op1 (ot rfl) (op1 (ot rfl) (op1 (ot rfl) op0))) rfl) ?_
  refine gs_store (ot rfl) (ot rfl) sz_73 rfl rfl rfl rfl rfl .z ?_
  refine go_nil ?_
  obtain rfl := someI hF
  exact g_ret (rsc rfl (lm_w (mem_seg 0 rfl) ag_73 sz_73 rfl) rs0) (fun h1 hf hs => ⟨hs.hext, ⟨_, _, rfl, (RL.nil _ _ _)⟩⟩)
end Go.Proofs.Ytpfdandpmpmbiaa.V
