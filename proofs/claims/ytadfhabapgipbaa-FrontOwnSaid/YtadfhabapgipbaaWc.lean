/- Walks.
   No condition: these are laws of the clean machine and of this program. -/
import Derived.Test.YtadfhabapgipbaaWb
namespace Go.Proofs.Ytadfhabapgipbaa.V
open Go
set_option linter.unusedVariables false
set_option linter.unusedSimpArgs false
set_option maxRecDepth 100000
theorem s_law13_few {h : Heap} (hw : Wf h) (p0 : TReq) {a0_4 : Option Addr} {c0_4 : Nat} {a0_5 : Option Addr} {c0_5 : Nat} {a0_6 : Option Addr} {c0_6 : Nat} (f0_4 : RL R_Cmp h a0_4 c0_4 p0.Cmps) (f0_5 : RL R_OpX h a0_5 c0_5 p0.Then) (f0_6 : RL R_OpX h a0_6 c0_6 p0.Else) {r : Bool} (hF : F_law13_few p0 = some r) :
    Ev EE 12 [.agg #[.int .i64 p0.Kind, .string p0.R.From, .string p0.R.To, .int .i64 p0.Rev, .slice a0_4 p0.Cmps.length c0_4, .slice a0_5 p0.Then.length c0_5, .slice a0_6 p0.Else.length c0_6]] h (fun v _ => v = .bool r) := by
  unfold F_law13_few at hF
  refine ev_of hw rfl at_12 rfl rfl (go_seg0 ?_)
  refine go_seq ?_
  refine go_region ?_
  refine gs_box rfl (ot rfl) rfl ?_; intro b1_1
  refine gAc rfl rfl ?_
  refine go_nil ?_
  refine go_seq ?_
  refine go_region ?_
  refine gr rfl (r_fa (ot rfl) (fa_27_3 _ _)) ?_
  refine gr rfl (r_load (ot rfl) (lm_s (mem_seg 0 rfl) ag_24 rfl)) ?_
  refine gr rfl (r_len rfl (os1 (ot rfl) os0) (fun _ _ => ln_24)) ?_
  refine gr rfl (r_bin (ot rfl) (oc rfl) rfl) ?_
  refine gM rfl rfl ?_
  refine grt rfl rfl rfl rfl (r_fa (ot rfl) (fa_27_4 _ _)) ?_
  refine grt rfl rfl rfl rfl (r_load (og rfl id) (lm_s (mem_seg 0 rfl) ag_25 rfl)) ?_
  refine grt rfl rfl rfl rfl (r_len rfl (os1 (og rfl id) os0) (fun _ _ => ln_25)) ?_
  refine grt rfl rfl rfl rfl (r_bin (og rfl id) (oc rfl) rfl) ?_
  refine gr rfl (r_pickb (ot rfl) (og rfl id) (oc rfl)) ?_
  refine gM rfl rfl ?_
  refine grt rfl rfl rfl rfl (r_fa (ot rfl) (fa_27_5 _ _)) ?_
  refine grt rfl rfl rfl rfl (r_load (og rfl id) (lm_s (mem_seg 0 rfl) ag_25 rfl)) ?_
  refine grt rfl rfl rfl rfl (r_len rfl (os1 (og rfl id) os0) (fun _ _ => ln_25)) ?_
  refine grt rfl rfl rfl rfl (r_bin (og rfl id) (oc rfl) rfl) ?_
  refine gr rfl (r_pickb (ot rfl) (og rfl id) (oc rfl)) ?_
  refine gA rfl rfl ?_
  refine go_nil ?_
  obtain rfl := someI hF
  exact g_ret (rst rfl rs0) (fun h1 hf hs => ⟨hs.hext, rfl⟩)
theorem s_front_rows {h : Heap} (hw : Wf h) (p0 : Int) (p1 : (List OpX)) {a1_0 : Option Addr} {c1_0 : Nat} (f1_0 : RL R_OpX h a1_0 c1_0 p1) {r : (List Evt)} (hF : F_front_rows p0 p1 = some r) :
    Ev EE 37 [.int .i64 p0, .slice a1_0 p1.length c1_0] h (fun v h1 => ∃ a0 c0, v = .slice a0 r.length c0 ∧ RL R_Evt h1 a0 c0 r) := by
  unfold F_front_rows at hF
  refine ev_of hw rfl at_37 rfl rfl (go_seg0 ?_)
  refine go_seq ?_
  refine go_region ?_
  refine gAc rfl rfl ?_
  refine go_nil ?_
  refine go_seq ?_
  refine go_region ?_
  refine gAc rfl rfl ?_
  refine go_nil ?_
  refine go_seq ?_
  refine go_seq ?_
  refine go_region ?_
  refine gM rfl rfl ?_
  refine gr rfl (r_len rfl (os1 (ot rfl) os0) (fun _ _ => ln_25)) ?_
  refine gMc rfl rfl ?_
  refine go_nil ?_
  replace hF := obind hF
  obtain ⟨s1, hF, hK1⟩ := hF
  refine go_joinc (β := Option Addr × List Blk) (fun s h' => AccR R_Evt 41 h' s.2 (.slice s.1 s1.length s1.length) s1) (fun s => [(4, true, .slice none 0 0), (5, true, .slice s.1 s1.length s1.length)]) (fun s => (List.flatten [s.2] : List Blk)) ?_ (fun J1 => ?_)
  ·
    rintro ⟨a1_0, a1_1⟩ h1 e1 w1 f1_0
    replace hF := hK1
    refine go_seq ?_
    refine go_region ?_
    refine gM rfl rfl ?_
    refine gA rfl rfl ?_
    refine go_nil ?_
    refine gs_accpub .z f1_0 (fun h2 e2 w2 f2_ => ?_) rfl
    obtain rfl := someI hF
    exact g_ret (rst rfl rs0) (fun h1 hf hs => ⟨(e1.trans (e2.trans hs.hext)), ⟨_, _, rfl, (f2_.ext hs.hext.kn)⟩⟩)
  ·
    refine go_block ?_
    refine go_loop (α := (List OpX) × Nat × (List Evt) × Option Addr × List Blk × Heap) (fun a => a.1 = List.drop a.2.1 p1 ∧ HExt h a.2.2.2.2.2 ∧ Wf a.2.2.2.2.2 ∧ F_front_rows_L1 p0 a.1 a.2.1 a.2.2.1 = some s1 ∧ AccR R_Evt 41 a.2.2.2.2.2 a.2.2.2.2.1 (.slice a.2.2.2.1 a.2.2.1.length a.2.2.1.length) a.2.2.1) (fun a => a.1.length) (fun a => [(0, true, .int .i64 p0), (4, true, .slice none 0 0), (5, true, .slice a.2.2.2.1 a.2.2.1.length a.2.2.1.length), (9, true, .slice a1_0 p1.length c1_0), (10, true, .int .i64 (p1.length : Int)), (11, true, .int .i64 (a.2.1 : Int))]) (fun a => (List.flatten [a.2.2.2.2.1] : List Blk)) (fun a => a.2.2.2.2.2) ?_ (p1, 0, ([] : List Evt), none, [], h) ⟨rfl, HExt.refl _, hw, hF, (AccR.nil _ _ _)⟩ (Sub.cons (Sub.cons (Sub.cons (Sub.cons (Sub.cons (Sub.cons (Sub.nil _) rfl) rfl) rfl) rfl) rfl) rfl) rfl rfl
    rintro ⟨r3, i3, y3_0, a3_0, a3_1, h3⟩ ⟨hr3, e3, w3, hF, f3_0⟩ ih3
    rcases r3 with _ | ⟨z3, r3⟩
    ·
      have hi3 := drop_nil hr3
      rw [F_front_rows_L1.eq_1] at hF
      refine go_seq ?_
      refine go_region ?_
      refine gr rfl (r_bin (ot rfl) (ot rfl) rfl) ?_
      refine go_cast (.bool false) (congrArg Value.bool (decide_eq_false hi3)) ?_
      refine go_nil ?_
      refine go_seq ?_
      refine g_cond (b := false) (ot rfl) (fun hc4 => ?_) (fun hc4 => ?_)
      · cases hc4
      refine go_exit rfl ?_
      obtain rfl := someI hF
      exact Goes.weak (J1 (a3_0, a3_1) _ e3 w3 f3_0) (Sub.cons (Sub.cons (Sub.nil _) rfl) rfl)
    ·
      obtain ⟨hi3, hx3, hr3⟩ := drop_cons hr3
      have hb3 := (f1_0.ext e3.kn).1
      rw [F_front_rows_L1.eq_2] at hF
      refine go_seq ?_
      refine go_region ?_
      refine gr rfl (r_bin (ot rfl) (ot rfl) rfl) ?_
      refine go_cast (.bool true) (congrArg Value.bool (decide_eq_true (Int.ofNat_lt.mpr hi3))) ?_
      refine go_nil ?_
      refine go_seq ?_
      refine g_cond (b := true) (ot rfl) (fun hc5 => ?_) (fun hc5 => ?_)
      rotate_left
      · cases hc5
      refine go_skip ?_
      refine go_seq ?_
      refine go_block ?_
      refine go_seq ?_
      refine go_region ?_
      obtain ⟨q6, row6, i6, cl6, rc6, sp6⟩ := ix (ik := .i64) (cap := c1_0) (E := EE) (f1_0.ext e3.kn) ((getI_nat _ _).trans hx3) ut_25 sz_69 rfl
      obtain rfl := rc6
      refine gr rfl (r_ia (ot rfl) (ot rfl) i6) ?_
      refine gr rfl (r_load (ot rfl) (v := .agg #[.string z3.key, .string z3.val, .bool z3.del]) (lo_e (fun hf kn => ld_of (r := [.string z3.key, .string z3.val, .bool z3.del]) ag_69 sz_69 (kn.cellsAt cl6)))) ?_
      refine gs_alloc rfl zo_69 rfl ?_; intro b7_7
      refine gs_store (ot rfl) (ot rfl) sz_69 rfl rfl rfl rfl rfl .z ?_
      refine go_nil ?_
      refine go_seq ?_
      refine go_region ?_
      refine gM rfl rfl ?_
      refine gr rfl (r_fa (ot rfl) (fa_69_0 _ _)) ?_
      refine gr rfl (r_load (ot rfl) (lm_s (mem_seg 0 rfl) ag_9 rfl)) ?_
      refine gr rfl (r_fa (ot rfl) (fa_69_1 _ _)) ?_
      refine gr rfl (r_load (ot rfl) (lm_s (mem_seg 0 rfl) ag_9 rfl)) ?_
      refine gr rfl (r_fa (ot rfl) (fa_69_2 _ _)) ?_
      refine gr rfl (r_load (ot rfl) (lm_s (mem_seg 0 rfl) ag_4 rfl)) ?_
      refine gr rfl (r_build (op1 (ot rfl) (op1 (ot rfl) (op1 (ot rfl) (op1 (ot rfl) op0)))) rfl) ?_
      refine gs_alloc rfl zo_41 rfl ?_; intro b8_8
      refine gs_store (ot rfl) (ot rfl) sz_41 rfl rfl rfl rfl rfl .z ?_
      refine go_nil ?_
      refine go_seq ?_
      refine go_seq ?_
      refine go_region ?_
      refine gr rfl (r_fa (ot rfl) (fa_69_2 _ _)) ?_
      refine gr rfl (r_load (ot rfl) (lm_s (mem_seg 1 rfl) ag_4 rfl)) ?_
      refine go_nil ?_
      replace hF := obind hF
      obtain ⟨s10, hF, hK10⟩ := hF
      refine go_joinc (β := Unit) (fun s h' => True) (fun s => [(0, true, .int .i64 p0), (4, true, .slice none 0 0), (5, true, .slice a3_0 y3_0.length y3_0.length), (7, true, .pointer (some ⟨b7_7, 0, none⟩)), (8, true, .pointer (some ⟨b8_8, 0, none⟩)), (9, true, .slice a1_0 p1.length c1_0), (10, true, .int .i64 (p1.length : Int)), (11, true, .int .i64 (i3 : Int)), (12, true, .bool true), (13, true, .pointer (some q6)), (14, true, .agg #[.string z3.key, .string z3.val, .bool z3.del]), (15, true, .int .i64 p0), (16, true, .pointer (some ⟨b7_7, 0, none⟩)), (17, true, .string z3.key), (18, true, .pointer (some ⟨b7_7, 1, none⟩)), (19, true, .string z3.val), (20, true, .pointer (some ⟨b7_7, 2, none⟩)), (21, true, .bool z3.del), (22, true, .agg #[.int .i64 p0, .string z3.key, .string z3.val, .bool z3.del]), (23, true, .pointer (some ⟨b7_7, 2, none⟩)), (24, true, .bool z3.del)]) (fun s => (List.flatten [[⟨b8_8, .cells [.int .i64 p0, .string z3.key, .string s10, .bool z3.del] 41⟩], [⟨b7_7, .cells [.string z3.key, .string z3.val, .bool z3.del] 69⟩], a3_1] : List Blk)) ?_ (fun J10 => ?_)
      ·
        rintro _ h10 e10 w10 _
        replace hF := hK10
        refine go_region ?_
        refine gM rfl rfl ?_
        refine gr rfl (r_load (ot rfl) (lm_w (mem_seg 0 rfl) ag_41 sz_41 rfl)) ?_
        refine gs_bslice (cs := [.int .i64 p0, .string z3.key, .string s10, .bool z3.del]) rfl (op1 (ot rfl) op0) ut_34 sz_41 zo_41 rfl rfl ?_; intro b28_11
        replace hF := obind hF
        obtain ⟨x12, hx12, hF⟩ := hF
        obtain ⟨hr12, rfl⟩ := appL_some hx12
        refine gs_front (.s (.s (.s (.z)))) ?_
        refine gs_app (rows2 := [[.int .i64 p0, .string z3.key, .string s10, .bool z3.del]]) (R := R_Evt) rfl (os1 (ot rfl) (os1 (ot rfl) os0)) rfl ut_34 sz_41 rfl (by decide) by_41 zo_41 rfl zs_34_34 rfl rfl (first_m (mem_seg 1 rfl) rfl (by decide)) (Rws.one (x := (⟨p0, z3.key, s10, z3.del⟩ : Evt)) rfl) (f3_0.ext e10.kn) hr12 (fun p12_ tl12 f12_ => ?_)
        refine gA rfl rfl ?_
        refine go_nil ?_
        refine go_endb ?_
        refine go_region ?_
        refine gr rfl (r_bin (ot rfl) (oc rfl) rfl) ?_
        refine gM rfl rfl ?_
        refine go_nil ?_
        refine gs_sub (.cons_cons _ (.cons _ (.cons _ (.cons _ (.refl _))))) ?_
        refine go_re 11 (v2 := .int .i64 ((i3 + 1 : Nat) : Int)) rfl (wrap_succ hi3 hb3) ?_
        exact Goes.weak (ih3 (r3, i3 + 1, (y3_0 ++ ([(⟨p0, z3.key, s10, z3.del⟩ : Evt)] : List Evt)), p12_, tl12, h10) ⟨hr3, (e3.trans e10), w10, hF, f12_⟩ (Nat.lt_succ_self _)) (Sub.cons (Sub.cons (Sub.cons (Sub.cons (Sub.cons (Sub.cons (Sub.nil _) rfl) rfl) rfl) rfl) rfl) rfl)
      ·
        refine g_cond (b := z3.del) (ot rfl) (fun hc9 => ?_) (fun hc9 => ?_)
        ·
          replace hF := ifT hc9 hF
          refine go_region ?_
          refine gr rfl (r_fa (ot rfl) (fa_41_2 _ _)) ?_
          refine gs_store (ot rfl) (oc rfl) sz_9 rfl rfl rfl rfl rfl .z ?_
          refine go_nil ?_
          obtain rfl := someI hF
          exact Goes.weak (J10 () _ (HExt.refl _) w3 trivial) (Sub.cons (Sub.cons (Sub.cons (Sub.cons (Sub.cons (Sub.cons (Sub.cons (Sub.cons (Sub.cons (Sub.cons (Sub.cons (Sub.cons (Sub.cons (Sub.cons (Sub.cons (Sub.cons (Sub.cons (Sub.cons (Sub.cons (Sub.cons (Sub.cons (Sub.nil _) rfl) rfl) rfl) rfl) rfl) rfl) rfl) rfl) rfl) rfl) rfl) rfl) rfl) rfl) rfl) rfl) rfl) rfl) rfl) rfl) rfl)
        ·
          replace hF := ifF hc9 hF
          refine go_skip ?_
          obtain rfl := someI hF
          exact Goes.weak (J10 () _ (HExt.refl _) w3 trivial) (Sub.cons (Sub.cons (Sub.cons (Sub.cons (Sub.cons (Sub.cons (Sub.cons (Sub.cons (Sub.cons (Sub.cons (Sub.cons (Sub.cons (Sub.cons (Sub.cons (Sub.cons (Sub.cons (Sub.cons (Sub.cons (Sub.cons (Sub.cons (Sub.cons (Sub.nil _) rfl) rfl) rfl) rfl) rfl) rfl) rfl) rfl) rfl) rfl) rfl) rfl) rfl) rfl) rfl) rfl) rfl) rfl) rfl) rfl) rfl)
theorem s_front_Decide (n : Nat) {h : Heap} (hw : Wf h) (p0 : TReq) (p1 : (List KV)) (p2 : THead) {a0_4 : Option Addr} {c0_4 : Nat} {a0_5 : Option Addr} {c0_5 : Nat} {a0_6 : Option Addr} {c0_6 : Nat} {a1_0 : Option Addr} {c1_0 : Nat} (f0_4 : RL R_Cmp h a0_4 c0_4 p0.Cmps) (f0_5 : RL R_OpX h a0_5 c0_5 p0.Then) (f0_6 : RL R_OpX h a0_6 c0_6 p0.Else) (f1_0 : RL R_KV h a1_0 c1_0 p1) {r : Tfront_Plan} (hF : F_front_Decide n p0 p1 p2 = some r) :
    Ev EE 14 [.agg #[.int .i64 p0.Kind, .string p0.R.From, .string p0.R.To, .int .i64 p0.Rev, .slice a0_4 p0.Cmps.length c0_4, .slice a0_5 p0.Then.length c0_5, .slice a0_6 p0.Else.length c0_6], .slice a1_0 p1.length c1_0, .agg #[.int .i64 p2.Seq, .int .i64 p2.Rev, .int .i64 p2.Hor]] h (fun v h1 => ∃ a0 c0, v = .agg #[.bool r.Ok, .slice a0 r.Rows.length c0, .int .i64 r.Err, .int .i64 r.Hor] ∧ RL R_Evt h1 a0 c0 r.Rows) := by
  unfold F_front_Decide at hF
  refine ev_of hw rfl at_14 rfl rfl (go_seg0 ?_)
  refine go_seq ?_
  refine go_region ?_
  refine gs_box rfl (ot rfl) rfl ?_; intro b3_1
  refine gs_box rfl (ot rfl) rfl ?_; intro b5_2
  refine gs_alloc rfl zo_37 rfl ?_; intro b6_3
  refine go_nil ?_
  refine go_seq ?_
  refine go_seq ?_
  refine go_region ?_
  refine gr rfl (r_fa (ot rfl) (fa_27_0 _ _)) ?_
  refine gr rfl (r_load (ot rfl) (lm_s (mem_seg 2 rfl) ag_3 rfl)) ?_
  refine go_nil ?_
  refine go_block ?_
  refine go_seq ?_
  refine go_region ?_
  refine gr rfl (r_bin (ot rfl) (oc rfl) rfl) ?_
  refine gA rfl rfl ?_
  refine go_nil ?_
  refine g_cond (b := (p0.Kind == 3)) (ot rfl) (fun hc4 => ?_) (fun hc4 => ?_)
  ·
    replace hF := ifT hc4 hF
    refine go_seq ?_
    refine go_seq ?_
    refine go_region ?_
    refine gr rfl (r_fa (ot rfl) (fa_27_2 _ _)) ?_
    refine gr rfl (r_load (ot rfl) (lm_s (mem_seg 2 rfl) ag_3 rfl)) ?_
    refine gr rfl (r_fa (ot rfl) (fa_30_1 _ _)) ?_
    refine gr rfl (r_load (ot rfl) (lm_s (mem_seg 1 rfl) ag_3 rfl)) ?_
    refine gr rfl (r_bin (ot rfl) (ot rfl) rfl) ?_
    refine go_nil ?_
    refine g_cond (b := (decide (p0.Rev > p2.Rev))) (ot rfl) (fun hc5 => ?_) (fun hc5 => ?_)
    ·
      replace hF := ifT hc5 hF
      refine go_seq ?_
      refine go_region ?_
      refine gr rfl (r_build (op1 (oc rfl) op0) rfl) ?_
      refine gs_store (ot rfl) (ot rfl) sz_37 rfl rfl rfl rfl rfl .z ?_
      refine go_nil ?_
      obtain rfl := someI hF
      exact g_ret (rsc rfl (lm_w (mem_seg 0 rfl) ag_37 sz_37 rfl) rs0) (fun h1 hf hs => ⟨hs.hext, ⟨_, _, rfl, (RL.nil _ _ _)⟩⟩)
    ·
      replace hF := ifF hc5 hF
      refine go_skip ?_
      refine go_seq ?_
      refine go_region ?_
      refine gr rfl (r_fa (ot rfl) (fa_27_2 _ _)) ?_
      refine gr rfl (r_load (ot rfl) (lm_s (mem_seg 2 rfl) ag_3 rfl)) ?_
      refine gr rfl (r_build (op1 (ot rfl) op0) rfl) ?_
      refine gs_store (ot rfl) (ot rfl) sz_37 rfl rfl rfl rfl rfl .z ?_
      refine go_nil ?_
      obtain rfl := someI hF
      exact g_ret (rsc rfl (lm_w (mem_seg 0 rfl) ag_37 sz_37 rfl) rs0) (fun h1 hf hs => ⟨hs.hext, ⟨_, _, rfl, (RL.nil _ _ _)⟩⟩)
  ·
    replace hF := ifF hc4 hF
    refine go_seq ?_
    refine go_region ?_
    refine gr rfl (r_bin (ot rfl) (oc rfl) rfl) ?_
    refine gA rfl rfl ?_
    refine go_nil ?_
    refine g_cond (b := (p0.Kind == 1)) (ot rfl) (fun hc6 => ?_) (fun hc6 => ?_)
    ·
      replace hF := ifT hc6 hF
      refine go_seq ?_
      refine go_region ?_
      refine gM rfl rfl ?_
      refine gr rfl (r_load (ot rfl) (lm_w (mem_seg 2 rfl) ag_27 sz_27 rfl)) ?_
      replace hF := obind hF
      obtain ⟨x7, hx7, hF⟩ := hF
      refine g_call EE_fr (fun _ h => by cases h; rfl) of (os1 (ot rfl) (os1 (ot rfl) os0)) hb_25 (fun hf kn w => by exact s_txn_Plan n w p1 p0 (f1_0.ext kn) (f0_4.ext kn) (f0_5.ext kn) (f0_6.ext kn) hx7) ?_
      rintro v7 h7 e7 w7 ⟨a7_0, c7_0, rfl, f7_0⟩
      refine gM rfl rfl ?_
      refine gE rfl rfl rfl ?_
      refine gE rfl rfl rfl ?_
      refine gA rfl rfl ?_
      refine gA rfl rfl ?_
      refine go_nil ?_
      refine go_seq ?_
      refine go_block ?_
      refine go_seq ?_
      refine go_region ?_
      refine gM rfl rfl ?_
      refine gr rfl (r_len rfl (os1 (ot rfl) os0) (fun _ _ => ln_25)) ?_
      refine gr rfl (r_bin (ot rfl) (oc rfl) rfl) ?_
      refine gA rfl rfl ?_
      refine go_nil ?_
      replace hF := obind hF
      obtain ⟨s9, hF, hK9⟩ := hF
      refine go_joinc (β := (Unit)) (fun s h' => s9 = .go s) (fun s => [(5, true, .pointer (some ⟨b5_2, 0, none⟩)), (6, true, .pointer (some ⟨b6_3, 0, none⟩)), (7, true, .bool x7.1), (8, true, .slice a7_0 x7.2.length c7_0)]) (fun s => (List.flatten [[⟨b6_3, .cells [.bool false, .slice none 0 0, .int .i64 0, .int .i64 0] 37⟩], [⟨b5_2, .cells [.int .i64 p2.Seq, .int .i64 p2.Rev, .int .i64 p2.Hor] 30⟩], [⟨b3_1, .cells [.int .i64 p0.Kind, .string p0.R.From, .string p0.R.To, .int .i64 p0.Rev, .slice a0_4 p0.Cmps.length c0_4, .slice a0_5 p0.Then.length c0_5, .slice a0_6 p0.Else.length c0_6] 27⟩]] : List Blk)) ?_ (fun J9 => ?_)
      ·
        rintro _ h9 e9 w9 hs9
        subst hs9
        replace hF := hK9
        refine go_endb ?_
        refine go_seq ?_
        refine go_region ?_
        refine gM rfl rfl ?_
        refine gr rfl (r_fa (ot rfl) (fa_30_1 _ _)) ?_
        refine gr rfl (r_load (ot rfl) (lm_s (mem_seg 1 rfl) ag_3 rfl)) ?_
        refine gr rfl (r_bin (ot rfl) (oc rfl) rfl) ?_
        refine gM rfl rfl ?_
        replace hF := obind hF
        obtain ⟨x10, hx10, hF⟩ := hF
        refine g_call EE_fr (fun _ h => by cases h; rfl) of (os1 (ot rfl) (os1 (ot rfl) os0)) hb_37 (fun hf kn w => by exact s_front_rows w (IntKind.i64.wrap (p2.Rev + 1)) x7.2 ((f7_0.ext e9.kn).ext kn) hx10) ?_
        rintro v10 h10 e10 w10 ⟨a10_0, c10_0, rfl, f10_0⟩
        refine gr rfl (r_build (op1 (ot rfl) (op1 (ot rfl) op0)) rfl) ?_
        refine gs_store (ot rfl) (ot rfl) sz_37 rfl rfl rfl rfl rfl .z ?_
        refine go_nil ?_
        obtain rfl := someI hF
        exact g_ret (rsc rfl (lm_w (mem_seg 0 rfl) ag_37 sz_37 rfl) rs0) (fun h1 hf hs => ⟨(e7.trans (e9.trans (e10.trans hs.hext))), ⟨_, _, rfl, (f10_0.ext hs.hext.kn)⟩⟩)
      ·
        refine g_cond (b := ((x7.2.length : Int) == 0)) (ot rfl) (fun hc8 => ?_) (fun hc8 => ?_)
        ·
          replace hF := ifT hc8 hF
          refine go_skip ?_
          obtain rfl := someI hF
          exact Goes.weak (J9 () _ (HExt.refl _) w7 rfl) (Sub.cons (Sub.cons (Sub.cons (Sub.cons (Sub.nil _) rfl) rfl) rfl) rfl)
        ·
          replace hF := ifF hc8 hF
          refine go_seq ?_
          refine go_region ?_
          refine gr rfl (r_fa (ot rfl) (fa_30_1 _ _)) ?_
          refine gr rfl (r_load (ot rfl) (lm_s (mem_seg 1 rfl) ag_3 rfl)) ?_
          refine gr rfl (r_bin (ot rfl) (oc rfl) rfl) ?_
          refine gA rfl rfl ?_
          refine go_nil ?_
          refine g_cond (b := (decide (p2.Rev ≥ 1000))) (ot rfl) (fun hc11 => ?_) (fun hc11 => ?_)
          ·
            replace hF := ifT hc11 hF
            refine go_seq ?_
            refine go_region ?_
            refine gr rfl (r_build (op1 (oc rfl) op0) rfl) ?_
            refine gs_store (ot rfl) (ot rfl) sz_37 rfl rfl rfl rfl rfl .z ?_
            refine go_nil ?_
            obtain rfl := someI hF
            obtain rfl := someI hK9
            exact g_ret (rsc rfl (lm_w (mem_seg 0 rfl) ag_37 sz_37 rfl) rs0) (fun h1 hf hs => ⟨(e7.trans hs.hext), ⟨_, _, rfl, (RL.nil _ _ _)⟩⟩)
          ·
            replace hF := ifF hc11 hF
            refine go_seq ?_
            refine go_region ?_
            refine gr rfl (r_fa (ot rfl) (fa_30_1 _ _)) ?_
            refine gr rfl (r_load (ot rfl) (lm_s (mem_seg 1 rfl) ag_3 rfl)) ?_
            refine gr rfl (r_bin (ot rfl) (oc rfl) rfl) ?_
            refine gr rfl (r_fa (ot rfl) (fa_30_2 _ _)) ?_
            refine gr rfl (r_load (ot rfl) (lm_s (mem_seg 1 rfl) ag_3 rfl)) ?_
            refine gr rfl (r_bin (ot rfl) (ot rfl) rfl) ?_
            refine gr rfl (r_bin (ot rfl) (oc rfl) rfl) ?_
            refine gA rfl rfl ?_
            refine go_nil ?_
            refine g_cond (b := (decide ((IntKind.i64.wrap ((IntKind.i64.wrap (p2.Rev + 1)) - p2.Hor)) > 16))) (ot rfl) (fun hc12 => ?_) (fun hc12 => ?_)
            ·
              replace hF := ifT hc12 hF
              refine go_seq ?_
              refine go_region ?_
              refine gr rfl (r_build (op1 (oc rfl) op0) rfl) ?_
              refine gs_store (ot rfl) (ot rfl) sz_37 rfl rfl rfl rfl rfl .z ?_
              refine go_nil ?_
              obtain rfl := someI hF
              obtain rfl := someI hK9
              exact g_ret (rsc rfl (lm_w (mem_seg 0 rfl) ag_37 sz_37 rfl) rs0) (fun h1 hf hs => ⟨(e7.trans hs.hext), ⟨_, _, rfl, (RL.nil _ _ _)⟩⟩)
            ·
              replace hF := ifF hc12 hF
              refine go_skip ?_
              obtain rfl := someI hF
              exact Goes.weak (J9 () _ (HExt.refl _) w7 rfl) (Sub.cons (Sub.cons (Sub.cons (Sub.cons (Sub.nil _) rfl) rfl) rfl) rfl)
    ·
      replace hF := ifF hc6 hF
      refine go_skip ?_
      refine go_endb ?_
      refine go_seq ?_
      refine go_region ?_
      refine gr rfl (r_build op0 rfl) ?_
      refine gs_store (ot rfl) (ot rfl) sz_37 rfl rfl rfl rfl rfl .z ?_
      refine go_nil ?_
      obtain rfl := someI hF
      exact g_ret (rsc rfl (lm_w (mem_seg 0 rfl) ag_37 sz_37 rfl) rs0) (fun h1 hf hs => ⟨hs.hext, ⟨_, _, rfl, (RL.nil _ _ _)⟩⟩)
theorem s_law13_told {h : Heap} (hw : Wf h) (p0 : Tfront_Plan) {a0_1 : Option Addr} {c0_1 : Nat} (f0_1 : RL R_Evt h a0_1 c0_1 p0.Rows) {r : Timpostref13_Plan} (hF : F_law13_told p0 = some r) :
    Ev EE 21 [.agg #[.bool p0.Ok, .slice a0_1 p0.Rows.length c0_1, .int .i64 p0.Err, .int .i64 p0.Hor]] h (fun v h1 => ∃ a0 c0, v = .agg #[.bool r.Ok, .slice a0 r.Rows.length c0, .int .i64 r.Err, .int .i64 r.Hor] ∧ RL R_Evt h1 a0 c0 r.Rows) := by
  unfold F_law13_told at hF
  refine ev_of hw rfl at_21 rfl rfl (go_seg0 ?_)
  refine go_seq ?_
  refine go_region ?_
  refine gs_box rfl (ot rfl) rfl ?_; intro b1_1
  refine gs_alloc rfl zo_55 rfl ?_; intro b2_2
  refine go_nil ?_
  refine go_seq ?_
  refine go_region ?_
  refine gr rfl (r_fa (ot rfl) (fa_37_0 _ _)) ?_
  refine gr rfl (r_load (ot rfl) (lm_s (mem_seg 1 rfl) ag_4 rfl)) ?_
  refine gr rfl (r_fa (ot rfl) (fa_37_1 _ _)) ?_
  refine gr rfl (r_load (ot rfl) (lm_s (mem_seg 1 rfl) ag_34 rfl)) ?_
  refine gr rfl (r_fa (ot rfl) (fa_37_2 _ _)) ?_
  refine gr rfl (r_load (ot rfl) (lm_s (mem_seg 1 rfl) ag_35 rfl)) ?_
  refine gr rfl (r_fa (ot rfl) (fa_37_3 _ _)) ?_
  refine gr rfl (r_load (ot rfl) (lm_s (mem_seg 1 rfl) ag_3 rfl)) ?_
  refine gr rfl (r_build (op1 (ot rfl) (op1 (ot rfl) (op1 (ot rfl) (op1 (ot rfl) op0)))) rfl) ?_
  refine gs_store (ot rfl) (ot rfl) sz_55 rfl rfl rfl rfl rfl .z ?_
  refine go_nil ?_
  obtain rfl := someI hF
  exact g_ret (rsc rfl (lm_w (mem_seg 0 rfl) ag_55 sz_55 rfl) rs0) (fun h1 hf hs => ⟨hs.hext, ⟨_, _, rfl, (f0_1.ext hs.hext.kn)⟩⟩)
theorem s_ref05_Events {h : Heap} (hw : Wf h) (p0 : (List Evt)) (p1 : (List Evt)) {a0_0 : Option Addr} {c0_0 : Nat} {a1_0 : Option Addr} {c1_0 : Nat} (f0_0 : RL R_Evt h a0_0 c0_0 p0) (f1_0 : RL R_Evt h a1_0 c1_0 p1) {r : Bool} (hF : F_ref05_Events p0 p1 = some r) :
    Ev EE 40 [.slice a0_0 p0.length c0_0, .slice a1_0 p1.length c1_0] h (fun v _ => v = .bool r) := by
  unfold F_ref05_Events at hF
  refine ev_of hw rfl at_40 rfl rfl (go_seg0 ?_)
  refine go_seq ?_
  refine go_region ?_
  refine gAc rfl rfl ?_
  refine go_nil ?_
  refine go_seq ?_
  refine go_seq ?_
  refine go_region ?_
  refine gM rfl rfl ?_
  refine gr rfl (r_len rfl (os1 (ot rfl) os0) (fun _ _ => ln_34)) ?_
  refine gM rfl rfl ?_
  refine gr rfl (r_len rfl (os1 (ot rfl) os0) (fun _ _ => ln_34)) ?_
  refine gr rfl (r_bin (ot rfl) (ot rfl) rfl) ?_
  refine go_nil ?_
  refine g_cond (b := ((p0.length : Int) != (p1.length : Int))) (ot rfl) (fun hc1 => ?_) (fun hc1 => ?_)
  ·
    replace hF := ifT hc1 hF
    refine go_seq ?_
    refine go_region ?_
    refine gAc rfl rfl ?_
    refine go_nil ?_
    obtain rfl := someI hF
    exact g_ret (rst rfl rs0) (fun h1 hf hs => ⟨hs.hext, rfl⟩)
  ·
    replace hF := ifF hc1 hF
    refine go_skip ?_
    refine go_seq ?_
    refine go_seq ?_
    refine go_region ?_
    refine gAc rfl rfl ?_
    refine go_nil ?_
    replace hF := obind hF
    obtain ⟨s2, hF, hK2⟩ := hF
    refine go_joinc (β := (Unit)) (fun s h' => s2 = .go s) (fun s => [(4, true, .bool false)]) (fun s => (List.flatten [] : List Blk)) ?_ (fun J2 => ?_)
    ·
      rintro _ h2 e2 w2 hs2
      subst hs2
      replace hF := hK2
      refine go_seq ?_
      refine go_region ?_
      refine gAc rfl rfl ?_
      refine go_nil ?_
      obtain rfl := someI hF
      exact g_ret (rst rfl rs0) (fun h1 hf hs => ⟨(e2.trans hs.hext), rfl⟩)
    ·
      refine go_block ?_
      refine go_loop (α := (List Evt) × Nat × Heap) (fun a => a.1 = List.drop a.2.1 p0 ∧ HExt h a.2.2 ∧ Wf a.2.2 ∧ F_ref05_Events_L1 p1 a.1 a.2.1 = some s2) (fun a => a.1.length) (fun a => [(0, true, .slice a0_0 p0.length c0_0), (1, true, .slice a1_0 p1.length c1_0), (4, true, .bool false), (5, true, .int .i64 (a.2.1 : Int))]) (fun a => (List.flatten [] : List Blk)) (fun a => a.2.2) ?_ (p0, 0, h) ⟨rfl, HExt.refl _, hw, hF⟩ (Sub.cons (Sub.cons (Sub.cons (Sub.cons (Sub.nil _) rfl) rfl) rfl) rfl) rfl rfl
      rintro ⟨r3, i3, h3⟩ ⟨hr3, e3, w3, hF⟩ ih3
      rcases r3 with _ | ⟨z3, r3⟩
      ·
        have hi3 := drop_nil hr3
        rw [F_ref05_Events_L1.eq_1] at hF
        refine go_seq ?_
        refine go_seq ?_
        refine go_region ?_
        refine gM rfl rfl ?_
        refine gM rfl rfl ?_
        refine gr rfl (r_len rfl (os1 (ot rfl) os0) (fun _ _ => ln_34)) ?_
        refine gr rfl (r_bin (ot rfl) (ot rfl) rfl) ?_
        refine go_cast (.bool false) (congrArg Value.bool (decide_eq_false hi3)) ?_
        refine go_nil ?_
        refine g_cond (b := false) (ot rfl) (fun hc4 => ?_) (fun hc4 => ?_)
        · cases hc4
        refine go_exit rfl ?_
        obtain rfl := someI hF
        exact Goes.weak (J2 () _ e3 w3 rfl) (Sub.cons (Sub.nil _) rfl)
      ·
        obtain ⟨hi3, hx3, hr3⟩ := drop_cons hr3
        have hb3 := (f0_0.ext e3.kn).1
        rw [F_ref05_Events_L1.eq_2] at hF
        refine go_seq ?_
        refine go_seq ?_
        refine go_region ?_
        refine gM rfl rfl ?_
        refine gM rfl rfl ?_
        refine gr rfl (r_len rfl (os1 (ot rfl) os0) (fun _ _ => ln_34)) ?_
        refine gr rfl (r_bin (ot rfl) (ot rfl) rfl) ?_
        refine go_cast (.bool true) (congrArg Value.bool (decide_eq_true (Int.ofNat_lt.mpr hi3))) ?_
        refine go_nil ?_
        refine g_cond (b := true) (ot rfl) (fun hc5 => ?_) (fun hc5 => ?_)
        rotate_left
        · cases hc5
        refine go_skip ?_
        refine go_seq ?_
        refine go_block ?_
        refine go_seq ?_
        refine go_regionq (by kernel_rfl) ?_
        refine gM rfl rfl ?_
        refine gM rfl rfl ?_
        obtain ⟨q6, row6, i6, cl6, rc6, sp6⟩ := ix (ik := .i64) (cap := c0_0) (E := EE) (f0_0.ext e3.kn) ((getI_nat _ _).trans hx3) ut_34 sz_41 rfl
        obtain rfl := rc6
        refine gr rfl (r_ia (ot rfl) (ot rfl) i6) ?_
        refine gr rfl (r_load (ot rfl) (v := .agg #[.int .i64 z3.rev, .string z3.key, .string z3.val, .bool z3.del]) (lo_e (fun hf kn => ld_of (r := [.int .i64 z3.rev, .string z3.key, .string z3.val, .bool z3.del]) ag_41 sz_41 (kn.cellsAt cl6)))) ?_
        refine gM rfl rfl ?_
        refine gM rfl rfl ?_
        replace hF := obind hF
        obtain ⟨x7, hx7, hF⟩ := hF
        obtain ⟨q7, row7, i7, cl7, rc7, sp7⟩ := ix (ik := .i64) (cap := c1_0) (E := EE) (f1_0.ext e3.kn) hx7 ut_34 sz_41 rfl
        obtain rfl := rc7
        refine gr rfl (r_ia (ot rfl) (ot rfl) i7) ?_
        refine gr rfl (r_load (ot rfl) (v := .agg #[.int .i64 x7.rev, .string x7.key, .string x7.val, .bool x7.del]) (lo_e (fun hf kn => ld_of (r := [.int .i64 x7.rev, .string x7.key, .string x7.val, .bool x7.del]) ag_41 sz_41 (kn.cellsAt cl7)))) ?_
        refine gr rfl (r_bin (ot rfl) (ot rfl) bn_41) ?_
        refine go_nil ?_
        refine g_cond (b := (!(eq_Evt z3 x7))) (ot rfl) (fun hc8 => ?_) (fun hc8 => ?_)
        ·
          replace hF := ifT hc8 hF
          refine go_seq ?_
          refine go_region ?_
          refine gAc rfl rfl ?_
          refine go_nil ?_
          obtain rfl := someI hF
          obtain rfl := someI hK2
          exact g_ret (rst rfl rs0) (fun h1 hf hs => ⟨(e3.trans hs.hext), rfl⟩)
        ·
          replace hF := ifF hc8 hF
          refine go_skip ?_
          refine go_endb ?_
          refine go_region ?_
          refine gM rfl rfl ?_
          refine gr rfl (r_bin (ot rfl) (oc rfl) rfl) ?_
          refine gA rfl rfl ?_
          refine go_nil ?_
          refine go_re 5 (v2 := .int .i64 ((i3 + 1 : Nat) : Int)) rfl (wrap_succ hi3 hb3) ?_
          exact Goes.weak (ih3 (r3, i3 + 1, h3) ⟨hr3, e3, w3, hF⟩ (Nat.lt_succ_self _)) (Sub.cons (Sub.cons (Sub.cons (Sub.cons (Sub.nil _) rfl) rfl) rfl) rfl)
theorem s_law13_plans {h : Heap} (hw : Wf h) (p0 : Timpostref13_Plan) (p1 : Timpostref13_Plan) {a0_1 : Option Addr} {c0_1 : Nat} {a1_1 : Option Addr} {c1_1 : Nat} (f0_1 : RL R_Evt h a0_1 c0_1 p0.Rows) (f1_1 : RL R_Evt h a1_1 c1_1 p1.Rows) {r : Bool} (hF : F_law13_plans p0 p1 = some r) :
    Ev EE 20 [.agg #[.bool p0.Ok, .slice a0_1 p0.Rows.length c0_1, .int .i64 p0.Err, .int .i64 p0.Hor], .agg #[.bool p1.Ok, .slice a1_1 p1.Rows.length c1_1, .int .i64 p1.Err, .int .i64 p1.Hor]] h (fun v _ => v = .bool r) := by
  unfold F_law13_plans at hF
  refine ev_of hw rfl at_20 rfl rfl (go_seg0 ?_)
  refine go_seq ?_
  refine go_region ?_
  refine gs_box rfl (ot rfl) rfl ?_; intro b2_1
  refine gs_box rfl (ot rfl) rfl ?_; intro b3_2
  refine gAc rfl rfl ?_
  refine go_nil ?_
  refine go_seq ?_
  refine go_region ?_
  refine gr rfl (r_fa (ot rfl) (fa_55_0 _ _)) ?_
  refine gr rfl (r_load (ot rfl) (lm_s (mem_seg 1 rfl) ag_4 rfl)) ?_
  refine gr rfl (r_fa (ot rfl) (fa_55_0 _ _)) ?_
  refine gr rfl (r_load (ot rfl) (lm_s (mem_seg 0 rfl) ag_4 rfl)) ?_
  refine gr rfl (r_bin (ot rfl) (ot rfl) be_4) ?_
  refine gM rfl rfl ?_
  refine grt rfl rfl rfl rfl (r_fa (ot rfl) (fa_55_2 _ _)) ?_
  refine grt rfl rfl rfl rfl (r_load (og rfl id) (lm_s (mem_seg 1 rfl) ag_3 rfl)) ?_
  refine grt rfl rfl rfl rfl (r_fa (ot rfl) (fa_55_2 _ _)) ?_
  refine grt rfl rfl rfl rfl (r_load (og rfl id) (lm_s (mem_seg 0 rfl) ag_3 rfl)) ?_
  refine grt rfl rfl rfl rfl (r_bin (og rfl id) (og rfl id) rfl) ?_
  refine gr rfl (r_pickb (ot rfl) (og rfl id) (oc rfl)) ?_
  refine gM rfl rfl ?_
  refine grt rfl rfl rfl rfl (r_fa (ot rfl) (fa_55_3 _ _)) ?_
  refine grt rfl rfl rfl rfl (r_load (og rfl id) (lm_s (mem_seg 1 rfl) ag_3 rfl)) ?_
  refine grt rfl rfl rfl rfl (r_fa (ot rfl) (fa_55_3 _ _)) ?_
  refine grt rfl rfl rfl rfl (r_load (og rfl id) (lm_s (mem_seg 0 rfl) ag_3 rfl)) ?_
  refine grt rfl rfl rfl rfl (r_bin (og rfl id) (og rfl id) rfl) ?_
  refine gr rfl (r_pickb (ot rfl) (og rfl id) (oc rfl)) ?_
  refine gM rfl rfl ?_
  replace hF := obind hF
  obtain ⟨s4, hF, hK4⟩ := hF
  refine go_joinr 6 (β := Unit) (fun s h' => True) (fun s => [(4, true, .bool false), (30, true, .bool s4)]) (fun s => (List.flatten [[⟨b3_2, .cells [.bool p1.Ok, .slice a1_1 p1.Rows.length c1_1, .int .i64 p1.Err, .int .i64 p1.Hor] 55⟩], [⟨b2_1, .cells [.bool p0.Ok, .slice a0_1 p0.Rows.length c0_1, .int .i64 p0.Err, .int .i64 p0.Hor] 55⟩]] : List Blk)) ?_ (fun J4 => ?_)
  ·
    rintro _ h4 e4 w4 _
    replace hF := hK4
    refine gA rfl rfl ?_
    refine go_nil ?_
    obtain rfl := someI hF
    exact g_ret (rst rfl rs0) (fun h1 hf hs => ⟨(e4.trans hs.hext), rfl⟩)
  ·
    rcases Bool.eq_false_or_eq_true (bif (bif (p0.Ok == p1.Ok) then (p0.Err == p1.Err) else false) then (p0.Hor == p1.Hor) else false) with hb3 | hb3
    ·
      replace hF := ifT hb3 hF
      refine go_re 24 (v2 := .bool true) rfl (congrArg Value.bool hb3) ?_
      refine g_do rfl rfl rfl ?_
      refine gr rfl (r_fa (ot rfl) (fa_55_1 _ _)) ?_
      refine g_do rfl rfl rfl ?_
      refine gr rfl (r_load (ot rfl) (lm_s (mem_seg 1 rfl) ag_34 rfl)) ?_
      refine g_do rfl rfl rfl ?_
      refine gr rfl (r_fa (ot rfl) (fa_55_1 _ _)) ?_
      refine g_do rfl rfl rfl ?_
      refine gr rfl (r_load (ot rfl) (lm_s (mem_seg 0 rfl) ag_34 rfl)) ?_
      refine g_do rfl rfl rfl ?_
      replace hF := obind hF
      obtain ⟨x5, hx5, hF⟩ := hF
      refine g_callp (v := .bool x5) EE_fr rfl of (os1 (ot rfl) (os1 (ot rfl) os0)) hb_40 (fun _ => rfl) (fun hf kn w => by exact s_ref05_Events w p0.Rows p1.Rows (f0_1.ext kn) (f1_1.ext kn) hx5) ?_
      refine gr rfl (r_pkT (ot rfl) (ot rfl)) ?_
      obtain rfl := someI hF
      exact Goes.weak (J4 () _ (HExt.refl _) hw trivial) (Sub.cons (Sub.cons (Sub.nil _) rfl) rfl)
    ·
      replace hF := ifF hb3 hF
      refine go_re 24 (v2 := .bool false) rfl (congrArg Value.bool hb3) ?_
      refine g_no rfl rfl rfl rfl rfl ?_
      refine g_no rfl rfl rfl rfl rfl ?_
      refine g_no rfl rfl rfl rfl rfl ?_
      refine g_no rfl rfl rfl rfl rfl ?_
      refine g_no rfl rfl rfl rfl rfl ?_
      refine gr rfl (r_pkF (ot rfl) (oc rfl)) ?_
      obtain rfl := someI hF
      exact Goes.weak (J4 () _ (HExt.refl _) hw trivial) (Sub.cons (Sub.cons (Sub.nil _) rfl) rfl)
theorem s_law13_FrontOwn (n : Nat) {h : Heap} (hw : Wf h) (p0 : TReq) (p1 : (List KV)) (p2 : THead) {a0_4 : Option Addr} {c0_4 : Nat} {a0_5 : Option Addr} {c0_5 : Nat} {a0_6 : Option Addr} {c0_6 : Nat} {a1_0 : Option Addr} {c1_0 : Nat} (f0_4 : RL R_Cmp h a0_4 c0_4 p0.Cmps) (f0_5 : RL R_OpX h a0_5 c0_5 p0.Then) (f0_6 : RL R_OpX h a0_6 c0_6 p0.Else) (f1_0 : RL R_KV h a1_0 c1_0 p1) {r : Bool} (hF : F_law13_FrontOwn n p0 p1 p2 = some r) :
    Ev EE 5 [.agg #[.int .i64 p0.Kind, .string p0.R.From, .string p0.R.To, .int .i64 p0.Rev, .slice a0_4 p0.Cmps.length c0_4, .slice a0_5 p0.Then.length c0_5, .slice a0_6 p0.Else.length c0_6], .slice a1_0 p1.length c1_0, .agg #[.int .i64 p2.Seq, .int .i64 p2.Rev, .int .i64 p2.Hor]] h (fun v _ => v = .bool r) := by
  unfold F_law13_FrontOwn at hF
  refine ev_of hw rfl at_5 rfl rfl (go_seg0 ?_)
  refine go_seq ?_
  refine go_region ?_
  refine gs_box rfl (ot rfl) rfl ?_; intro b3_1
  refine gs_box rfl (ot rfl) rfl ?_; intro b5_2
  refine gAc rfl rfl ?_
  refine go_nil ?_
  refine go_seq ?_
  refine go_region ?_
  refine g_callp EE_fr rfl of os0 hb_11 (fun _ => rfl) (fun hf kn w => by exact known_evp rfl hf w) ?_
  refine gA rfl rfl ?_
  refine go_nil ?_
  refine go_seq ?_
  refine go_seq ?_
  refine go_region ?_
  refine gr rfl (r_load (ot rfl) (lm_w (mem_seg 1 rfl) ag_27 sz_27 rfl)) ?_
  replace hF := obind hF
  obtain ⟨x4, hx4, hF⟩ := hF
  refine g_callp (v := .bool x4) EE_fr rfl of (os1 (ot rfl) os0) hb_12 (fun _ => rfl) (fun hf kn w => by exact s_law13_few w p0 (f0_4.ext kn) (f0_5.ext kn) (f0_6.ext kn) hx4) ?_
  refine gr rfl (r_un (ot rfl) rfl) ?_
  refine gM rfl rfl ?_
  refine grf rfl rfl rfl rfl (r_move (ot rfl)) ?_
  refine grf rfl rfl rfl rfl (r_len rfl (os1 (og rfl id) os0) (fun _ _ => ln_28)) ?_
  refine grf rfl rfl rfl rfl (r_bin (og rfl id) (oc rfl) rfl) ?_
  refine gr rfl (r_pickb (ot rfl) (oc rfl) (og rfl id)) ?_
  refine gM rfl rfl ?_
  replace hF := obind hF
  obtain ⟨s6, hF, hK6⟩ := hF
  refine go_joinr 4 (β := Unit) (fun s h' => True) (fun s => [(1, true, .slice a1_0 p1.length c1_0), (3, true, .pointer (some ⟨b3_1, 0, none⟩)), (5, true, .pointer (some ⟨b5_2, 0, none⟩)), (6, true, .bool false), (7, true, .bool true), (26, true, .bool s6)]) (fun s => (List.flatten [[⟨b5_2, .cells [.int .i64 p2.Seq, .int .i64 p2.Rev, .int .i64 p2.Hor] 30⟩], [⟨b3_1, .cells [.int .i64 p0.Kind, .string p0.R.From, .string p0.R.To, .int .i64 p0.Rev, .slice a0_4 p0.Cmps.length c0_4, .slice a0_5 p0.Then.length c0_5, .slice a0_6 p0.Else.length c0_6] 27⟩]] : List Blk)) ?_ (fun J6 => ?_)
  ·
    rintro _ h6 e6 w6 _
    replace hF := hK6
    refine gM rfl rfl ?_
    refine grf rfl rfl rfl rfl (r_fa (ot rfl) (fa_30_1 _ _)) ?_
    refine grf rfl rfl rfl rfl (r_load (og rfl id) (lm_s (mem_seg 0 rfl) ag_3 rfl)) ?_
    refine grf rfl rfl rfl rfl (r_bin (og rfl id) (oc rfl) rfl) ?_
    refine gr rfl (r_pickb (ot rfl) (oc rfl) (og rfl id)) ?_
    refine gM rfl rfl ?_
    refine grf rfl rfl rfl rfl (r_fa (ot rfl) (fa_30_2 _ _)) ?_
    refine grf rfl rfl rfl rfl (r_load (og rfl id) (lm_s (mem_seg 0 rfl) ag_3 rfl)) ?_
    refine grf rfl rfl rfl rfl (r_bin (og rfl id) (oc rfl) rfl) ?_
    refine gr rfl (r_pickb (ot rfl) (oc rfl) (og rfl id)) ?_
    refine gM rfl rfl ?_
    refine grf rfl rfl rfl rfl (r_fa (ot rfl) (fa_30_2 _ _)) ?_
    refine grf rfl rfl rfl rfl (r_load (og rfl id) (lm_s (mem_seg 0 rfl) ag_3 rfl)) ?_
    refine grf rfl rfl rfl rfl (r_bin (og rfl id) (oc rfl) rfl) ?_
    refine gr rfl (r_pickb (ot rfl) (oc rfl) (og rfl id)) ?_
    refine go_nil ?_
    refine g_cond (b := (bif (bif (bif s6 then true else (decide (p2.Rev > 1099511627776))) then true else (decide (p2.Hor > 1099511627776))) then true else (decide (p2.Hor < (-1099511627776))))) (ot rfl) (fun hc7 => ?_) (fun hc7 => ?_)
    ·
      replace hF := ifT hc7 hF
      refine go_seq ?_
      refine go_region ?_
      refine gM rfl rfl ?_
      refine gA rfl rfl ?_
      refine go_nil ?_
      obtain rfl := someI hF
      exact g_ret (rst rfl rs0) (fun h1 hf hs => ⟨(e6.trans hs.hext), rfl⟩)
    ·
      replace hF := ifF hc7 hF
      refine go_skip ?_
      refine go_seq ?_
      refine go_region ?_
      refine gr rfl (r_load (ot rfl) (lm_w (mem_seg 1 rfl) ag_27 sz_27 rfl)) ?_
      replace hF := obind hF
      obtain ⟨x8, hx8, hF⟩ := hF
      refine g_call EE_fr (fun _ h => by cases h; rfl) of (os1 (ot rfl) os0) hb_19 (fun hf kn w => by exact s_txn_Keys w p0 ((f0_4.ext e6.kn).ext kn) ((f0_5.ext e6.kn).ext kn) ((f0_6.ext e6.kn).ext kn) hx8) ?_
      rintro v8 h8 e8 w8 ⟨a8_0, c8_0, rfl, f8_0⟩
      refine gA rfl rfl ?_
      refine go_nil ?_
      refine go_seq ?_
      refine go_region ?_
      refine gAc rfl rfl ?_
      refine go_nil ?_
      refine go_seq ?_
      refine go_seq ?_
      refine go_region ?_
      refine gAc rfl rfl ?_
      refine go_nil ?_
      replace hF := obind hF
      obtain ⟨s9, hF, hK9⟩ := hF
      refine go_joinc (β := Option Addr × List Blk) (fun s h' => AccR R_KV 52 h' s.2 (.slice s.1 s9.length s9.length) s9) (fun s => [(1, true, .slice a1_0 p1.length c1_0), (3, true, .pointer (some ⟨b3_1, 0, none⟩)), (5, true, .pointer (some ⟨b5_2, 0, none⟩)), (6, true, .bool false), (7, true, .bool true), (9, true, .slice s.1 s9.length s9.length)]) (fun s => (List.flatten [s.2, [⟨b5_2, .cells [.int .i64 p2.Seq, .int .i64 p2.Rev, .int .i64 p2.Hor] 30⟩], [⟨b3_1, .cells [.int .i64 p0.Kind, .string p0.R.From, .string p0.R.To, .int .i64 p0.Rev, .slice a0_4 p0.Cmps.length c0_4, .slice a0_5 p0.Then.length c0_5, .slice a0_6 p0.Else.length c0_6] 27⟩]] : List Blk)) ?_ (fun J9 => ?_)
      ·
        rintro ⟨a9_0, a9_1⟩ h9 e9 w9 f9_0
        replace hF := hK9
        refine go_seq ?_
        refine go_regions (L := [(0, []), (1, []), (2, []), (3, []), (4, []), (7, []), (8, []), (9, []), (5, [7, 9]), (6, [7, 9]), (10, []), (11, []), (12, []), (13, []), (14, [])]) (by kernel_rfl) (by kernel_rfl) (fun _ => rfl) ?_
        refine go_sop rfl rfl ?_
        refine gM rfl rfl ?_
        refine go_nil ?_
        refine go_sop rfl rfl ?_
        refine gM rfl rfl ?_
        refine go_nil ?_
        refine go_sop rfl rfl ?_
        refine g_do rfl rfl rfl ?_
        refine gr rfl (r_load (ot rfl) (lm_w (mem_seg 2 rfl) ag_27 sz_27 rfl)) ?_
        refine go_nil ?_
        refine go_sop rfl rfl ?_
        refine g_do rfl rfl rfl ?_
        refine gM rfl rfl ?_
        refine go_nil ?_
        refine go_sop rfl rfl ?_
        refine g_do rfl rfl rfl ?_
        refine gr rfl (r_load (ot rfl) (lm_w (mem_seg 1 rfl) ag_30 sz_30 rfl)) ?_
        refine go_nil ?_
        refine go_sop rfl rfl ?_
        refine g_do rfl rfl rfl ?_
        refine gr rfl (r_load (ot rfl) (lm_w (mem_seg 2 rfl) ag_27 sz_27 rfl)) ?_
        refine go_nil ?_
        refine go_sop rfl rfl ?_
        refine g_do rfl rfl rfl ?_
        refine gM rfl rfl ?_
        refine go_nil ?_
        refine go_sop rfl rfl ?_
        refine g_do rfl rfl rfl ?_
        refine gr rfl (r_load (ot rfl) (lm_w (mem_seg 1 rfl) ag_30 sz_30 rfl)) ?_
        refine go_nil ?_
        refine go_sopc [(7, .agg #[.int .i64 p0.Kind, .string p0.R.From, .string p0.R.To, .int .i64 p0.Rev, .slice a0_4 p0.Cmps.length c0_4, .slice a0_5 p0.Then.length c0_5, .slice a0_6 p0.Else.length c0_6]), (9, .agg #[.int .i64 p2.Seq, .int .i64 p2.Rev, .int .i64 p2.Hor])] rfl rfl rfl (rc1 rfl (r_load (ot rfl) (lm_w (mem_seg 2 rfl) ag_27 sz_27 rfl)) (rc1 rfl (r_load (ot rfl) (lm_w (mem_seg 1 rfl) ag_30 sz_30 rfl)) rc0)) (vq1 (veq_agg _ _ (va1 (veq_int _ _ _) (va1 (veq_str _ _) (va1 (veq_str _ _) (va1 (veq_int _ _ _) (va1 (veq_sl _ _ _ _) (va1 (veq_sl _ _ _ _) (va1 (veq_sl _ _ _ _) (va0 _))))))))) (vq1 (veq_agg _ _ (va1 (veq_int _ _ _) (va1 (veq_int _ _ _) (va1 (veq_int _ _ _) (va0 _))))) vq0)) rfl ?_
        refine g_do rfl rfl rfl ?_
        replace hF := obind hF
        obtain ⟨x10, hx10, hF⟩ := hF
        refine g_call EE_fr (fun _ h => by cases h; rfl) of (os1 (ot rfl) (os1 (ot rfl) (os1 (ot rfl) os0))) hb_14 (fun hf kn w => by exact s_front_Decide n w p0 p1 p2 ((((f0_4.ext e6.kn).ext e8.kn).ext e9.kn).ext kn) ((((f0_5.ext e6.kn).ext e8.kn).ext e9.kn).ext kn) ((((f0_6.ext e6.kn).ext e8.kn).ext e9.kn).ext kn) ((((f1_0.ext e6.kn).ext e8.kn).ext e9.kn).ext kn) hx10) ?_
        rintro v10 h10 e10 w10 ⟨a10_0, c10_0, rfl, f10_0⟩
        refine go_nil ?_
        refine go_rck (rc1 rfl (r_load (ot rfl) (lm_w (mem_seg 2 rfl) ag_27 sz_27 rfl)) (rc1 rfl (r_load (ot rfl) (lm_w (mem_seg 1 rfl) ag_30 sz_30 rfl)) rc0)) ?_
        refine go_sopc [(7, .agg #[.int .i64 p0.Kind, .string p0.R.From, .string p0.R.To, .int .i64 p0.Rev, .slice a0_4 p0.Cmps.length c0_4, .slice a0_5 p0.Then.length c0_5, .slice a0_6 p0.Else.length c0_6]), (9, .agg #[.int .i64 p2.Seq, .int .i64 p2.Rev, .int .i64 p2.Hor])] rfl rfl rfl (rc1 rfl (r_load (ot rfl) (lm_w (mem_seg 2 rfl) ag_27 sz_27 rfl)) (rc1 rfl (r_load (ot rfl) (lm_w (mem_seg 1 rfl) ag_30 sz_30 rfl)) rc0)) (vq1 (veq_agg _ _ (va1 (veq_int _ _ _) (va1 (veq_str _ _) (va1 (veq_str _ _) (va1 (veq_int _ _ _) (va1 (veq_sl _ _ _ _) (va1 (veq_sl _ _ _ _) (va1 (veq_sl _ _ _ _) (va0 _))))))))) (vq1 (veq_agg _ _ (va1 (veq_int _ _ _) (va1 (veq_int _ _ _) (va1 (veq_int _ _ _) (va0 _))))) vq0)) rfl ?_
        refine g_do rfl rfl rfl ?_
        replace hF := obind hF
        obtain ⟨x11, hx11, hF⟩ := hF
        refine g_call EE_fr (fun _ h => by cases h; rfl) of (os1 (ot rfl) os0) hb_21 (fun hf kn w => by exact s_law13_told w x10 (f10_0.ext kn) hx11) ?_
        rintro v11 h11 e11 w11 ⟨a11_0, c11_0, rfl, f11_0⟩
        refine go_nil ?_
        refine go_rck (rc1 rfl (r_load (ot rfl) (lm_w (mem_seg 2 rfl) ag_27 sz_27 rfl)) (rc1 rfl (r_load (ot rfl) (lm_w (mem_seg 1 rfl) ag_30 sz_30 rfl)) rc0)) ?_
        refine go_sop rfl rfl ?_
        refine g_do rfl rfl rfl ?_
        refine gs_accpub .z ((f9_0.ext e10.kn).ext e11.kn) (fun h13 e13 w13 f13_ => ?_) rfl
        replace hF := obind hF
        obtain ⟨x12, hx12, hF⟩ := hF
        refine g_call EE_fr (fun _ h => by cases h; rfl) of (os1 (ot rfl) (os1 (ot rfl) (os1 (ot rfl) os0))) hb_14 (fun hf kn w => by exact s_front_Decide n w p0 s9 p2 (((((((f0_4.ext e6.kn).ext e8.kn).ext e9.kn).ext e10.kn).ext e11.kn).ext e13.kn).ext kn) (((((((f0_5.ext e6.kn).ext e8.kn).ext e9.kn).ext e10.kn).ext e11.kn).ext e13.kn).ext kn) (((((((f0_6.ext e6.kn).ext e8.kn).ext e9.kn).ext e10.kn).ext e11.kn).ext e13.kn).ext kn) (f13_.ext kn) hx12) ?_
        rintro v12 h12 e12 w12 ⟨a12_0, c12_0, rfl, f12_0⟩
        refine go_nil ?_
        refine go_sop rfl rfl ?_
        refine g_do rfl rfl rfl ?_
        replace hF := obind hF
        obtain ⟨x14, hx14, hF⟩ := hF
        refine g_call EE_fr (fun _ h => by cases h; rfl) of (os1 (ot rfl) os0) hb_21 (fun hf kn w => by exact s_law13_told w x12 (f12_0.ext kn) hx14) ?_
        rintro v14 h14 e14 w14 ⟨a14_0, c14_0, rfl, f14_0⟩
        refine go_nil ?_
        refine go_sop rfl rfl ?_
        refine g_do rfl rfl rfl ?_
        replace hF := obind hF
        obtain ⟨x15, hx15, hF⟩ := hF
        refine g_callp (v := .bool x15) EE_fr rfl of (os1 (ot rfl) (os1 (ot rfl) os0)) hb_20 (fun _ => rfl) (fun hf kn w => by exact s_law13_plans w x11 x14 ((((f11_0.ext e13.kn).ext e12.kn).ext e14.kn).ext kn) (f14_0.ext kn) hx15) ?_
        refine go_nil ?_
        refine go_sop rfl rfl ?_
        refine gr rfl (r_pkT (ot rfl) (ot rfl)) ?_
        refine go_nil ?_
        refine go_sop rfl rfl ?_
        refine gA rfl rfl ?_
        refine go_nil ?_
        refine go_snil ?_
        obtain rfl := someI hF
        exact g_ret (rst rfl rs0) (fun h1 hf hs => ⟨(e6.trans (e8.trans (e9.trans (e10.trans (e11.trans (e13.trans (e12.trans (e14.trans hs.hext)))))))), rfl⟩)
      ·
        refine go_block ?_
        refine go_loop (α := (List KV) × Nat × (List KV) × Option Addr × List Blk × Heap) (fun a => a.1 = List.drop a.2.1 p1 ∧ HExt h8 a.2.2.2.2.2 ∧ Wf a.2.2.2.2.2 ∧ F_law13_FrontOwn_L1 x8 a.1 a.2.1 a.2.2.1 = some s9 ∧ AccR R_KV 52 a.2.2.2.2.2 a.2.2.2.2.1 (.slice a.2.2.2.1 a.2.2.1.length a.2.2.1.length) a.2.2.1) (fun a => a.1.length) (fun a => [(1, true, .slice a1_0 p1.length c1_0), (3, true, .pointer (some ⟨b3_1, 0, none⟩)), (5, true, .pointer (some ⟨b5_2, 0, none⟩)), (6, true, .bool false), (7, true, .bool true), (8, true, .slice a8_0 x8.length c8_0), (9, true, .slice a.2.2.2.1 a.2.2.1.length a.2.2.1.length), (10, true, .int .i64 (a.2.1 : Int))]) (fun a => (List.flatten [a.2.2.2.2.1, [⟨b5_2, .cells [.int .i64 p2.Seq, .int .i64 p2.Rev, .int .i64 p2.Hor] 30⟩], [⟨b3_1, .cells [.int .i64 p0.Kind, .string p0.R.From, .string p0.R.To, .int .i64 p0.Rev, .slice a0_4 p0.Cmps.length c0_4, .slice a0_5 p0.Then.length c0_5, .slice a0_6 p0.Else.length c0_6] 27⟩]] : List Blk)) (fun a => a.2.2.2.2.2) ?_ (p1, 0, ([] : List KV), none, [], h8) ⟨rfl, HExt.refl _, w8, hF, (AccR.nil _ _ _)⟩ (Sub.cons (Sub.cons (Sub.cons (Sub.cons (Sub.cons (Sub.cons (Sub.cons (Sub.cons (Sub.nil _) rfl) rfl) rfl) rfl) rfl) rfl) rfl) rfl) rfl rfl
        rintro ⟨r16, i16, y16_0, a16_0, a16_1, h16⟩ ⟨hr16, e16, w16, hF, f16_0⟩ ih16
        rcases r16 with _ | ⟨z16, r16⟩
        ·
          have hi16 := drop_nil hr16
          rw [F_law13_FrontOwn_L1.eq_1] at hF
          refine go_seq ?_
          refine go_seq ?_
          refine go_region ?_
          refine gM rfl rfl ?_
          refine gM rfl rfl ?_
          refine gr rfl (r_len rfl (os1 (ot rfl) os0) (fun _ _ => ln_28)) ?_
          refine gr rfl (r_bin (ot rfl) (ot rfl) rfl) ?_
          refine go_cast (.bool false) (congrArg Value.bool (decide_eq_false hi16)) ?_
          refine go_nil ?_
          refine g_cond (b := false) (ot rfl) (fun hc17 => ?_) (fun hc17 => ?_)
          · cases hc17
          refine go_exit rfl ?_
          obtain rfl := someI hF
          exact Goes.weak (J9 (a16_0, a16_1) _ e16 w16 f16_0) (Sub.cons (Sub.cons (Sub.cons (Sub.cons (Sub.cons (Sub.cons (Sub.nil _) rfl) rfl) rfl) rfl) rfl) rfl)
        ·
          obtain ⟨hi16, hx16, hr16⟩ := drop_cons hr16
          have hb16 := (((f1_0.ext e6.kn).ext e8.kn).ext e16.kn).1
          rw [F_law13_FrontOwn_L1.eq_2] at hF
          refine go_seq ?_
          refine go_seq ?_
          refine go_region ?_
          refine gM rfl rfl ?_
          refine gM rfl rfl ?_
          refine gr rfl (r_len rfl (os1 (ot rfl) os0) (fun _ _ => ln_28)) ?_
          refine gr rfl (r_bin (ot rfl) (ot rfl) rfl) ?_
          refine go_cast (.bool true) (congrArg Value.bool (decide_eq_true (Int.ofNat_lt.mpr hi16))) ?_
          refine go_nil ?_
          refine g_cond (b := true) (ot rfl) (fun hc18 => ?_) (fun hc18 => ?_)
          rotate_left
          · cases hc18
          refine go_skip ?_
          refine go_seq ?_
          refine go_block ?_
          refine go_seq ?_
          refine go_region ?_
          refine gAc rfl rfl ?_
          refine go_nil ?_
          refine go_seq ?_
          refine go_seq ?_
          refine go_region ?_
          refine gAc rfl rfl ?_
          refine go_nil ?_
          replace hF := obind hF
          obtain ⟨s19, hF, hK19⟩ := hF
          refine go_joinc (β := Unit) (fun s h' => True) (fun s => [(1, true, .slice a1_0 p1.length c1_0), (3, true, .pointer (some ⟨b3_1, 0, none⟩)), (5, true, .pointer (some ⟨b5_2, 0, none⟩)), (6, true, .bool false), (7, true, .bool true), (8, true, .slice a8_0 x8.length c8_0), (9, true, .slice a16_0 y16_0.length y16_0.length), (10, true, .int .i64 (i16 : Int)), (11, true, .bool s19.1), (12, true, .int .i64 s19.2.1), (45, true, .int .i64 (i16 : Int)), (46, true, .slice a1_0 p1.length c1_0), (47, true, .int .i64 (p1.length : Int)), (48, true, .bool true), (51, true, .int .i64 s19.2.2), (52, true, .slice a8_0 x8.length c8_0), (53, true, .int .i64 (x8.length : Int)), (54, true, .bool false)]) (fun s => (List.flatten [a16_1, [⟨b5_2, .cells [.int .i64 p2.Seq, .int .i64 p2.Rev, .int .i64 p2.Hor] 30⟩], [⟨b3_1, .cells [.int .i64 p0.Kind, .string p0.R.From, .string p0.R.To, .int .i64 p0.Rev, .slice a0_4 p0.Cmps.length c0_4, .slice a0_5 p0.Then.length c0_5, .slice a0_6 p0.Else.length c0_6] 27⟩]] : List Blk)) ?_ (fun J19 => ?_)
          ·
            rintro _ h19 e19 w19 _
            replace hF := hK19
            refine go_seq ?_
            refine go_region ?_
            refine gM rfl rfl ?_
            refine go_nil ?_
            replace hF := obind hF
            obtain ⟨s21, hF, hK21⟩ := hF
            refine go_joinc (β := Option Addr × List Blk) (fun s h' => AccR R_KV 52 h' s.2 (.slice s.1 s21.length s21.length) s21) (fun s => [(1, true, .slice a1_0 p1.length c1_0), (3, true, .pointer (some ⟨b3_1, 0, none⟩)), (5, true, .pointer (some ⟨b5_2, 0, none⟩)), (6, true, .bool false), (7, true, .bool true), (8, true, .slice a8_0 x8.length c8_0), (9, true, .slice s.1 s21.length s21.length), (10, true, .int .i64 (i16 : Int)), (11, true, .bool s19.1), (12, true, .int .i64 s19.2.1), (45, true, .int .i64 (i16 : Int)), (46, true, .slice a1_0 p1.length c1_0), (47, true, .int .i64 (p1.length : Int)), (48, true, .bool true), (51, true, .int .i64 s19.2.2), (52, true, .slice a8_0 x8.length c8_0), (53, true, .int .i64 (x8.length : Int)), (54, true, .bool false), (70, true, .bool s19.1)]) (fun s => (List.flatten [s.2, [⟨b5_2, .cells [.int .i64 p2.Seq, .int .i64 p2.Rev, .int .i64 p2.Hor] 30⟩], [⟨b3_1, .cells [.int .i64 p0.Kind, .string p0.R.From, .string p0.R.To, .int .i64 p0.Rev, .slice a0_4 p0.Cmps.length c0_4, .slice a0_5 p0.Then.length c0_5, .slice a0_6 p0.Else.length c0_6] 27⟩]] : List Blk)) ?_ (fun J21 => ?_)
            ·
              rintro ⟨a21_0, a21_1⟩ h21 e21 w21 f21_0
              replace hF := hK21
              refine go_endb ?_
              refine go_region ?_
              refine gM rfl rfl ?_
              refine gr rfl (r_bin (ot rfl) (oc rfl) rfl) ?_
              refine gA rfl rfl ?_
              refine go_nil ?_
              refine go_re 10 (v2 := .int .i64 ((i16 + 1 : Nat) : Int)) rfl (wrap_succ hi16 hb16) ?_
              exact Goes.weak (ih16 (r16, i16 + 1, s21, a21_0, a21_1, h21) ⟨hr16, (e16.trans (e19.trans e21)), w21, hF, f21_0⟩ (Nat.lt_succ_self _)) (Sub.cons (Sub.cons (Sub.cons (Sub.cons (Sub.cons (Sub.cons (Sub.cons (Sub.cons (Sub.nil _) rfl) rfl) rfl) rfl) rfl) rfl) rfl) rfl)
            ·
              refine g_cond (b := s19.1) (ot rfl) (fun hc20 => ?_) (fun hc20 => ?_)
              ·
                replace hF := ifT hc20 hF
                refine go_region ?_
                refine gM rfl rfl ?_
                refine gM rfl rfl ?_
                refine gM rfl rfl ?_
                obtain ⟨q22, row22, i22, cl22, rc22, sp22⟩ := ix (ik := .i64) (cap := c1_0) (E := EE) ((((f1_0.ext e6.kn).ext e8.kn).ext e16.kn).ext e19.kn) ((getI_nat _ _).trans hx16) ut_28 sz_52 rfl
                obtain rfl := rc22
                refine gr rfl (r_ia (ot rfl) (ot rfl) i22) ?_
                refine gr rfl (r_load (ot rfl) (v := .agg #[.string z16.key, .string z16.val, .int .i64 z16.rev]) (lo_e (fun hf kn => ld_of (r := [.string z16.key, .string z16.val, .int .i64 z16.rev]) ag_52 sz_52 (kn.cellsAt cl22)))) ?_
                refine gs_bslice (cs := [.string z16.key, .string z16.val, .int .i64 z16.rev]) rfl (op1 (ot rfl) op0) ut_28 sz_52 zo_52 rfl rfl ?_; intro b76_23
                replace hF := obind hF
                obtain ⟨x24, hx24, hF⟩ := hF
                obtain ⟨hr24, rfl⟩ := appL_some hx24
                refine gs_front (.s (.z)) ?_
                refine gs_app (rows2 := [[.string z16.key, .string z16.val, .int .i64 z16.rev]]) (R := R_KV) rfl (os1 (ot rfl) (os1 (ot rfl) os0)) rfl ut_28 sz_52 rfl (by decide) by_52 zo_52 rfl zs_28_28 rfl rfl (first_m (mem_seg 1 rfl) rfl (by decide)) (Rws.one (x := z16) rfl) (f16_0.ext e19.kn) hr24 (fun p24_ tl24 f24_ => ?_)
                refine gA rfl rfl ?_
                refine go_nil ?_
                obtain rfl := someI hF
                refine gs_sub (.cons_cons _ (.cons _ (.cons_cons _ (.cons_cons _ (.refl _))))) ?_
                exact Goes.weak (J21 (p24_, tl24) _ (HExt.refl _) w19 f24_) (Sub.cons (Sub.cons (Sub.cons (Sub.cons (Sub.cons (Sub.cons (Sub.cons (Sub.cons (Sub.cons (Sub.cons (Sub.cons (Sub.cons (Sub.cons (Sub.cons (Sub.cons (Sub.cons (Sub.cons (Sub.cons (Sub.cons (Sub.nil _) rfl) rfl) rfl) rfl) rfl) rfl) rfl) rfl) rfl) rfl) rfl) rfl) rfl) rfl) rfl) rfl) rfl) rfl) rfl)
              ·
                replace hF := ifF hc20 hF
                refine go_skip ?_
                obtain rfl := someI hF
                exact Goes.weak (J21 (a16_0, a16_1) _ (HExt.refl _) w19 (f16_0.ext e19.kn)) (Sub.cons (Sub.cons (Sub.cons (Sub.cons (Sub.cons (Sub.cons (Sub.cons (Sub.cons (Sub.cons (Sub.cons (Sub.cons (Sub.cons (Sub.cons (Sub.cons (Sub.cons (Sub.cons (Sub.cons (Sub.cons (Sub.cons (Sub.nil _) rfl) rfl) rfl) rfl) rfl) rfl) rfl) rfl) rfl) rfl) rfl) rfl) rfl) rfl) rfl) rfl) rfl) rfl) rfl)
          ·
            refine go_block ?_
            refine go_loop (α := (List ByteArray) × Nat × Bool × Heap) (fun a => a.1 = List.drop a.2.1 x8 ∧ HExt h16 a.2.2.2 ∧ Wf a.2.2.2 ∧ F_law13_FrontOwn_L2 z16 a.1 a.2.1 a.2.2.1 = some s19) (fun a => a.1.length) (fun a => [(1, true, .slice a1_0 p1.length c1_0), (3, true, .pointer (some ⟨b3_1, 0, none⟩)), (5, true, .pointer (some ⟨b5_2, 0, none⟩)), (6, true, .bool false), (7, true, .bool true), (8, true, .slice a8_0 x8.length c8_0), (9, true, .slice a16_0 y16_0.length y16_0.length), (10, true, .int .i64 (i16 : Int)), (11, true, .bool a.2.2.1), (12, true, .int .i64 (a.2.1 : Int)), (45, true, .int .i64 (i16 : Int)), (46, true, .slice a1_0 p1.length c1_0), (47, true, .int .i64 (p1.length : Int)), (48, true, .bool true)]) (fun a => (List.flatten [a16_1, [⟨b5_2, .cells [.int .i64 p2.Seq, .int .i64 p2.Rev, .int .i64 p2.Hor] 30⟩], [⟨b3_1, .cells [.int .i64 p0.Kind, .string p0.R.From, .string p0.R.To, .int .i64 p0.Rev, .slice a0_4 p0.Cmps.length c0_4, .slice a0_5 p0.Then.length c0_5, .slice a0_6 p0.Else.length c0_6] 27⟩]] : List Blk)) (fun a => a.2.2.2) ?_ (x8, 0, false, h16) ⟨rfl, HExt.refl _, w16, hF⟩ (Sub.cons (Sub.cons (Sub.cons (Sub.cons (Sub.cons (Sub.cons (Sub.cons (Sub.cons (Sub.cons (Sub.cons (Sub.cons (Sub.cons (Sub.cons (Sub.cons (Sub.nil _) rfl) rfl) rfl) rfl) rfl) rfl) rfl) rfl) rfl) rfl) rfl) rfl) rfl) rfl) rfl rfl
            rintro ⟨r25, i25, y25_0, h25⟩ ⟨hr25, e25, w25, hF⟩ ih25
            rcases r25 with _ | ⟨z25, r25⟩
            ·
              have hi25 := drop_nil hr25
              rw [F_law13_FrontOwn_L2.eq_1] at hF
              refine go_seq ?_
              refine go_seq ?_
              refine go_region ?_
              refine gM rfl rfl ?_
              refine gM rfl rfl ?_
              refine gr rfl (r_len rfl (os1 (ot rfl) os0) (fun _ _ => ln_49)) ?_
              refine gr rfl (r_bin (ot rfl) (ot rfl) rfl) ?_
              refine go_cast (.bool false) (congrArg Value.bool (decide_eq_false hi25)) ?_
              refine go_nil ?_
              refine g_cond (b := false) (ot rfl) (fun hc26 => ?_) (fun hc26 => ?_)
              · cases hc26
              refine go_exit rfl ?_
              obtain rfl := someI hF
              exact Goes.weak (J19 () _ e25 w25 trivial) (Sub.cons (Sub.cons (Sub.cons (Sub.cons (Sub.cons (Sub.cons (Sub.cons (Sub.cons (Sub.cons (Sub.cons (Sub.cons (Sub.cons (Sub.cons (Sub.cons (Sub.cons (Sub.cons (Sub.cons (Sub.cons (Sub.nil _) rfl) rfl) rfl) rfl) rfl) rfl) rfl) rfl) rfl) rfl) rfl) rfl) rfl) rfl) rfl) rfl) rfl) rfl)
            ·
              obtain ⟨hi25, hx25, hr25⟩ := drop_cons hr25
              have hb25 := ((f8_0.ext e16.kn).ext e25.kn).1
              rw [F_law13_FrontOwn_L2.eq_2] at hF
              refine go_seq ?_
              refine go_seq ?_
              refine go_region ?_
              refine gM rfl rfl ?_
              refine gM rfl rfl ?_
              refine gr rfl (r_len rfl (os1 (ot rfl) os0) (fun _ _ => ln_49)) ?_
              refine gr rfl (r_bin (ot rfl) (ot rfl) rfl) ?_
              refine go_cast (.bool true) (congrArg Value.bool (decide_eq_true (Int.ofNat_lt.mpr hi25))) ?_
              refine go_nil ?_
              refine g_cond (b := true) (ot rfl) (fun hc27 => ?_) (fun hc27 => ?_)
              rotate_left
              · cases hc27
              refine go_skip ?_
              refine go_seq ?_
              refine go_block ?_
              refine go_regionq (by kernel_rfl) ?_
              refine gM rfl rfl ?_
              refine gM rfl rfl ?_
              replace hF := obind hF
              obtain ⟨s29, hF, hK29⟩ := hF
              refine go_joinr 11 (β := Unit) (fun s h' => True) (fun s => [(1, true, .slice a1_0 p1.length c1_0), (3, true, .pointer (some ⟨b3_1, 0, none⟩)), (5, true, .pointer (some ⟨b5_2, 0, none⟩)), (6, true, .bool false), (7, true, .bool true), (8, true, .slice a8_0 x8.length c8_0), (9, true, .slice a16_0 y16_0.length y16_0.length), (10, true, .int .i64 (i16 : Int)), (11, true, .bool y25_0), (12, true, .int .i64 (i25 : Int)), (45, true, .int .i64 (i16 : Int)), (46, true, .slice a1_0 p1.length c1_0), (47, true, .int .i64 (p1.length : Int)), (48, true, .bool true), (51, true, .int .i64 (i25 : Int)), (52, true, .slice a8_0 x8.length c8_0), (53, true, .int .i64 (x8.length : Int)), (54, true, .bool true), (57, true, .bool y25_0), (58, true, .bool s29.1), (69, true, .bool s29.2)]) (fun s => (List.flatten [a16_1, [⟨b5_2, .cells [.int .i64 p2.Seq, .int .i64 p2.Rev, .int .i64 p2.Hor] 30⟩], [⟨b3_1, .cells [.int .i64 p0.Kind, .string p0.R.From, .string p0.R.To, .int .i64 p0.Rev, .slice a0_4 p0.Cmps.length c0_4, .slice a0_5 p0.Then.length c0_5, .slice a0_6 p0.Else.length c0_6] 27⟩]] : List Blk)) ?_ (fun J29 => ?_)
              ·
                rintro _ h29 e29 w29 _
                replace hF := hK29
                refine gA rfl rfl ?_
                refine go_nil ?_
                refine go_endb ?_
                refine go_region ?_
                refine gM rfl rfl ?_
                refine gr rfl (r_bin (ot rfl) (oc rfl) rfl) ?_
                refine gA rfl rfl ?_
                refine go_nil ?_
                refine go_re 12 (v2 := .int .i64 ((i25 + 1 : Nat) : Int)) rfl (wrap_succ hi25 hb25) ?_
                exact Goes.weak (ih25 (r25, i25 + 1, s29.2, h29) ⟨hr25, (e25.trans e29), w29, hF⟩ (Nat.lt_succ_self _)) (Sub.cons (Sub.cons (Sub.cons (Sub.cons (Sub.cons (Sub.cons (Sub.cons (Sub.cons (Sub.cons (Sub.cons (Sub.cons (Sub.cons (Sub.cons (Sub.cons (Sub.nil _) rfl) rfl) rfl) rfl) rfl) rfl) rfl) rfl) rfl) rfl) rfl) rfl) rfl) rfl)
              ·
                rcases Bool.eq_false_or_eq_true y25_0 with hb28 | hb28
                ·
                  replace hF := ifT hb28 hF
                  refine go_re 58 (v2 := .bool true) rfl (congrArg Value.bool hb28) ?_
                  refine g_no rfl rfl rfl rfl rfl ?_
                  refine g_no rfl rfl rfl rfl rfl ?_
                  refine g_no rfl rfl rfl rfl rfl ?_
                  refine g_no rfl rfl rfl rfl rfl ?_
                  refine g_no rfl rfl rfl rfl rfl ?_
                  refine g_no rfl rfl rfl rfl rfl ?_
                  refine g_no rfl rfl rfl rfl rfl ?_
                  refine g_no rfl rfl rfl rfl rfl ?_
                  refine g_no rfl rfl rfl rfl rfl ?_
                  refine g_no rfl rfl rfl rfl rfl ?_
                  refine gr rfl (r_pkT (ot rfl) (oc rfl)) ?_
                  obtain rfl := someI hF
                  exact Goes.weak (J29 () _ (HExt.refl _) w25 trivial) (Sub.cons (Sub.cons (Sub.cons (Sub.cons (Sub.cons (Sub.cons (Sub.cons (Sub.cons (Sub.cons (Sub.cons (Sub.cons (Sub.cons (Sub.cons (Sub.cons (Sub.cons (Sub.cons (Sub.cons (Sub.cons (Sub.cons (Sub.cons (Sub.cons (Sub.nil _) rfl) rfl) rfl) rfl) rfl) rfl) rfl) rfl) rfl) rfl) rfl) rfl) rfl) rfl) rfl) rfl) rfl) rfl) rfl) rfl) rfl)
                ·
                  replace hF := ifF hb28 hF
                  refine go_re 58 (v2 := .bool false) rfl (congrArg Value.bool hb28) ?_
                  refine g_do rfl rfl rfl ?_
                  refine gM rfl rfl ?_
                  refine g_do rfl rfl rfl ?_
                  refine gM rfl rfl ?_
                  refine g_do rfl rfl rfl ?_
                  obtain ⟨q30, row30, i30, cl30, rc30, sp30⟩ := ix (ik := .i64) (cap := c8_0) (E := EE) ((f8_0.ext e16.kn).ext e25.kn) ((getI_nat _ _).trans hx25) ut_49 sz_9 rfl
                  obtain rfl := rc30
                  refine gr rfl (r_ia (ot rfl) (ot rfl) i30) ?_
                  refine g_do rfl rfl rfl ?_
                  refine gr rfl (r_load (ot rfl) (v := .string z25) (lo_e (fun hf kn => ld_one ag_9 (kn.cellsAt cl30)))) ?_
                  refine g_do rfl rfl rfl ?_
                  refine gM rfl rfl ?_
                  refine g_do rfl rfl rfl ?_
                  refine gM rfl rfl ?_
                  refine g_do rfl rfl rfl ?_
                  obtain ⟨q31, row31, i31, cl31, rc31, sp31⟩ := ix (ik := .i64) (cap := c1_0) (E := EE) ((((f1_0.ext e6.kn).ext e8.kn).ext e16.kn).ext e25.kn) ((getI_nat _ _).trans hx16) ut_28 sz_52 rfl
                  obtain rfl := rc31
                  refine gr rfl (r_ia (ot rfl) (ot rfl) i31) ?_
                  refine g_do rfl rfl rfl ?_
                  refine gr rfl (r_fa (ot rfl) (fs_52_0 sp31)) ?_
                  refine g_do rfl rfl rfl ?_
                  refine gr rfl (r_load (ot rfl) (v := .string z16.key) (lo_e (fun hf kn => ld_field (r := [.string z16.key, .string z16.val, .int .i64 z16.rev]) ag_9 (kn.cellsAt cl31) rfl))) ?_
                  refine g_do rfl rfl rfl ?_
                  refine gr rfl (r_bin (ot rfl) (ot rfl) rfl) ?_
                  refine gr rfl (r_pkF (ot rfl) (ot rfl)) ?_
                  obtain rfl := someI hF
                  exact Goes.weak (J29 () _ (HExt.refl _) w25 trivial) (Sub.cons (Sub.cons (Sub.cons (Sub.cons (Sub.cons (Sub.cons (Sub.cons (Sub.cons (Sub.cons (Sub.cons (Sub.cons (Sub.cons (Sub.cons (Sub.cons (Sub.cons (Sub.cons (Sub.cons (Sub.cons (Sub.cons (Sub.cons (Sub.cons (Sub.nil _) rfl) rfl) rfl) rfl) rfl) rfl) rfl) rfl) rfl) rfl) rfl) rfl) rfl) rfl) rfl) rfl) rfl) rfl) rfl) rfl) rfl)
  ·
    rcases Bool.eq_false_or_eq_true (bif (!x4) then true else (decide ((p1.length : Int) > 60))) with hb5 | hb5
    ·
      replace hF := ifT hb5 hF
      refine go_re 22 (v2 := .bool true) rfl (congrArg Value.bool hb5) ?_
      refine g_no rfl rfl rfl rfl rfl ?_
      refine g_no rfl rfl rfl rfl rfl ?_
      refine g_no rfl rfl rfl rfl rfl ?_
      refine gr rfl (r_pkT (ot rfl) (oc rfl)) ?_
      obtain rfl := someI hF
      exact Goes.weak (J6 () _ (HExt.refl _) hw trivial) (Sub.cons (Sub.cons (Sub.cons (Sub.cons (Sub.cons (Sub.cons (Sub.nil _) rfl) rfl) rfl) rfl) rfl) rfl)
    ·
      replace hF := ifF hb5 hF
      refine go_re 22 (v2 := .bool false) rfl (congrArg Value.bool hb5) ?_
      refine g_do rfl rfl rfl ?_
      refine gM rfl rfl ?_
      refine g_do rfl rfl rfl ?_
      replace hF := obind hF
      obtain ⟨x32, hx32, hF⟩ := hF
      refine g_callp (v := .bool x32) EE_fr rfl of (os1 (ot rfl) os0) hb_13 (fun _ => rfl) (fun hf kn w => by exact s_ref05_Map w p1 (f1_0.ext kn) hx32) ?_
      refine g_do rfl rfl rfl ?_
      refine gr rfl (r_un (ot rfl) rfl) ?_
      refine gr rfl (r_pkF (ot rfl) (ot rfl)) ?_
      obtain rfl := someI hF
      exact Goes.weak (J6 () _ (HExt.refl _) hw trivial) (Sub.cons (Sub.cons (Sub.cons (Sub.cons (Sub.cons (Sub.cons (Sub.nil _) rfl) rfl) rfl) rfl) rfl) rfl)
end Go.Proofs.Ytadfhabapgipbaa.V
