/- Walks.
   No condition: these are laws of the clean machine and of this program. -/
import Derived.Test.YtpfdandpmpmbiaaPT
import Derived.Test.YtpfdandpmpmbiaaFj
import Derived.Test.YtpfdandpmpmbiaaWs
import Derived.Test.YtpfdandpmpmbiaaWt
import Derived.Test.YtpfdandpmpmbiaaWo
import Derived.Test.YtpfdandpmpmbiaaWm
import Derived.Test.YtpfdandpmpmbiaaWn
namespace Go.Proofs.Ytpfdandpmpmbiaa.V
open Go
set_option linter.unusedVariables false
set_option linter.unusedSimpArgs false
set_option maxRecDepth 100000
set_option maxHeartbeats 4000000
theorem s_law13_few {h : Heap} (hw : Wf h) (p0 : TReq) {a0_4 : Option Addr} {c0_4 : Nat} {a0_5 : Option Addr} {c0_5 : Nat} {a0_6 : Option Addr} {c0_6 : Nat} (f0_4 : RL R_TCmp h a0_4 c0_4 p0.Cmps) (f0_5 : RL R_TOp h a0_5 c0_5 p0.Then) (f0_6 : RL R_TOp h a0_6 c0_6 p0.Else) {r : Bool} (hF : F_law13_few p0 = some r) :
    Ev EE 41 [.agg #[.int .i64 p0.Kind, .string p0.R.From, .string p0.R.To, .int .i64 p0.Rev, .slice a0_4 p0.Cmps.length c0_4, .slice a0_5 p0.Then.length c0_5, .slice a0_6 p0.Else.length c0_6]] h (fun v _ => v = .bool r) := by
  unfold F_law13_few at hF
  refine ev_of hw rfl at_41 rfl rfl (go_seg0 ?_)
  refine go_seq ?_
  refine go_region ?_
  refine gs_box rfl (ot rfl) rfl ?_; intro b1_1
  refine gAc rfl rfl ?_
  refine go_nil ?_
  refine go_seq ?_
  refine go_region ?_
  refine gr rfl (r_fa (ot rfl) (fa_61_3 _ _)) ?_
  refine gr rfl (r_load (ot rfl) (lm_s (mem_seg 0 rfl) ag_59 rfl)) ?_
  refine gr rfl (r_len rfl (os1 (ot rfl) os0) (fun _ _ => ln_59)) ?_
  refine gr rfl (r_bin (ot rfl) (oc rfl) rfl) ?_
  refine gM rfl rfl ?_
  refine grt rfl rfl rfl rfl (r_fa (ot rfl) (fa_61_4 _ _)) ?_
  refine grt rfl rfl rfl rfl (r_load (og rfl id) (lm_s (mem_seg 0 rfl) ag_39 rfl)) ?_
  refine grt rfl rfl rfl rfl (r_len rfl (os1 (og rfl id) os0) (fun _ _ => ln_39)) ?_
  refine grt rfl rfl rfl rfl (r_bin (og rfl id) (oc rfl) rfl) ?_
  refine gr rfl (r_pickb (ot rfl) (og rfl id) (oc rfl)) ?_
  refine gM rfl rfl ?_
  refine grt rfl rfl rfl rfl (r_fa (ot rfl) (fa_61_5 _ _)) ?_
  refine grt rfl rfl rfl rfl (r_load (og rfl id) (lm_s (mem_seg 0 rfl) ag_39 rfl)) ?_
  refine grt rfl rfl rfl rfl (r_len rfl (os1 (og rfl id) os0) (fun _ _ => ln_39)) ?_
  refine grt rfl rfl rfl rfl (r_bin (og rfl id) (oc rfl) rfl) ?_
  refine gr rfl (r_pickb (ot rfl) (og rfl id) (oc rfl)) ?_
  refine gA rfl rfl ?_
  refine go_nil ?_
  obtain rfl := someI hF
  exact g_ret (rst rfl rs0) (fun h1 hf hs => ⟨hs.hext, rfl⟩)
theorem s_law13_ops {h : Heap} (hw : Wf h) (p0 : (List TEvent)) {a0_0 : Option Addr} {c0_0 : Nat} (f0_0 : RL R_TEvent h a0_0 c0_0 p0) {r : (List TOp)} (hF : F_law13_ops p0 = some r) :
    Ev EE 47 [.slice a0_0 p0.length c0_0] h (fun v h1 => ∃ a0 c0, v = .slice a0 r.length c0 ∧ RL R_TOp h1 a0 c0 r) := by
  unfold F_law13_ops at hF
  refine ev_of hw rfl at_47 rfl rfl (go_seg0 ?_)
  refine go_seq ?_
  refine go_region ?_
  refine gAc rfl rfl ?_
  refine go_nil ?_
  refine go_seq ?_
  refine go_region ?_
  refine gAc rfl rfl ?_
  refine go_nil ?_
  refine go_seq ?_
  refine go_seq ?_
  refine go_region ?_
  refine gAc rfl rfl ?_
  refine go_nil ?_
  replace hF := obind hF
  obtain ⟨s1, hF, hK1⟩ := hF
  refine go_joinc (β := Option Addr × List Blk) (fun s h' => AccR R_TOp 45 h' s.2 (.slice s.1 s1.length s1.length) s1) (fun s => [(2, true, .slice none 0 0), (3, true, .slice s.1 s1.length s1.length)]) (fun s => (List.flatten [s.2] : List Blk)) ?_ (fun J1 => ?_)
  ·
    rintro ⟨a1_0, a1_1⟩ h1 e1 w1 f1_0
    replace hF := hK1
    refine go_seq ?_
    refine go_region ?_
    refine gM rfl rfl ?_
    refine gA rfl rfl ?_
    refine go_nil ?_
    refine gs_accpub .z f1_0 (fun h2 e2 w2 f2_ => ?_) rfl
    obtain rfl := someI hF
    exact g_ret (rst rfl rs0) (fun h1 hf hs => ⟨(e1.trans (e2.trans hs.hext)), ⟨_, _, rfl, (f2_.ext hs.hext.kn)⟩⟩)
  ·
    refine go_block ?_
    refine go_loop (α := (List TEvent) × Nat × (List TOp) × Option Addr × List Blk × Heap) (fun a => a.1 = List.drop a.2.1 p0 ∧ HExt h a.2.2.2.2.2 ∧ Wf a.2.2.2.2.2 ∧ F_law13_ops_L1 a.1 a.2.1 a.2.2.1 = some s1 ∧ AccR R_TOp 45 a.2.2.2.2.2 a.2.2.2.2.1 (.slice a.2.2.2.1 a.2.2.1.length a.2.2.1.length) a.2.2.1) (fun a => a.1.length) (fun a => [(0, true, .slice a0_0 p0.length c0_0), (2, true, .slice none 0 0), (3, true, .slice a.2.2.2.1 a.2.2.1.length a.2.2.1.length), (4, true, .int .i64 (a.2.1 : Int))]) (fun a => (List.flatten [a.2.2.2.2.1] : List Blk)) (fun a => a.2.2.2.2.2) ?_ (p0, 0, ([] : List TOp), none, [], h) ⟨rfl, HExt.refl _, hw, hF, (AccR.nil _ _ _)⟩ (Sub.cons (Sub.cons (Sub.cons (Sub.cons (Sub.nil _) rfl) rfl) rfl) rfl) rfl rfl
    rintro ⟨r3, i3, y3_0, a3_0, a3_1, h3⟩ ⟨hr3, e3, w3, hF, f3_0⟩ ih3
    rcases r3 with _ | ⟨z3, r3⟩
    ·
      have hi3 := drop_nil hr3
      rw [F_law13_ops_L1.eq_1] at hF
      refine go_seq ?_
      refine go_seq ?_
      refine go_region ?_
      refine gM rfl rfl ?_
      refine gM rfl rfl ?_
      refine gr rfl (r_len rfl (os1 (ot rfl) os0) (fun _ _ => ln_50)) ?_
      refine gr rfl (r_bin (ot rfl) (ot rfl) rfl) ?_
      refine go_cast (.bool false) (congrArg Value.bool (decide_eq_false hi3)) ?_
      refine go_nil ?_
      refine g_cond (b := false) (ot rfl) (fun hc4 => ?_) (fun hc4 => ?_)
      · cases hc4
      refine go_exit rfl ?_
      obtain rfl := someI hF
      exact Goes.weak (J1 (a3_0, a3_1) _ e3 w3 f3_0) (Sub.cons (Sub.cons (Sub.nil _) rfl) rfl)
    ·
      obtain ⟨hi3, hx3, hr3⟩ := drop_cons hr3
      have hb3 := (f0_0.ext e3.kn).1
      rw [F_law13_ops_L1.eq_2] at hF
      refine go_seq ?_
      refine go_seq ?_
      refine go_region ?_
      refine gM rfl rfl ?_
      refine gM rfl rfl ?_
      refine gr rfl (r_len rfl (os1 (ot rfl) os0) (fun _ _ => ln_50)) ?_
      refine gr rfl (r_bin (ot rfl) (ot rfl) rfl) ?_
      refine go_cast (.bool true) (congrArg Value.bool (decide_eq_true (Int.ofNat_lt.mpr hi3))) ?_
      refine go_nil ?_
      refine g_cond (b := true) (ot rfl) (fun hc5 => ?_) (fun hc5 => ?_)
      rotate_left
      · cases hc5
      refine go_skip ?_
      refine go_seq ?_
      refine go_block ?_
      refine go_regA1 (L := [(0, []), (1, []), (2, []), (3, []), (4, []), (5, []), (6, []), (7, []), (8, []), (9, []), (10, []), (11, []), (12, []), (13, []), (14, []), (15, []), (16, []), (17, []), (18, []), (19, [])]) (by kernel_rfl) (by kernel_rfl) (fun _ => rfl) ?_; intro b28_6
      refine go_sop rfl rfl ?_
      refine gM rfl rfl ?_
      refine go_nil ?_
      refine go_sop rfl rfl ?_
      refine gM rfl rfl ?_
      refine go_nil ?_
      refine go_sop rfl rfl ?_
      refine gM rfl rfl ?_
      refine go_nil ?_
      refine go_sop rfl rfl ?_
      obtain ⟨q7, row7, i7, cl7, rc7, sp7⟩ := ix (ik := .i64) (cap := c0_0) (E := EE) (f0_0.ext e3.kn) ((getI_nat _ _).trans hx3) ut_50 sz_108 rfl
      obtain rfl := rc7
      refine gr rfl (r_ia (ot rfl) (ot rfl) i7) ?_
      refine go_nil ?_
      refine go_sop rfl rfl ?_
      refine gr rfl (r_fa (ot rfl) (fs_108_1 sp7)) ?_
      refine go_nil ?_
      refine go_sop rfl rfl ?_
      refine gr rfl (r_load (ot rfl) (v := .string z3.Key) (lo_e (fun hf kn => ld_field (r := [.int .i64 z3.Rev, .string z3.Key, .string z3.Val, .bool z3.Del]) ag_9 (kn.cellsAt cl7) rfl))) ?_
      refine go_nil ?_
      refine go_sop rfl rfl ?_
      refine gM rfl rfl ?_
      refine go_nil ?_
      refine go_sop rfl rfl ?_
      refine gM rfl rfl ?_
      refine go_nil ?_
      refine go_sop rfl rfl ?_
      obtain ⟨q8, row8, i8, cl8, rc8, sp8⟩ := ix (ik := .i64) (cap := c0_0) (E := EE) (f0_0.ext e3.kn) ((getI_nat _ _).trans hx3) ut_50 sz_108 rfl
      obtain rfl := rc8
      refine gr rfl (r_ia (ot rfl) (ot rfl) i8) ?_
      refine go_nil ?_
      refine go_sop rfl rfl ?_
      refine gr rfl (r_fa (ot rfl) (fs_108_2 sp8)) ?_
      refine go_nil ?_
      refine go_sop rfl rfl ?_
      refine gr rfl (r_load (ot rfl) (v := .string z3.Val) (lo_e (fun hf kn => ld_field (r := [.int .i64 z3.Rev, .string z3.Key, .string z3.Val, .bool z3.Del]) ag_9 (kn.cellsAt cl8) rfl))) ?_
      refine go_nil ?_
      refine go_sop rfl rfl ?_
      refine gM rfl rfl ?_
      refine go_nil ?_
      refine go_sop rfl rfl ?_
      refine gM rfl rfl ?_
      refine go_nil ?_
      refine go_sop rfl rfl ?_
      obtain ⟨q9, row9, i9, cl9, rc9, sp9⟩ := ix (ik := .i64) (cap := c0_0) (E := EE) (f0_0.ext e3.kn) ((getI_nat _ _).trans hx3) ut_50 sz_108 rfl
      obtain rfl := rc9
      refine gr rfl (r_ia (ot rfl) (ot rfl) i9) ?_
      refine go_nil ?_
      refine go_sop rfl rfl ?_
      refine gr rfl (r_fa (ot rfl) (fs_108_3 sp9)) ?_
      refine go_nil ?_
      refine go_sop rfl rfl ?_
      refine gr rfl (r_load (ot rfl) (v := .bool z3.Del) (lo_e (fun hf kn => ld_field (r := [.int .i64 z3.Rev, .string z3.Key, .string z3.Val, .bool z3.Del]) ag_4 (kn.cellsAt cl9) rfl))) ?_
      refine go_nil ?_
      refine go_sop rfl rfl ?_
      refine gr rfl (r_build (op1 (ot rfl) (op1 (ot rfl) (op1 (ot rfl) op0))) rfl) ?_
      refine go_nil ?_
      refine go_sbslice (cs := [.string z3.Key, .string z3.Val, .bool z3.Del]) rfl rfl rfl (op1 (ot rfl) op0) ut_39 sz_45 zo_45 rfl rfl .z ?_
      refine go_sop rfl rfl ?_
      replace hF := obind hF
      obtain ⟨x10, hx10, hF⟩ := hF
      obtain ⟨hr10, hz10_⟩ := appL_some hx10; subst x10
      refine gs_front (.s (.z)) ?_
      refine gs_app (rows2 := [[.string z3.Key, .string z3.Val, .bool z3.Del]]) (R := R_TOp) rfl (os1 (ot rfl) (os1 (ot rfl) os0)) rfl ut_39 sz_45 rfl (by decide) by_45 zo_45 rfl zs_39_39 rfl rfl (first_m (mem_seg 1 rfl) rfl (by decide)) (Rws.one (x := (⟨z3.Key, z3.Val, z3.Del⟩ : TOp)) rfl) f3_0 hr10 (fun p10_ tl10 f10_ => ?_)
      refine go_nil ?_
      refine go_sop rfl rfl ?_
      refine gA rfl rfl ?_
      refine go_nil ?_
      refine go_snil ?_
      refine go_endb ?_
      refine go_region ?_
      refine gM rfl rfl ?_
      refine gr rfl (r_bin (ot rfl) (oc rfl) rfl) ?_
      refine gA rfl rfl ?_
      refine go_nil ?_
      refine gs_sub (.cons_cons _ (.cons _ (.refl _))) ?_
      refine go_re 4 (v2 := .int .i64 ((i3 + 1 : Nat) : Int)) rfl (wrap_succ hi3 hb3) ?_
      exact Goes.weak (ih3 (r3, i3 + 1, (y3_0 ++ ([(⟨z3.Key, z3.Val, z3.Del⟩ : TOp)] : List TOp)), p10_, tl10, h3) ⟨hr3, e3, w3, hF, f10_⟩ (Nat.lt_succ_self _)) (Sub.cons (Sub.cons (Sub.cons (Sub.cons (Sub.nil _) rfl) rfl) rfl) rfl)
theorem s_law13_FrontModel (n : Nat) {h : Heap} (hw : Wf h) (p0 : (List TReq)) {a0_0 : Option Addr} {c0_0 : Nat} (f0_0 : RL R_TReq h a0_0 c0_0 p0) {r : Bool} (hF : F_law13_FrontModel n p0 = some r) :
    Ev EE 13 [.slice a0_0 p0.length c0_0] h (fun v _ => v = .bool r) := by
  unfold F_law13_FrontModel at hF
  refine ev_of hw rfl at_13 rfl rfl (go_seg0 ?_)
  refine go_seq ?_
  refine go_region ?_
  refine gAc rfl rfl ?_
  refine go_nil ?_
  refine go_seq ?_
  refine go_region ?_
  refine g_callp EE_fr rfl of os0 hb_40 (fun _ => rfl) (fun hf kn w => by exact known_evp rfl hf w) ?_
  refine gA rfl rfl ?_
  refine go_nil ?_
  refine go_seq ?_
  refine go_seq ?_
  refine go_region ?_
  refine gM rfl rfl ?_
  refine gr rfl (r_len rfl (os1 (ot rfl) os0) (fun _ _ => ln_66)) ?_
  refine gr rfl (r_bin (ot rfl) (oc rfl) rfl) ?_
  refine go_nil ?_
  refine g_cond (b := (decide ((p0.length : Int) > 40))) (ot rfl) (fun hc2 => ?_) (fun hc2 => ?_)
  ·
    replace hF := ifT hc2 hF
    refine go_seq ?_
    refine go_region ?_
    refine gM rfl rfl ?_
    refine gA rfl rfl ?_
    refine go_nil ?_
    obtain rfl := someI hF
    exact g_ret (rst rfl rs0) (fun h1 hf hs => ⟨hs.hext, rfl⟩)
  ·
    replace hF := ifF hc2 hF
    refine go_skip ?_
    refine go_seq ?_
    refine go_region ?_
    replace hF := obind hF
    obtain ⟨x3, hx3, hF⟩ := hF
    refine gs_call EE_fr hw .nil (fun _ h => by cases h; rfl) of os0 hb_32 (by exact s_model_New hw   hx3) ?_
    rintro v3 S3 h3 e3 w3 ⟨b3_w0, b3_w0o0, b3_w0o0m2, rw3_w0o0_2, q3_w0o0_3, t3_w0o0_3, rfl, rfl, f3_0, f3_1⟩
    simp only [List.cons_append, List.nil_append]
    refine gA rfl rfl ?_
    refine go_nil ?_
    refine go_seq ?_
    refine go_region ?_
    replace hF := obind hF
    obtain ⟨x4, hx4, hF⟩ := hF
    refine gs_call EE_fr w3 .nil (fun _ h => by cases h; rfl) of os0 hb_29 (by exact s_hist_New w3   hx4) ?_
    rintro v4 S4 h4 e4 w4 ⟨b4_w0, b4_w0m2, rw4_w0_2, q4_w0_3, t4_w0_3, rfl, rfl, f4_0, f4_1⟩
    simp only [List.cons_append, List.nil_append]
    refine gA rfl rfl ?_
    refine go_nil ?_
    refine go_seq ?_
    refine go_region ?_
    refine gr rfl (r_build op0 rfl) ?_
    refine gs_alloc rfl zo_71 rfl ?_; intro b6_5
    refine gs_store (ot rfl) (ot rfl) sz_71 rfl rfl rfl rfl rfl .z ?_
    refine go_nil ?_
    refine go_seq ?_
    refine go_seq ?_
    refine go_region ?_
    refine gAc rfl rfl ?_
    refine go_nil ?_
    replace hF := obind hF
    obtain ⟨s6, hF, hK6⟩ := hF
    refine go_joinc (β := (Int × Int × Int × Int × Int × (List (List TEvent)) × (List (ByteArray × (List TEvent))) × Int × Int × Int × (List (List TEvent)) × (List (ByteArray × (List TEvent)))) × Option Addr × List Blk × List (ByteArray × Value) × Option Addr × List Blk × List (ByteArray × Value)) (fun s h' => s6 = .go s.1 ∧ AccR (Rep.sl R_TEvent 50) 50 h' s.2.2.1 (.slice s.2.1 s.1.2.2.2.2.2.1.length s.1.2.2.2.2.2.1.length) s.1.2.2.2.2.2.1 ∧ MR R_TEvent h' s.2.2.2.1 s.1.2.2.2.2.2.2.1 ∧ AccR (Rep.sl R_TEvent 50) 50 h' s.2.2.2.2.2.1 (.slice s.2.2.2.2.1 s.1.2.2.2.2.2.2.2.2.2.2.1.length s.1.2.2.2.2.2.2.2.2.2.2.1.length) s.1.2.2.2.2.2.2.2.2.2.2.1 ∧ MR R_TEvent h' s.2.2.2.2.2.2 s.1.2.2.2.2.2.2.2.2.2.2.2) (fun s => [(2, true, .bool false), (3, true, .bool true)]) (fun s => (List.flatten [[⟨b6_5, .cells [.int .i64 s.1.1, .int .i64 s.1.2.1, .int .i64 s.1.2.2.1] 71⟩], [⟨b4_w0, .cells [.int .i64 s.1.2.2.2.1, .int .i64 s.1.2.2.2.2.1, .map (some b4_w0m2), .slice s.2.1 s.1.2.2.2.2.2.1.length s.1.2.2.2.2.2.1.length] 100⟩], [⟨b4_w0m2, .map (encM kS id s.2.2.2.1)⟩], s.2.2.1, [⟨b3_w0, .cells [.pointer (some ⟨b3_w0o0, 0, none⟩), .int .i64 s.1.2.2.2.2.2.2.2.1] 130⟩], [⟨b3_w0o0, .cells [.int .i64 s.1.2.2.2.2.2.2.2.2.1, .int .i64 s.1.2.2.2.2.2.2.2.2.2.1, .map (some b3_w0o0m2), .slice s.2.2.2.2.1 s.1.2.2.2.2.2.2.2.2.2.2.1.length s.1.2.2.2.2.2.2.2.2.2.2.1.length] 100⟩], [⟨b3_w0o0m2, .map (encM kS id s.2.2.2.2.2.2)⟩], s.2.2.2.2.2.1] : List Blk)) ?_ (fun J6 => ?_)
    ·
      rintro ⟨⟨x6_0, x6_1, x6_2, x6_3, x6_4, x6_5, x6_6, x6_7, x6_8, x6_9, x6_10, x6_11⟩, a6_0, a6_1, a6_2, a6_3, a6_4, a6_5⟩ h6 e6 w6 ⟨hs6, f6_5, f6_6, f6_10, f6_11⟩
      subst hs6
      replace hF := lpgo hK6
      refine go_seq ?_
      refine go_region ?_
      refine gM rfl rfl ?_
      refine gA rfl rfl ?_
      refine go_nil ?_
      obtain rfl := someI hF
      exact g_ret (rst rfl rs0) (fun h1 hf hs => ⟨(e3.trans (e4.trans (e6.trans hs.hext))), rfl⟩)
    ·
      refine go_block ?_
      refine go_loop (α := (List TReq) × Nat × Int × Int × Int × Int × Int × (List (List TEvent)) × (List (ByteArray × (List TEvent))) × Int × Int × Int × (List (List TEvent)) × (List (ByteArray × (List TEvent))) × Option Addr × List Blk × List (ByteArray × Value) × Option Addr × List Blk × List (ByteArray × Value) × Heap) (fun a => a.1 = List.drop a.2.1 p0 ∧ HExt h4 a.2.2.2.2.2.2.2.2.2.2.2.2.2.2.2.2.2.2.2.2 ∧ Wf a.2.2.2.2.2.2.2.2.2.2.2.2.2.2.2.2.2.2.2.2 ∧ F_law13_FrontModel_L1 n a.1 a.2.1 a.2.2.1 a.2.2.2.1 a.2.2.2.2.1 a.2.2.2.2.2.1 a.2.2.2.2.2.2.1 a.2.2.2.2.2.2.2.1 a.2.2.2.2.2.2.2.2.1 a.2.2.2.2.2.2.2.2.2.1 a.2.2.2.2.2.2.2.2.2.2.1 a.2.2.2.2.2.2.2.2.2.2.2.1 a.2.2.2.2.2.2.2.2.2.2.2.2.1 a.2.2.2.2.2.2.2.2.2.2.2.2.2.1 = some s6 ∧ AccR (Rep.sl R_TEvent 50) 50 a.2.2.2.2.2.2.2.2.2.2.2.2.2.2.2.2.2.2.2.2 a.2.2.2.2.2.2.2.2.2.2.2.2.2.2.2.1 (.slice a.2.2.2.2.2.2.2.2.2.2.2.2.2.2.1 a.2.2.2.2.2.2.2.1.length a.2.2.2.2.2.2.2.1.length) a.2.2.2.2.2.2.2.1 ∧ MR R_TEvent a.2.2.2.2.2.2.2.2.2.2.2.2.2.2.2.2.2.2.2.2 a.2.2.2.2.2.2.2.2.2.2.2.2.2.2.2.2.1 a.2.2.2.2.2.2.2.2.1 ∧ AccR (Rep.sl R_TEvent 50) 50 a.2.2.2.2.2.2.2.2.2.2.2.2.2.2.2.2.2.2.2.2 a.2.2.2.2.2.2.2.2.2.2.2.2.2.2.2.2.2.2.1 (.slice a.2.2.2.2.2.2.2.2.2.2.2.2.2.2.2.2.2.1 a.2.2.2.2.2.2.2.2.2.2.2.2.1.length a.2.2.2.2.2.2.2.2.2.2.2.2.1.length) a.2.2.2.2.2.2.2.2.2.2.2.2.1 ∧ MR R_TEvent a.2.2.2.2.2.2.2.2.2.2.2.2.2.2.2.2.2.2.2.2 a.2.2.2.2.2.2.2.2.2.2.2.2.2.2.2.2.2.2.2.1 a.2.2.2.2.2.2.2.2.2.2.2.2.2.1) (fun a => a.1.length) (fun a => [(0, true, .slice a0_0 p0.length c0_0), (2, true, .bool false), (3, true, .bool true), (4, true, .pointer (some ⟨b3_w0, 0, none⟩)), (5, true, .pointer (some ⟨b4_w0, 0, none⟩)), (6, true, .pointer (some ⟨b6_5, 0, none⟩)), (7, true, .int .i64 (a.2.1 : Int))]) (fun a => (List.flatten [[⟨b6_5, .cells [.int .i64 a.2.2.1, .int .i64 a.2.2.2.1, .int .i64 a.2.2.2.2.1] 71⟩], [⟨b4_w0, .cells [.int .i64 a.2.2.2.2.2.1, .int .i64 a.2.2.2.2.2.2.1, .map (some b4_w0m2), .slice a.2.2.2.2.2.2.2.2.2.2.2.2.2.2.1 a.2.2.2.2.2.2.2.1.length a.2.2.2.2.2.2.2.1.length] 100⟩], [⟨b4_w0m2, .map (encM kS id a.2.2.2.2.2.2.2.2.2.2.2.2.2.2.2.2.1)⟩], a.2.2.2.2.2.2.2.2.2.2.2.2.2.2.2.1, [⟨b3_w0, .cells [.pointer (some ⟨b3_w0o0, 0, none⟩), .int .i64 a.2.2.2.2.2.2.2.2.2.1] 130⟩], [⟨b3_w0o0, .cells [.int .i64 a.2.2.2.2.2.2.2.2.2.2.1, .int .i64 a.2.2.2.2.2.2.2.2.2.2.2.1, .map (some b3_w0o0m2), .slice a.2.2.2.2.2.2.2.2.2.2.2.2.2.2.2.2.2.1 a.2.2.2.2.2.2.2.2.2.2.2.2.1.length a.2.2.2.2.2.2.2.2.2.2.2.2.1.length] 100⟩], [⟨b3_w0o0m2, .map (encM kS id a.2.2.2.2.2.2.2.2.2.2.2.2.2.2.2.2.2.2.2.1)⟩], a.2.2.2.2.2.2.2.2.2.2.2.2.2.2.2.2.2.2.1] : List Blk)) (fun a => a.2.2.2.2.2.2.2.2.2.2.2.2.2.2.2.2.2.2.2.2) ?_ (p0, 0, 0, 0, 0, x4.bounds_rev, x4.bounds_hor, x4.rows, x4.keys, x3.1.seq, x3.2.bounds_rev, x3.2.bounds_hor, x3.2.rows, x3.2.keys, q4_w0_3, t4_w0_3, rw4_w0_2, q3_w0o0_3, t3_w0o0_3, rw3_w0o0_2, h4) ⟨rfl, HExt.refl _, w4, hF, f4_1, f4_0, (f3_1.ext e4.kn), (f3_0.ext e4.kn)⟩ (Sub.cons (Sub.cons (Sub.cons (Sub.cons (Sub.cons (Sub.cons (Sub.cons (Sub.nil _) rfl) rfl) rfl) rfl) rfl) rfl) rfl) rfl rfl
      rintro ⟨r7, i7, y7_0, y7_1, y7_2, y7_3, y7_4, y7_5, y7_6, y7_7, y7_8, y7_9, y7_10, y7_11, a7_0, a7_1, a7_2, a7_3, a7_4, a7_5, h7⟩ ⟨hr7, e7, w7, hF, f7_5, f7_6, f7_10, f7_11⟩ ih7
      rcases r7 with _ | ⟨z7, r7⟩
      ·
        have hi7 := drop_nil hr7
        rw [F_law13_FrontModel_L1.eq_1] at hF
        refine go_seq ?_
        refine go_seq ?_
        refine go_region ?_
        refine gM rfl rfl ?_
        refine gM rfl rfl ?_
        refine gr rfl (r_len rfl (os1 (ot rfl) os0) (fun _ _ => ln_66)) ?_
        refine gr rfl (r_bin (ot rfl) (ot rfl) rfl) ?_
        refine go_cast (.bool false) (congrArg Value.bool (decide_eq_false hi7)) ?_
        refine go_nil ?_
        refine g_cond (b := false) (ot rfl) (fun hc8 => ?_) (fun hc8 => ?_)
        · cases hc8
        refine go_exit rfl ?_
        obtain rfl := someI hF
        exact Goes.weak (J6 ((y7_0, y7_1, y7_2, y7_3, y7_4, y7_5, y7_6, y7_7, y7_8, y7_9, y7_10, y7_11), a7_0, a7_1, a7_2, a7_3, a7_4, a7_5) _ e7 w7 ⟨rfl, f7_5, f7_6, f7_10, f7_11⟩) (Sub.cons (Sub.cons (Sub.nil _) rfl) rfl)
      ·
        obtain ⟨hi7, hx7, hr7⟩ := drop_cons hr7
        have hb7 := (((f0_0.ext e3.kn).ext e4.kn).ext e7.kn).1
        rw [F_law13_FrontModel_L1.eq_2] at hF
        refine go_seq ?_
        refine go_seq ?_
        refine go_region ?_
        refine gM rfl rfl ?_
        refine gM rfl rfl ?_
        refine gr rfl (r_len rfl (os1 (ot rfl) os0) (fun _ _ => ln_66)) ?_
        refine gr rfl (r_bin (ot rfl) (ot rfl) rfl) ?_
        refine go_cast (.bool true) (congrArg Value.bool (decide_eq_true (Int.ofNat_lt.mpr hi7))) ?_
        refine go_nil ?_
        refine g_cond (b := true) (ot rfl) (fun hc9 => ?_) (fun hc9 => ?_)
        rotate_left
        · cases hc9
        refine go_skip ?_
        refine go_seq ?_
        replace hF := obind hF
        obtain ⟨s10, hF, hK10⟩ := hF
        refine go_joinc (β := (Int × ByteArray × ByteArray × Int × (List TCmp) × (List TOp) × (List TOp) × Int × ByteArray × ByteArray × Int × (List TCmp) × (List TOp) × (List TOp) × Bool × Bool × Bool × Bool × Int × Int × Int × Int × Int × (List (List TEvent)) × (List (ByteArray × (List TEvent))) × Int × Int × Int × (List (List TEvent)) × (List (ByteArray × (List TEvent)))) × Option Addr × Nat × Option Addr × Nat × Option Addr × Nat × Option Addr × Nat × Option Addr × Nat × Option Addr × Nat × Option Addr × List Blk × List (ByteArray × Value) × Option Addr × List Blk × List (ByteArray × Value)) (fun s h' => s10 = .go s.1 ∧ RL R_TCmp h' s.2.1 s.2.2.1 s.1.2.2.2.2.1 ∧ RL R_TOp h' s.2.2.2.1 s.2.2.2.2.1 s.1.2.2.2.2.2.1 ∧ RL R_TOp h' s.2.2.2.2.2.1 s.2.2.2.2.2.2.1 s.1.2.2.2.2.2.2.1 ∧ RL R_TCmp h' s.2.2.2.2.2.2.2.1 s.2.2.2.2.2.2.2.2.1 s.1.2.2.2.2.2.2.2.2.2.2.2.1 ∧ RL R_TOp h' s.2.2.2.2.2.2.2.2.2.1 s.2.2.2.2.2.2.2.2.2.2.1 s.1.2.2.2.2.2.2.2.2.2.2.2.2.1 ∧ RL R_TOp h' s.2.2.2.2.2.2.2.2.2.2.2.1 s.2.2.2.2.2.2.2.2.2.2.2.2.1 s.1.2.2.2.2.2.2.2.2.2.2.2.2.2.1 ∧ AccR (Rep.sl R_TEvent 50) 50 h' s.2.2.2.2.2.2.2.2.2.2.2.2.2.2.1 (.slice s.2.2.2.2.2.2.2.2.2.2.2.2.2.1 s.1.2.2.2.2.2.2.2.2.2.2.2.2.2.2.2.2.2.2.2.2.2.2.2.1.length s.1.2.2.2.2.2.2.2.2.2.2.2.2.2.2.2.2.2.2.2.2.2.2.2.1.length) s.1.2.2.2.2.2.2.2.2.2.2.2.2.2.2.2.2.2.2.2.2.2.2.2.1 ∧ MR R_TEvent h' s.2.2.2.2.2.2.2.2.2.2.2.2.2.2.2.1 s.1.2.2.2.2.2.2.2.2.2.2.2.2.2.2.2.2.2.2.2.2.2.2.2.2.1 ∧ AccR (Rep.sl R_TEvent 50) 50 h' s.2.2.2.2.2.2.2.2.2.2.2.2.2.2.2.2.2.1 (.slice s.2.2.2.2.2.2.2.2.2.2.2.2.2.2.2.2.1 s.1.2.2.2.2.2.2.2.2.2.2.2.2.2.2.2.2.2.2.2.2.2.2.2.2.2.2.2.2.1.length s.1.2.2.2.2.2.2.2.2.2.2.2.2.2.2.2.2.2.2.2.2.2.2.2.2.2.2.2.2.1.length) s.1.2.2.2.2.2.2.2.2.2.2.2.2.2.2.2.2.2.2.2.2.2.2.2.2.2.2.2.2.1 ∧ MR R_TEvent h' s.2.2.2.2.2.2.2.2.2.2.2.2.2.2.2.2.2.2 s.1.2.2.2.2.2.2.2.2.2.2.2.2.2.2.2.2.2.2.2.2.2.2.2.2.2.2.2.2.2) (fun s => [(0, true, .slice a0_0 p0.length c0_0), (2, true, .bool false), (3, true, .bool true), (4, true, .pointer (some ⟨b3_w0, 0, none⟩)), (5, true, .pointer (some ⟨b4_w0, 0, none⟩)), (6, true, .pointer (some ⟨b6_5, 0, none⟩)), (7, true, .int .i64 (i7 : Int)), (25, true, .int .i64 (i7 : Int)), (26, true, .slice a0_0 p0.length c0_0), (27, true, .int .i64 (p0.length : Int)), (28, true, .bool true), (31, true, .slice a0_0 p0.length c0_0), (32, true, .int .i64 (i7 : Int)), (34, true, .agg #[.int .i64 s.1.1, .string s.1.2.1, .string s.1.2.2.1, .int .i64 s.1.2.2.2.1, .slice s.2.1 s.1.2.2.2.2.1.length s.2.2.1, .slice s.2.2.2.1 s.1.2.2.2.2.2.1.length s.2.2.2.2.1, .slice s.2.2.2.2.2.1 s.1.2.2.2.2.2.2.1.length s.2.2.2.2.2.2.1]), (35, true, .agg #[.int .i64 s.1.2.2.2.2.2.2.2.1, .string s.1.2.2.2.2.2.2.2.2.1, .string s.1.2.2.2.2.2.2.2.2.2.1, .int .i64 s.1.2.2.2.2.2.2.2.2.2.2.1, .slice s.2.2.2.2.2.2.2.1 s.1.2.2.2.2.2.2.2.2.2.2.2.1.length s.2.2.2.2.2.2.2.2.1, .slice s.2.2.2.2.2.2.2.2.2.1 s.1.2.2.2.2.2.2.2.2.2.2.2.2.1.length s.2.2.2.2.2.2.2.2.2.2.1, .slice s.2.2.2.2.2.2.2.2.2.2.2.1 s.1.2.2.2.2.2.2.2.2.2.2.2.2.2.1.length s.2.2.2.2.2.2.2.2.2.2.2.2.1]), (36, true, .bool s.1.2.2.2.2.2.2.2.2.2.2.2.2.2.2.1), (37, true, .bool s.1.2.2.2.2.2.2.2.2.2.2.2.2.2.2.2.1), (38, true, .bool s.1.2.2.2.2.2.2.2.2.2.2.2.2.2.2.2.2.1), (42, true, .bool s.1.2.2.2.2.2.2.2.2.2.2.2.2.2.2.2.2.2.1)]) (fun s => (List.flatten [[⟨b6_5, .cells [.int .i64 s.1.2.2.2.2.2.2.2.2.2.2.2.2.2.2.2.2.2.2.1, .int .i64 s.1.2.2.2.2.2.2.2.2.2.2.2.2.2.2.2.2.2.2.2.1, .int .i64 s.1.2.2.2.2.2.2.2.2.2.2.2.2.2.2.2.2.2.2.2.2.1] 71⟩], [⟨b4_w0, .cells [.int .i64 s.1.2.2.2.2.2.2.2.2.2.2.2.2.2.2.2.2.2.2.2.2.2.1, .int .i64 s.1.2.2.2.2.2.2.2.2.2.2.2.2.2.2.2.2.2.2.2.2.2.2.1, .map (some b4_w0m2), .slice s.2.2.2.2.2.2.2.2.2.2.2.2.2.1 s.1.2.2.2.2.2.2.2.2.2.2.2.2.2.2.2.2.2.2.2.2.2.2.2.1.length s.1.2.2.2.2.2.2.2.2.2.2.2.2.2.2.2.2.2.2.2.2.2.2.2.1.length] 100⟩], [⟨b4_w0m2, .map (encM kS id s.2.2.2.2.2.2.2.2.2.2.2.2.2.2.2.1)⟩], s.2.2.2.2.2.2.2.2.2.2.2.2.2.2.1, [⟨b3_w0, .cells [.pointer (some ⟨b3_w0o0, 0, none⟩), .int .i64 s.1.2.2.2.2.2.2.2.2.2.2.2.2.2.2.2.2.2.2.2.2.2.2.2.2.2.1] 130⟩], [⟨b3_w0o0, .cells [.int .i64 s.1.2.2.2.2.2.2.2.2.2.2.2.2.2.2.2.2.2.2.2.2.2.2.2.2.2.2.1, .int .i64 s.1.2.2.2.2.2.2.2.2.2.2.2.2.2.2.2.2.2.2.2.2.2.2.2.2.2.2.2.1, .map (some b3_w0o0m2), .slice s.2.2.2.2.2.2.2.2.2.2.2.2.2.2.2.2.1 s.1.2.2.2.2.2.2.2.2.2.2.2.2.2.2.2.2.2.2.2.2.2.2.2.2.2.2.2.2.1.length s.1.2.2.2.2.2.2.2.2.2.2.2.2.2.2.2.2.2.2.2.2.2.2.2.2.2.2.2.2.1.length] 100⟩], [⟨b3_w0o0m2, .map (encM kS id s.2.2.2.2.2.2.2.2.2.2.2.2.2.2.2.2.2.2)⟩], s.2.2.2.2.2.2.2.2.2.2.2.2.2.2.2.2.2.1] : List Blk)) ?_ (fun J10 => ?_)
        ·
          rintro ⟨⟨x10_0, x10_1, x10_2, x10_3, x10_4, x10_5, x10_6, x10_7, x10_8, x10_9, x10_10, x10_11, x10_12, x10_13, x10_14, x10_15, x10_16, x10_17, x10_18, x10_19, x10_20, x10_21, x10_22, x10_23, x10_24, x10_25, x10_26, x10_27, x10_28, x10_29⟩, a10_0, a10_1, a10_2, a10_3, a10_4, a10_5, a10_6, a10_7, a10_8, a10_9, a10_10, a10_11, a10_12, a10_13, a10_14, a10_15, a10_16, a10_17⟩ h10 e10 w10 ⟨hs10, f10_4, f10_5, f10_6, f10_11, f10_12, f10_13, f10_23, f10_24, f10_28, f10_29⟩
          subst hs10
          replace hF := lpgo2 hK10
          refine go_region ?_
          refine gM rfl rfl ?_
          refine gr rfl (r_bin (ot rfl) (oc rfl) rfl) ?_
          refine gA rfl rfl ?_
          refine go_nil ?_
          refine go_re 7 (v2 := .int .i64 ((i7 + 1 : Nat) : Int)) rfl (wrap_succ hi7 hb7) ?_
          exact Goes.weak (ih7 (r7, i7 + 1, x10_18, x10_19, x10_20, x10_21, x10_22, x10_23, x10_24, x10_25, x10_26, x10_27, x10_28, x10_29, a10_12, a10_13, a10_14, a10_15, a10_16, a10_17, h10) ⟨hr7, (e7.trans e10), w10, hF, f10_23, f10_24, f10_28, f10_29⟩ (Nat.lt_succ_self _)) (Sub.cons (Sub.cons (Sub.cons (Sub.cons (Sub.cons (Sub.cons (Sub.cons (Sub.nil _) rfl) rfl) rfl) rfl) rfl) rfl) rfl)
        ·
          refine go_block ?_
          refine go_seq ?_
          refine go_region ?_
          refine gM rfl rfl ?_
          refine gM rfl rfl ?_
          obtain ⟨q11, row11, i11, cl11, rc11, sp11⟩ := ix (ik := .i64) (cap := c0_0) (E := EE) (((f0_0.ext e3.kn).ext e4.kn).ext e7.kn) ((getI_nat _ _).trans hx7) ut_66 sz_61 rfl
          obtain ⟨a11_0, c11_0, a11_1, c11_1, a11_2, c11_2, rfl, f11_0, f11_1, f11_2⟩ := rc11
          refine gr rfl (r_ia (ot rfl) (ot rfl) i11) ?_
          refine gr rfl (r_load (ot rfl) (v := .agg #[.int .i64 z7.Kind, .string z7.R.From, .string z7.R.To, .int .i64 z7.Rev, .slice a11_0 z7.Cmps.length c11_0, .slice a11_1 z7.Then.length c11_1, .slice a11_2 z7.Else.length c11_2]) (lo_e (fun hf kn => ld_of (r := [.int .i64 z7.Kind, .string z7.R.From, .string z7.R.To, .int .i64 z7.Rev, .slice a11_0 z7.Cmps.length c11_0, .slice a11_1 z7.Then.length c11_1, .slice a11_2 z7.Else.length c11_2]) ag_61 sz_61 (kn.cellsAt cl11)))) ?_
          refine gs_alloc rfl zo_61 rfl ?_; intro b8_12
          refine gs_store (ot rfl) (ot rfl) sz_61 rfl rfl rfl rfl rfl .z ?_
          refine go_nil ?_
          refine go_seq ?_
          refine go_seq ?_
          refine go_region ?_
          refine gr rfl (r_load (ot rfl) (lm_w (mem_seg 0 rfl) ag_61 sz_61 rfl)) ?_
          replace hF := obind hF
          obtain ⟨x13, hx13, hF⟩ := hF
          refine g_callp (v := .bool x13) EE_fr rfl of (os1 (ot rfl) os0) hb_41 (fun _ => rfl) (fun hf kn w => by exact s_law13_few w z7 (f11_0.ext kn) (f11_1.ext kn) (f11_2.ext kn) hx13) ?_
          refine gr rfl (r_un (ot rfl) rfl) ?_
          refine gM rfl rfl ?_
          replace hF := obind hF
          obtain ⟨s15, hF, hK15⟩ := hF
          refine go_joinr 4 (β := Unit) (fun s h' => True) (fun s => [(0, true, .slice a0_0 p0.length c0_0), (2, true, .bool false), (3, true, .bool true), (4, true, .pointer (some ⟨b3_w0, 0, none⟩)), (5, true, .pointer (some ⟨b4_w0, 0, none⟩)), (6, true, .pointer (some ⟨b6_5, 0, none⟩)), (7, true, .int .i64 (i7 : Int)), (8, true, .pointer (some ⟨b8_12, 0, none⟩)), (25, true, .int .i64 (i7 : Int)), (26, true, .slice a0_0 p0.length c0_0), (27, true, .int .i64 (p0.length : Int)), (28, true, .bool true), (31, true, .slice a0_0 p0.length c0_0), (32, true, .int .i64 (i7 : Int)), (33, true, .pointer (some q11)), (34, true, .agg #[.int .i64 z7.Kind, .string z7.R.From, .string z7.R.To, .int .i64 z7.Rev, .slice a11_0 z7.Cmps.length c11_0, .slice a11_1 z7.Then.length c11_1, .slice a11_2 z7.Else.length c11_2]), (35, true, .agg #[.int .i64 z7.Kind, .string z7.R.From, .string z7.R.To, .int .i64 z7.Rev, .slice a11_0 z7.Cmps.length c11_0, .slice a11_1 z7.Then.length c11_1, .slice a11_2 z7.Else.length c11_2]), (36, true, .bool x13), (37, true, .bool (!x13)), (38, true, .bool s15.1), (42, true, .bool s15.2)]) (fun s => (List.flatten [[⟨b8_12, .cells [.int .i64 z7.Kind, .string z7.R.From, .string z7.R.To, .int .i64 z7.Rev, .slice a11_0 z7.Cmps.length c11_0, .slice a11_1 z7.Then.length c11_1, .slice a11_2 z7.Else.length c11_2] 61⟩], [⟨b6_5, .cells [.int .i64 y7_0, .int .i64 y7_1, .int .i64 y7_2] 71⟩], [⟨b4_w0, .cells [.int .i64 y7_3, .int .i64 y7_4, .map (some b4_w0m2), .slice a7_0 y7_5.length y7_5.length] 100⟩], [⟨b4_w0m2, .map (encM kS id a7_2)⟩], a7_1, [⟨b3_w0, .cells [.pointer (some ⟨b3_w0o0, 0, none⟩), .int .i64 y7_7] 130⟩], [⟨b3_w0o0, .cells [.int .i64 y7_8, .int .i64 y7_9, .map (some b3_w0o0m2), .slice a7_3 y7_10.length y7_10.length] 100⟩], [⟨b3_w0o0m2, .map (encM kS id a7_5)⟩], a7_4] : List Blk)) ?_ (fun J15 => ?_)
          ·
            rintro _ h15 e15 w15 _
            replace hF := hK15
            refine go_nil ?_
            refine g_cond (b := s15.2) (ot rfl) (fun hc16 => ?_) (fun hc16 => ?_)
            ·
              replace hF := ifT hc16 hF
              refine go_exit rfl ?_
              obtain rfl := someI hF
              refine gs_sub (.cons _ (.cons_cons _ (.cons_cons _ (.cons_cons _ (.cons_cons _ (.cons_cons _ (.cons_cons _ (.cons_cons _ (.cons_cons _ (.refl _)))))))))) ?_
              exact Goes.weak (J10 ((z7.Kind, z7.R.From, z7.R.To, z7.Rev, z7.Cmps, z7.Then, z7.Else, z7.Kind, z7.R.From, z7.R.To, z7.Rev, z7.Cmps, z7.Then, z7.Else, x13, (!x13), s15.1, s15.2, y7_0, y7_1, y7_2, y7_3, y7_4, y7_5, y7_6, y7_7, y7_8, y7_9, y7_10, y7_11), a11_0, c11_0, a11_1, c11_1, a11_2, c11_2, a11_0, c11_0, a11_1, c11_1, a11_2, c11_2, a7_0, a7_1, a7_2, a7_3, a7_4, a7_5) _ e15 w15 ⟨rfl, (f11_0.ext e15.kn), (f11_1.ext e15.kn), (f11_2.ext e15.kn), (f11_0.ext e15.kn), (f11_1.ext e15.kn), (f11_2.ext e15.kn), (f7_5.ext e15.kn), (f7_6.ext e15.kn), (f7_10.ext e15.kn), (f7_11.ext e15.kn)⟩) (Sub.cons (Sub.cons (Sub.cons (Sub.cons (Sub.cons (Sub.cons (Sub.cons (Sub.cons (Sub.cons (Sub.cons (Sub.cons (Sub.cons (Sub.cons (Sub.cons (Sub.cons (Sub.cons (Sub.cons (Sub.cons (Sub.cons (Sub.nil _) rfl) rfl) rfl) rfl) rfl) rfl) rfl) rfl) rfl) rfl) rfl) rfl) rfl) rfl) rfl) rfl) rfl) rfl) rfl)
            ·
              replace hF := ifF hc16 hF
              refine go_skip ?_
              refine go_seq ?_
              refine go_region ?_
              refine gM rfl rfl ?_
              refine gr rfl (r_load (ot rfl) (lm_w (mem_seg 0 rfl) ag_61 sz_61 rfl)) ?_
              replace hF := obind hF
              obtain ⟨x17, hx17, hF⟩ := hF
              refine gs_call EE_fr w15 (.cons (.s (.s (.s (.s (.s (.z)))))) (.cons (.s (.s (.s (.s (.s (.z)))))) (.cons (.s (.s (.s (.s (.s (.z)))))) (.cons (.s (.s (.s (.s (.s (.z)))))) .nil)))) (fun _ h => by cases h; rfl) of (os1 (ot rfl) (os1 (ot rfl) os0)) hb_34 (by exact s_model_Model_Serve n w15 (⟨y7_7⟩ : Omodel_Model) (⟨y7_8, y7_9, y7_11, y7_10⟩ : Ohist_Hist) z7 (f7_11.ext e15.kn) (f7_10.ext e15.kn) (f11_0.ext e15.kn) (f11_1.ext e15.kn) (f11_2.ext e15.kn) hx17) ?_
              rintro v17 S17 h17 e17 w17 ⟨rw17_y0o0_2, q17_y0o0_3, t17_y0o0_3, a17_0, c17_0, rfl, rfl, f17_0, f17_1, f17_2⟩
              simp only [List.cons_append, List.nil_append]
              refine gs_alloc rfl zo_73 rfl ?_; intro b9_18
              refine gs_store (ot rfl) (ot rfl) sz_73 rfl rfl rfl rfl rfl .z ?_
              refine go_nil ?_
              refine go_seq ?_
              refine go_seq ?_
              refine go_region ?_
              refine gr rfl (r_fa (ot rfl) (fa_61_0 _ _)) ?_
              refine gr rfl (r_load (ot rfl) (lm_s (mem_seg 5 rfl) ag_3 rfl)) ?_
              refine gr rfl (r_bin (ot rfl) (oc rfl) rfl) ?_
              refine go_nil ?_
              refine g_cond (b := (z7.Kind == 2)) (ot rfl) (fun hc19 => ?_) (fun hc19 => ?_)
              ·
                replace hF := ifT hc19 hF
                refine go_seq ?_
                refine go_region ?_
                refine gr rfl (r_load (ot rfl) (lm_w (mem_seg 5 rfl) ag_61 sz_61 rfl)) ?_
                refine gr rfl (r_load (ot rfl) (lm_w (mem_seg 6 rfl) ag_71 sz_71 rfl)) ?_
                replace hF := obind hF
                obtain ⟨x20, hx20, hF⟩ := hF
                refine g_callp (v := .tuple #[.int .i64 x20.1, .int .i64 x20.2]) EE_fr rfl of (os1 (ot rfl) (os1 (ot rfl) os0)) hb_42 (fun _ => rfl) (fun hf kn w => by exact s_front_At w z7 (⟨y7_0, y7_1, y7_2⟩ : THead) (((f11_0.ext e15.kn).ext e17.kn).ext kn) (((f11_1.ext e15.kn).ext e17.kn).ext kn) (((f11_2.ext e15.kn).ext e17.kn).ext kn) hx20) ?_
                refine gM rfl rfl ?_
                refine gE rfl rfl rfl ?_
                refine gE rfl rfl rfl ?_
                refine gA rfl rfl ?_
                refine gA rfl rfl ?_
                refine go_nil ?_
                refine go_seq ?_
                refine go_region ?_
                refine gM rfl rfl ?_
                refine gM rfl rfl ?_
                refine gr rfl (r_fa (ot rfl) (fa_61_1 _ _)) ?_
                refine gr rfl (r_load (ot rfl) (lm_a (vs := [_, _]) (mem_seg 5 rfl) ag_33 sz_33 rfl rfl)) ?_
                replace hF := obind hF
                obtain ⟨x21, hx21, hF⟩ := hF
                refine gs_call EE_fr w17 (.cons (.s (.s (.s (.s (.s (.s (.s (.z)))))))) (.cons (.s (.s (.s (.s (.s (.s (.s (.z)))))))) (.cons (.s (.s (.s (.s (.s (.s (.s (.z)))))))) .nil))) (fun _ h => by cases h; rfl) of (os1 (ot rfl) (os1 (ot rfl) (os1 (ot rfl) os0))) hb_18 (by exact s_hist_Hist_At n w17 (⟨y7_3, y7_4, y7_6, y7_5⟩ : Ohist_Hist) x20.1 z7.R ((f7_6.ext e15.kn).ext e17.kn) ((f7_5.ext e15.kn).ext e17.kn) hx21) ?_
                rintro v21 S21 h21 e21 w21 ⟨rw21_y0_2, q21_y0_3, t21_y0_3, a21_0, c21_0, rfl, rfl, f21_0, f21_1, f21_2⟩
                simp only [List.cons_append, List.nil_append]
                refine gM rfl rfl ?_
                refine gE rfl rfl rfl ?_
                refine gE rfl rfl rfl ?_
                refine gA rfl rfl ?_
                refine gA rfl rfl ?_
                refine go_nil ?_
                refine go_seq ?_
                refine go_seq ?_
                refine go_region ?_
                refine gM rfl rfl ?_
                refine gr rfl (r_bin (ot rfl) (oc rfl) rfl) ?_
                refine go_nil ?_
                replace hF := obind hF
                obtain ⟨s23, hF, hK23⟩ := hF
                refine go_joinc (β := Option Addr × Nat) (fun s h' => RL R_TKV h' s.1 s.2 s23) (fun s => [(0, true, .slice a0_0 p0.length c0_0), (2, true, .bool false), (3, true, .bool true), (4, true, .pointer (some ⟨b3_w0, 0, none⟩)), (5, true, .pointer (some ⟨b4_w0, 0, none⟩)), (6, true, .pointer (some ⟨b6_5, 0, none⟩)), (7, true, .int .i64 (i7 : Int)), (8, true, .pointer (some ⟨b8_12, 0, none⟩)), (9, true, .pointer (some ⟨b9_18, 0, none⟩)), (10, true, .int .i64 x20.1), (11, true, .int .i64 x20.2), (12, true, .slice s.1 s23.length s.2), (25, true, .int .i64 (i7 : Int)), (26, true, .slice a0_0 p0.length c0_0), (27, true, .int .i64 (p0.length : Int)), (28, true, .bool true), (31, true, .slice a0_0 p0.length c0_0), (32, true, .int .i64 (i7 : Int)), (33, true, .pointer (some q11)), (34, true, .agg #[.int .i64 z7.Kind, .string z7.R.From, .string z7.R.To, .int .i64 z7.Rev, .slice a11_0 z7.Cmps.length c11_0, .slice a11_1 z7.Then.length c11_1, .slice a11_2 z7.Else.length c11_2]), (35, true, .agg #[.int .i64 z7.Kind, .string z7.R.From, .string z7.R.To, .int .i64 z7.Rev, .slice a11_0 z7.Cmps.length c11_0, .slice a11_1 z7.Then.length c11_1, .slice a11_2 z7.Else.length c11_2]), (36, true, .bool x13), (37, true, .bool (!x13)), (38, true, .bool s15.1), (42, true, .bool s15.2), (43, true, .pointer (some ⟨b3_w0, 0, none⟩)), (44, true, .agg #[.int .i64 z7.Kind, .string z7.R.From, .string z7.R.To, .int .i64 z7.Rev, .slice a11_0 z7.Cmps.length c11_0, .slice a11_1 z7.Then.length c11_1, .slice a11_2 z7.Else.length c11_2]), (45, true, .agg #[.int .i64 x17.1.H.Seq, .int .i64 x17.1.H.Rev, .int .i64 x17.1.H.Hor, .int .i64 x17.1.Err, .bool x17.1.Ok, .slice a17_0 x17.1.L.length c17_0]), (46, true, .pointer (some ⟨b8_12, 0, none⟩)), (47, true, .int .i64 z7.Kind), (48, true, .bool (z7.Kind == 2)), (49, true, .tuple #[.int .i64 x20.1, .int .i64 x20.2]), (50, true, .agg #[.int .i64 z7.Kind, .string z7.R.From, .string z7.R.To, .int .i64 z7.Rev, .slice a11_0 z7.Cmps.length c11_0, .slice a11_1 z7.Then.length c11_1, .slice a11_2 z7.Else.length c11_2]), (51, true, .agg #[.int .i64 y7_0, .int .i64 y7_1, .int .i64 y7_2]), (52, true, .tuple #[.int .i64 x20.1, .int .i64 x20.2]), (53, true, .int .i64 x20.1), (54, true, .int .i64 x20.2), (55, true, .tuple #[.slice a21_0 x21.1.length c21_0, .int .i64 x21.2.1]), (56, true, .pointer (some ⟨b4_w0, 0, none⟩)), (57, true, .int .i64 x20.1), (58, true, .pointer (some ⟨b8_12, 1, none⟩)), (59, true, .agg #[.string z7.R.From, .string z7.R.To]), (60, true, .tuple #[.slice a21_0 x21.1.length c21_0, .int .i64 x21.2.1]), (61, true, .slice a21_0 x21.1.length c21_0), (62, true, .int .i64 x21.2.1), (63, true, .int .i64 x20.2), (64, true, .bool (x20.2 != 0))]) (fun s => (List.flatten [[⟨b4_w0, .cells [.int .i64 x21.2.2.bounds_rev, .int .i64 x21.2.2.bounds_hor, .map (some b4_w0m2), .slice q21_y0_3 x21.2.2.rows.length x21.2.2.rows.length] 100⟩], [⟨b4_w0m2, .map (encM kS id rw21_y0_2)⟩], t21_y0_3, [⟨b9_18, .cells [.int .i64 x17.1.H.Seq, .int .i64 x17.1.H.Rev, .int .i64 x17.1.H.Hor, .int .i64 x17.1.Err, .bool x17.1.Ok, .slice a17_0 x17.1.L.length c17_0] 73⟩], [⟨b3_w0, .cells [.pointer (some ⟨b3_w0o0, 0, none⟩), .int .i64 x17.2.1.seq] 130⟩], [⟨b3_w0o0, .cells [.int .i64 x17.2.2.bounds_rev, .int .i64 x17.2.2.bounds_hor, .map (some b3_w0o0m2), .slice q17_y0o0_3 x17.2.2.rows.length x17.2.2.rows.length] 100⟩], [⟨b3_w0o0m2, .map (encM kS id rw17_y0o0_2)⟩], t17_y0o0_3, [⟨b8_12, .cells [.int .i64 z7.Kind, .string z7.R.From, .string z7.R.To, .int .i64 z7.Rev, .slice a11_0 z7.Cmps.length c11_0, .slice a11_1 z7.Then.length c11_1, .slice a11_2 z7.Else.length c11_2] 61⟩], [⟨b6_5, .cells [.int .i64 y7_0, .int .i64 y7_1, .int .i64 y7_2] 71⟩]] : List Blk)) ?_ (fun J23 => ?_)
                ·
                  rintro ⟨a23_0, a23_1⟩ h23 e23 w23 f23_0
                  replace hF := hK23
                  refine go_seq ?_
                  refine go_seq ?_
                  refine go_regions (L := [(0, []), (1, []), (2, []), (4, []), (3, [4]), (5, []), (6, [])]) (by kernel_rfl) (by kernel_rfl) (fun _ => rfl) ?_
                  refine go_sop rfl rfl ?_
                  refine gr rfl (r_load (ot rfl) (lm_w (mem_seg 8 rfl) ag_61 sz_61 rfl)) ?_
                  refine go_nil ?_
                  refine go_sop rfl rfl ?_
                  refine gM rfl rfl ?_
                  refine go_nil ?_
                  refine go_sop rfl rfl ?_
                  refine gr rfl (r_load (ot rfl) (lm_w (mem_seg 9 rfl) ag_71 sz_71 rfl)) ?_
                  refine go_nil ?_
                  refine go_sop rfl rfl ?_
                  refine gr rfl (r_load (ot rfl) (lm_w (mem_seg 3 rfl) ag_73 sz_73 rfl)) ?_
                  refine go_nil ?_
                  refine go_sopc [(4, .agg #[.int .i64 x17.1.H.Seq, .int .i64 x17.1.H.Rev, .int .i64 x17.1.H.Hor, .int .i64 x17.1.Err, .bool x17.1.Ok, .slice a17_0 x17.1.L.length c17_0])] rfl rfl rfl (rc1 rfl (r_load (ot rfl) (lm_w (mem_seg 3 rfl) ag_73 sz_73 rfl)) rc0) (vq1 (veq_agg _ _ (va1 (veq_int _ _ _) (va1 (veq_int _ _ _) (va1 (veq_int _ _ _) (va1 (veq_int _ _ _) (va1 (veq_bool _ _) (va1 (veq_sl _ _ _ _) (va0 _)))))))) vq0) rfl ?_
                  replace hF := obind hF
                  obtain ⟨x24, hx24, hF⟩ := hF
                  refine g_call EE_fr (fun _ h => by cases h; rfl) of (os1 (ot rfl) (os1 (ot rfl) (os1 (ot rfl) os0))) hb_44 (fun hf kn w => by exact s_front_Read w z7 s23 (⟨y7_0, y7_1, y7_2⟩ : THead) (((((f11_0.ext e15.kn).ext e17.kn).ext e21.kn).ext e23.kn).ext kn) (((((f11_1.ext e15.kn).ext e17.kn).ext e21.kn).ext e23.kn).ext kn) (((((f11_2.ext e15.kn).ext e17.kn).ext e21.kn).ext e23.kn).ext kn) (f23_0.ext kn) hx24) ?_
                  rintro v24 h24 e24 w24 ⟨a24_0, c24_0, rfl, f24_0⟩
                  refine go_nil ?_
                  refine go_rck (rc1 rfl (r_load (ot rfl) (lm_w (mem_seg 3 rfl) ag_73 sz_73 rfl)) rc0) ?_
                  refine go_sop rfl rfl ?_
                  replace hF := obind hF
                  obtain ⟨x25, hx25, hF⟩ := hF
                  refine g_callp (v := .bool x25) EE_fr rfl of (os1 (ot rfl) (os1 (ot rfl) os0)) hb_43 (fun _ => rfl) (fun hf kn w => by exact s_ref08_Same w x24 x17.1 (f24_0.ext kn) ((((f17_2.ext e21.kn).ext e23.kn).ext e24.kn).ext kn) hx25) ?_
                  refine go_nil ?_
                  refine go_sop rfl rfl ?_
                  refine gr rfl (r_un (ot rfl) rfl) ?_
                  refine go_nil ?_
                  refine go_snil ?_
                  refine g_cond (b := (!x25)) (ot rfl) (fun hc26 => ?_) (fun hc26 => ?_)
                  ·
                    replace hF := ifT hc26 hF
                    refine go_seq ?_
                    refine go_region ?_
                    refine gAc rfl rfl ?_
                    refine go_nil ?_
                    obtain rfl := someI hF
                    obtain rfl := someI hK10
                    obtain rfl := someI hK6
                    exact g_ret (rst rfl rs0) (fun h1 hf hs => ⟨(e3.trans (e4.trans (e7.trans (e15.trans (e17.trans (e21.trans (e23.trans (e24.trans hs.hext)))))))), rfl⟩)
                  ·
                    replace hF := ifF hc26 hF
                    refine go_skip ?_
                    refine go_exit rfl ?_
                    obtain rfl := someI hF
                    refine gs_sub (.cons_cons _ (.cons_cons _ (.cons_cons _ (.cons _ (.cons_cons _ (.cons_cons _ (.cons_cons _ (.cons_cons _ (.cons _ (.cons_cons _ (.refl _))))))))))) ?_
                    refine gs_perm (perm_of (d := []) _ [7, 0, 1, 2, 3, 4, 5, 6] rfl) ?_
                    exact Goes.weak (J10 ((z7.Kind, z7.R.From, z7.R.To, z7.Rev, z7.Cmps, z7.Then, z7.Else, z7.Kind, z7.R.From, z7.R.To, z7.Rev, z7.Cmps, z7.Then, z7.Else, x13, (!x13), s15.1, s15.2, y7_0, y7_1, y7_2, x21.2.2.bounds_rev, x21.2.2.bounds_hor, x21.2.2.rows, x21.2.2.keys, x17.2.1.seq, x17.2.2.bounds_rev, x17.2.2.bounds_hor, x17.2.2.rows, x17.2.2.keys), a11_0, c11_0, a11_1, c11_1, a11_2, c11_2, a11_0, c11_0, a11_1, c11_1, a11_2, c11_2, q21_y0_3, t21_y0_3, rw21_y0_2, q17_y0o0_3, t17_y0o0_3, rw17_y0o0_2) _ (e15.trans (e17.trans (e21.trans (e23.trans e24)))) w24 ⟨rfl, (((((f11_0.ext e15.kn).ext e17.kn).ext e21.kn).ext e23.kn).ext e24.kn), (((((f11_1.ext e15.kn).ext e17.kn).ext e21.kn).ext e23.kn).ext e24.kn), (((((f11_2.ext e15.kn).ext e17.kn).ext e21.kn).ext e23.kn).ext e24.kn), (((((f11_0.ext e15.kn).ext e17.kn).ext e21.kn).ext e23.kn).ext e24.kn), (((((f11_1.ext e15.kn).ext e17.kn).ext e21.kn).ext e23.kn).ext e24.kn), (((((f11_2.ext e15.kn).ext e17.kn).ext e21.kn).ext e23.kn).ext e24.kn), ((f21_1.ext e23.kn).ext e24.kn), ((f21_0.ext e23.kn).ext e24.kn), (((f17_1.ext e21.kn).ext e23.kn).ext e24.kn), (((f17_0.ext e21.kn).ext e23.kn).ext e24.kn)⟩) (Sub.cons (Sub.cons (Sub.cons (Sub.cons (Sub.cons (Sub.cons (Sub.cons (Sub.cons (Sub.cons (Sub.cons (Sub.cons (Sub.cons (Sub.cons (Sub.cons (Sub.cons (Sub.cons (Sub.cons (Sub.cons (Sub.cons (Sub.nil _) rfl) rfl) rfl) rfl) rfl) rfl) rfl) rfl) rfl) rfl) rfl) rfl) rfl) rfl) rfl) rfl) rfl) rfl) rfl)
                ·
                  refine g_cond (b := (x20.2 != 0)) (ot rfl) (fun hc22 => ?_) (fun hc22 => ?_)
                  ·
                    replace hF := ifT hc22 hF
                    refine go_region ?_
                    refine gAc rfl rfl ?_
                    refine go_nil ?_
                    obtain rfl := someI hF
                    exact Goes.weak (J23 (none, 0) _ (HExt.refl _) w21 (RL.nil _ _ _)) (Sub.cons (Sub.cons (Sub.cons (Sub.cons (Sub.cons (Sub.cons (Sub.cons (Sub.cons (Sub.cons (Sub.cons (Sub.cons (Sub.cons (Sub.cons (Sub.cons (Sub.cons (Sub.cons (Sub.cons (Sub.cons (Sub.cons (Sub.cons (Sub.cons (Sub.cons (Sub.cons (Sub.cons (Sub.cons (Sub.cons (Sub.cons (Sub.cons (Sub.cons (Sub.cons (Sub.cons (Sub.cons (Sub.cons (Sub.cons (Sub.cons (Sub.cons (Sub.cons (Sub.cons (Sub.cons (Sub.cons (Sub.cons (Sub.cons (Sub.cons (Sub.cons (Sub.cons (Sub.cons (Sub.cons (Sub.nil _) rfl) rfl) rfl) rfl) rfl) rfl) rfl) rfl) rfl) rfl) rfl) rfl) rfl) rfl) rfl) rfl) rfl) rfl) rfl) rfl) rfl) rfl) rfl) rfl) rfl) rfl) rfl) rfl) rfl) rfl) rfl) rfl) rfl) rfl) rfl) rfl) rfl) rfl) rfl) rfl) rfl) rfl) rfl) rfl) rfl) rfl) rfl)
                  ·
                    replace hF := ifF hc22 hF
                    refine go_skip ?_
                    obtain rfl := someI hF
                    exact Goes.weak (J23 (a21_0, c21_0) _ (HExt.refl _) w21 f21_2) (Sub.cons (Sub.cons (Sub.cons (Sub.cons (Sub.cons (Sub.cons (Sub.cons (Sub.cons (Sub.cons (Sub.cons (Sub.cons (Sub.cons (Sub.cons (Sub.cons (Sub.cons (Sub.cons (Sub.cons (Sub.cons (Sub.cons (Sub.cons (Sub.cons (Sub.cons (Sub.cons (Sub.cons (Sub.cons (Sub.cons (Sub.cons (Sub.cons (Sub.cons (Sub.cons (Sub.cons (Sub.cons (Sub.cons (Sub.cons (Sub.cons (Sub.cons (Sub.cons (Sub.cons (Sub.cons (Sub.cons (Sub.cons (Sub.cons (Sub.cons (Sub.cons (Sub.cons (Sub.cons (Sub.cons (Sub.nil _) rfl) rfl) rfl) rfl) rfl) rfl) rfl) rfl) rfl) rfl) rfl) rfl) rfl) rfl) rfl) rfl) rfl) rfl) rfl) rfl) rfl) rfl) rfl) rfl) rfl) rfl) rfl) rfl) rfl) rfl) rfl) rfl) rfl) rfl) rfl) rfl) rfl) rfl) rfl) rfl) rfl) rfl) rfl) rfl) rfl) rfl) rfl)
              ·
                replace hF := ifF hc19 hF
                refine go_skip ?_
                refine go_seq ?_
                refine go_region ?_
                refine gM rfl rfl ?_
                refine gM rfl rfl ?_
                replace hF := obind hF
                obtain ⟨x27, hx27, hF⟩ := hF
                refine gs_call EE_fr w17 (.cons (.s (.s (.s (.s (.s (.s (.s (.z)))))))) (.cons (.s (.s (.s (.s (.s (.s (.s (.z)))))))) (.cons (.s (.s (.s (.s (.s (.s (.s (.z)))))))) .nil))) (fun _ h => by cases h; rfl) of (os1 (ot rfl) os0) hb_17 (by exact s_hist_Hist_Rev w17 (⟨y7_3, y7_4, y7_6, y7_5⟩ : Ohist_Hist) ((f7_6.ext e15.kn).ext e17.kn) ((f7_5.ext e15.kn).ext e17.kn) hx27) ?_
                rintro v27 S27 h27 e27 w27 ⟨rw27_y0_2, q27_y0_3, t27_y0_3, rfl, rfl, f27_0, f27_1⟩
                simp only [List.cons_append, List.nil_append]
                refine gr rfl (r_build op0 rfl) ?_
                replace hF := obind hF
                obtain ⟨x28, hx28, hF⟩ := hF
                refine gs_call EE_fr w27 (.cons .z (.cons .z (.cons .z .nil))) (fun _ h => by cases h; rfl) of (os1 (ot rfl) (os1 (ot rfl) (os1 (ot rfl) os0))) hb_18 (by exact s_hist_Hist_At n w27 (⟨x27.2.bounds_rev, x27.2.bounds_hor, x27.2.keys, x27.2.rows⟩ : Ohist_Hist) x27.1 (⟨ByteArray.empty, ByteArray.empty⟩ : TRange) f27_0 f27_1 hx28) ?_
                rintro v28 S28 h28 e28 w28 ⟨rw28_y0_2, q28_y0_3, t28_y0_3, a28_0, c28_0, rfl, rfl, f28_0, f28_1, f28_2⟩
                simp only [List.cons_append, List.nil_append]
                refine gM rfl rfl ?_
                refine gE rfl rfl rfl ?_
                refine gE rfl rfl rfl ?_
                refine gA rfl rfl ?_
                refine gA rfl rfl ?_
                refine go_nil ?_
                refine go_seq ?_
                refine go_region ?_
                refine gr rfl (r_load (ot rfl) (lm_w (mem_seg 8 rfl) ag_61 sz_61 rfl)) ?_
                refine gM rfl rfl ?_
                refine gr rfl (r_load (ot rfl) (lm_w (mem_seg 9 rfl) ag_71 sz_71 rfl)) ?_
                replace hF := obind hF
                obtain ⟨x29, hx29, hF⟩ := hF
                refine g_call EE_fr (fun _ h => by cases h; rfl) of (os1 (ot rfl) (os1 (ot rfl) (os1 (ot rfl) os0))) hb_45 (fun hf kn w => by exact s_front_Decide n w z7 x28.1 (⟨y7_0, y7_1, y7_2⟩ : THead) (((((f11_0.ext e15.kn).ext e17.kn).ext e27.kn).ext e28.kn).ext kn) (((((f11_1.ext e15.kn).ext e17.kn).ext e27.kn).ext e28.kn).ext kn) (((((f11_2.ext e15.kn).ext e17.kn).ext e27.kn).ext e28.kn).ext kn) (f28_2.ext kn) hx29) ?_
                rintro v29 h29 e29 w29 ⟨a29_0, c29_0, rfl, f29_0⟩
                refine gs_alloc rfl zo_90 rfl ?_; intro b16_30
                refine gs_store (ot rfl) (ot rfl) sz_90 rfl rfl rfl rfl rfl .z ?_
                refine go_nil ?_
                refine go_seq ?_
                refine go_region ?_
                refine gr rfl (r_load (ot rfl) (lm_w (mem_seg 10 rfl) ag_71 sz_71 rfl)) ?_
                refine gr rfl (r_load (ot rfl) (lm_w (mem_seg 0 rfl) ag_90 sz_90 rfl)) ?_
                replace hF := obind hF
                obtain ⟨x31, hx31, hF⟩ := hF
                refine g_callp (v := .agg #[.int .i64 x31.Seq, .int .i64 x31.Rev, .int .i64 x31.Hor]) EE_fr rfl of (os1 (ot rfl) (os1 (ot rfl) os0)) hb_46 (fun _ => rfl) (fun hf kn w => by exact s_front_Step w (⟨y7_0, y7_1, y7_2⟩ : THead) x29 (f29_0.ext kn) hx31) ?_
                refine gs_store (ot rfl) (ot rfl) sz_71 rfl rfl rfl rfl rfl (.s (.s (.s (.s (.s (.s (.s (.s (.s (.s (.z))))))))))) ?_
                refine go_nil ?_
                refine go_seq ?_
                refine go_region ?_
                refine gM rfl rfl ?_
                refine gr rfl (r_fa (ot rfl) (fa_90_1 _ _)) ?_
                refine gr rfl (r_load (ot rfl) (lm_s (mem_seg 0 rfl) ag_50 rfl)) ?_
                replace hF := obind hF
                obtain ⟨x32, hx32, hF⟩ := hF
                refine g_call EE_fr (fun _ h => by cases h; rfl) of (os1 (ot rfl) os0) hb_47 (fun hf kn w => by exact s_law13_ops w x29.Rows (f29_0.ext kn) hx32) ?_
                rintro v32 h32 e32 w32 ⟨a32_0, c32_0, rfl, f32_0⟩
                replace hF := obind hF
                obtain ⟨x33, hx33, hF⟩ := hF
                refine gs_call EE_fr w32 (.cons (.s (.z)) (.cons (.s (.z)) (.cons (.s (.z)) .nil))) (fun _ h => by cases h; rfl) of (os1 (ot rfl) (os1 (ot rfl) os0)) hb_23 (by exact s_hist_Hist_Apply w32 (⟨x28.2.2.bounds_rev, x28.2.2.bounds_hor, x28.2.2.keys, x28.2.2.rows⟩ : Ohist_Hist) x32 ((f28_0.ext e29.kn).ext e32.kn) ((f28_1.ext e29.kn).ext e32.kn) f32_0 hx33) ?_
                rintro v33 S33 h33 e33 w33 ⟨rw33_y0_2, q33_y0_3, t33_y0_3, a33_0, c33_0, rfl, rfl, f33_0, f33_1, f33_2⟩
                simp only [List.cons_append, List.nil_append]
                refine go_nil ?_
                refine go_seq ?_
                refine go_seq ?_
                refine go_region ?_
                refine gr rfl (r_fa (ot rfl) (fa_90_2 _ _)) ?_
                refine gr rfl (r_load (ot rfl) (lm_s (mem_seg 3 rfl) ag_29 rfl)) ?_
                refine gr rfl (r_bin (ot rfl) (oc rfl) rfl) ?_
                refine gM rfl rfl ?_
                refine grt rfl rfl rfl rfl (r_fa (ot rfl) (fa_61_0 _ _)) ?_
                refine grt rfl rfl rfl rfl (r_load (og rfl id) (lm_s (mem_seg 9 rfl) ag_3 rfl)) ?_
                refine grt rfl rfl rfl rfl (r_bin (og rfl id) (oc rfl) rfl) ?_
                refine gr rfl (r_pickb (ot rfl) (og rfl id) (oc rfl)) ?_
                refine go_nil ?_
                replace hF := obind hF
                obtain ⟨s35, hF, hK35⟩ := hF
                refine go_joinc (β := Option Addr × List Blk × List (ByteArray × Value)) (fun s h' => AccR (Rep.sl R_TEvent 50) 50 h' s.2.1 (.slice s.1 s35.2.2.1.length s35.2.2.1.length) s35.2.2.1 ∧ MR R_TEvent h' s.2.2 s35.2.2.2) (fun s => [(0, true, .slice a0_0 p0.length c0_0), (2, true, .bool false), (3, true, .bool true), (4, true, .pointer (some ⟨b3_w0, 0, none⟩)), (5, true, .pointer (some ⟨b4_w0, 0, none⟩)), (6, true, .pointer (some ⟨b6_5, 0, none⟩)), (7, true, .int .i64 (i7 : Int)), (8, true, .pointer (some ⟨b8_12, 0, none⟩)), (9, true, .pointer (some ⟨b9_18, 0, none⟩)), (14, true, .slice a28_0 x28.1.length c28_0), (16, true, .pointer (some ⟨b16_30, 0, none⟩)), (25, true, .int .i64 (i7 : Int)), (26, true, .slice a0_0 p0.length c0_0), (27, true, .int .i64 (p0.length : Int)), (28, true, .bool true), (31, true, .slice a0_0 p0.length c0_0), (32, true, .int .i64 (i7 : Int)), (33, true, .pointer (some q11)), (34, true, .agg #[.int .i64 z7.Kind, .string z7.R.From, .string z7.R.To, .int .i64 z7.Rev, .slice a11_0 z7.Cmps.length c11_0, .slice a11_1 z7.Then.length c11_1, .slice a11_2 z7.Else.length c11_2]), (35, true, .agg #[.int .i64 z7.Kind, .string z7.R.From, .string z7.R.To, .int .i64 z7.Rev, .slice a11_0 z7.Cmps.length c11_0, .slice a11_1 z7.Then.length c11_1, .slice a11_2 z7.Else.length c11_2]), (36, true, .bool x13), (37, true, .bool (!x13)), (38, true, .bool s15.1), (42, true, .bool s15.2), (43, true, .pointer (some ⟨b3_w0, 0, none⟩)), (44, true, .agg #[.int .i64 z7.Kind, .string z7.R.From, .string z7.R.To, .int .i64 z7.Rev, .slice a11_0 z7.Cmps.length c11_0, .slice a11_1 z7.Then.length c11_1, .slice a11_2 z7.Else.length c11_2]), (45, true, .agg #[.int .i64 x17.1.H.Seq, .int .i64 x17.1.H.Rev, .int .i64 x17.1.H.Hor, .int .i64 x17.1.Err, .bool x17.1.Ok, .slice a17_0 x17.1.L.length c17_0]), (46, true, .pointer (some ⟨b8_12, 0, none⟩)), (47, true, .int .i64 z7.Kind), (48, true, .bool (z7.Kind == 2)), (72, true, .tuple #[.slice a28_0 x28.1.length c28_0, .int .i64 x28.2.1]), (73, true, .pointer (some ⟨b4_w0, 0, none⟩)), (74, true, .pointer (some ⟨b4_w0, 0, none⟩)), (75, true, .int .i64 x27.1), (76, true, .agg #[.string ByteArray.empty, .string ByteArray.empty]), (77, true, .tuple #[.slice a28_0 x28.1.length c28_0, .int .i64 x28.2.1]), (78, true, .slice a28_0 x28.1.length c28_0), (79, true, .int .i64 x28.2.1), (80, true, .agg #[.int .i64 z7.Kind, .string z7.R.From, .string z7.R.To, .int .i64 z7.Rev, .slice a11_0 z7.Cmps.length c11_0, .slice a11_1 z7.Then.length c11_1, .slice a11_2 z7.Else.length c11_2]), (81, true, .slice a28_0 x28.1.length c28_0), (82, true, .agg #[.int .i64 y7_0, .int .i64 y7_1, .int .i64 y7_2]), (83, true, .agg #[.bool x29.Ok, .slice a29_0 x29.Rows.length c29_0, .int .i64 x29.Err, .int .i64 x29.Hor]), (84, true, .agg #[.int .i64 y7_0, .int .i64 y7_1, .int .i64 y7_2]), (85, true, .agg #[.bool x29.Ok, .slice a29_0 x29.Rows.length c29_0, .int .i64 x29.Err, .int .i64 x29.Hor]), (86, true, .agg #[.int .i64 x31.Seq, .int .i64 x31.Rev, .int .i64 x31.Hor]), (87, true, .pointer (some ⟨b4_w0, 0, none⟩)), (88, true, .pointer (some ⟨b16_30, 1, none⟩)), (89, true, .slice a29_0 x29.Rows.length c29_0), (90, true, .slice a32_0 x32.length c32_0), (92, true, .pointer (some ⟨b16_30, 2, none⟩)), (93, true, .int .i64 x29.Err), (94, true, .bool (x29.Err == 0)), (95, true, .bool (x29.Err == 0)), (99, true, .bool (bif (x29.Err == 0) then (z7.Kind == 3) else false))]) (fun s => (List.flatten [[⟨b4_w0, .cells [.int .i64 s35.1, .int .i64 s35.2.1, .map (some b4_w0m2), .slice s.1 s35.2.2.1.length s35.2.2.1.length] 100⟩], [⟨b4_w0m2, .map (encM kS id s.2.2)⟩], s.2.1, [⟨b16_30, .cells [.bool x29.Ok, .slice a29_0 x29.Rows.length c29_0, .int .i64 x29.Err, .int .i64 x29.Hor] 90⟩], [⟨b9_18, .cells [.int .i64 x17.1.H.Seq, .int .i64 x17.1.H.Rev, .int .i64 x17.1.H.Hor, .int .i64 x17.1.Err, .bool x17.1.Ok, .slice a17_0 x17.1.L.length c17_0] 73⟩], [⟨b3_w0, .cells [.pointer (some ⟨b3_w0o0, 0, none⟩), .int .i64 x17.2.1.seq] 130⟩], [⟨b3_w0o0, .cells [.int .i64 x17.2.2.bounds_rev, .int .i64 x17.2.2.bounds_hor, .map (some b3_w0o0m2), .slice q17_y0o0_3 x17.2.2.rows.length x17.2.2.rows.length] 100⟩], [⟨b3_w0o0m2, .map (encM kS id rw17_y0o0_2)⟩], t17_y0o0_3, [⟨b8_12, .cells [.int .i64 z7.Kind, .string z7.R.From, .string z7.R.To, .int .i64 z7.Rev, .slice a11_0 z7.Cmps.length c11_0, .slice a11_1 z7.Then.length c11_1, .slice a11_2 z7.Else.length c11_2] 61⟩], [⟨b6_5, .cells [.int .i64 x31.Seq, .int .i64 x31.Rev, .int .i64 x31.Hor] 71⟩]] : List Blk)) ?_ (fun J35 => ?_)
                ·
                  rintro ⟨a35_0, a35_1, a35_2⟩ h35 e35 w35 ⟨f35_2, f35_3⟩
                  replace hF := hK35
                  refine go_seq ?_
                  replace hF := obind hF
                  obtain ⟨s36, hF, hK36⟩ := hF
                  refine go_joinc (β := Option Addr × Nat × Option Addr × List Blk × List (ByteArray × Value)) (fun s h' => RL R_TKV h' s.1 s.2.1 s36.2.2.2.2.2.1 ∧ AccR (Rep.sl R_TEvent 50) 50 h' s.2.2.2.1 (.slice s.2.2.1 s36.2.2.2.2.2.2.2.2.2.2.2.2.2.1.length s36.2.2.2.2.2.2.2.2.2.2.2.2.2.1.length) s36.2.2.2.2.2.2.2.2.2.2.2.2.2.1 ∧ MR R_TEvent h' s.2.2.2.2 s36.2.2.2.2.2.2.2.2.2.2.2.2.2.2) (fun s => [(0, true, .slice a0_0 p0.length c0_0), (2, true, .bool false), (3, true, .bool true), (4, true, .pointer (some ⟨b3_w0, 0, none⟩)), (5, true, .pointer (some ⟨b4_w0, 0, none⟩)), (6, true, .pointer (some ⟨b6_5, 0, none⟩)), (7, true, .int .i64 (i7 : Int)), (8, true, .pointer (some ⟨b8_12, 0, none⟩)), (9, true, .pointer (some ⟨b9_18, 0, none⟩)), (14, true, .slice a28_0 x28.1.length c28_0), (16, true, .pointer (some ⟨b16_30, 0, none⟩)), (25, true, .int .i64 (i7 : Int)), (26, true, .slice a0_0 p0.length c0_0), (27, true, .int .i64 (p0.length : Int)), (28, true, .bool true), (31, true, .slice a0_0 p0.length c0_0), (32, true, .int .i64 (i7 : Int)), (33, true, .pointer (some q11)), (34, true, .agg #[.int .i64 z7.Kind, .string z7.R.From, .string z7.R.To, .int .i64 z7.Rev, .slice a11_0 z7.Cmps.length c11_0, .slice a11_1 z7.Then.length c11_1, .slice a11_2 z7.Else.length c11_2]), (35, true, .agg #[.int .i64 z7.Kind, .string z7.R.From, .string z7.R.To, .int .i64 z7.Rev, .slice a11_0 z7.Cmps.length c11_0, .slice a11_1 z7.Then.length c11_1, .slice a11_2 z7.Else.length c11_2]), (36, true, .bool x13), (37, true, .bool (!x13)), (38, true, .bool s15.1), (42, true, .bool s15.2), (43, true, .pointer (some ⟨b3_w0, 0, none⟩)), (44, true, .agg #[.int .i64 z7.Kind, .string z7.R.From, .string z7.R.To, .int .i64 z7.Rev, .slice a11_0 z7.Cmps.length c11_0, .slice a11_1 z7.Then.length c11_1, .slice a11_2 z7.Else.length c11_2]), (45, true, .agg #[.int .i64 x17.1.H.Seq, .int .i64 x17.1.H.Rev, .int .i64 x17.1.H.Hor, .int .i64 x17.1.Err, .bool x17.1.Ok, .slice a17_0 x17.1.L.length c17_0]), (46, true, .pointer (some ⟨b8_12, 0, none⟩)), (47, true, .int .i64 z7.Kind), (48, true, .bool (z7.Kind == 2)), (72, true, .tuple #[.slice a28_0 x28.1.length c28_0, .int .i64 x28.2.1]), (73, true, .pointer (some ⟨b4_w0, 0, none⟩)), (74, true, .pointer (some ⟨b4_w0, 0, none⟩)), (75, true, .int .i64 x27.1), (76, true, .agg #[.string ByteArray.empty, .string ByteArray.empty]), (77, true, .tuple #[.slice a28_0 x28.1.length c28_0, .int .i64 x28.2.1]), (78, true, .slice a28_0 x28.1.length c28_0), (79, true, .int .i64 x28.2.1), (80, true, .agg #[.int .i64 z7.Kind, .string z7.R.From, .string z7.R.To, .int .i64 z7.Rev, .slice a11_0 z7.Cmps.length c11_0, .slice a11_1 z7.Then.length c11_1, .slice a11_2 z7.Else.length c11_2]), (81, true, .slice a28_0 x28.1.length c28_0), (82, true, .agg #[.int .i64 y7_0, .int .i64 y7_1, .int .i64 y7_2]), (83, true, .agg #[.bool x29.Ok, .slice a29_0 x29.Rows.length c29_0, .int .i64 x29.Err, .int .i64 x29.Hor]), (84, true, .agg #[.int .i64 y7_0, .int .i64 y7_1, .int .i64 y7_2]), (85, true, .agg #[.bool x29.Ok, .slice a29_0 x29.Rows.length c29_0, .int .i64 x29.Err, .int .i64 x29.Hor]), (86, true, .agg #[.int .i64 x31.Seq, .int .i64 x31.Rev, .int .i64 x31.Hor]), (87, true, .pointer (some ⟨b4_w0, 0, none⟩)), (88, true, .pointer (some ⟨b16_30, 1, none⟩)), (89, true, .slice a29_0 x29.Rows.length c29_0), (90, true, .slice a32_0 x32.length c32_0), (92, true, .pointer (some ⟨b16_30, 2, none⟩)), (93, true, .int .i64 x29.Err), (94, true, .bool (x29.Err == 0)), (95, true, .bool (x29.Err == 0)), (99, true, .bool (bif (x29.Err == 0) then (z7.Kind == 3) else false)), (104, true, .agg #[.int .i64 x31.Seq, .int .i64 x31.Rev, .int .i64 x31.Hor]), (105, true, .agg #[.bool x29.Ok, .slice a29_0 x29.Rows.length c29_0, .int .i64 x29.Err, .int .i64 x29.Hor]), (106, true, .agg #[.int .i64 s36.1, .int .i64 s36.2.1, .int .i64 s36.2.2.1, .int .i64 s36.2.2.2.1, .bool s36.2.2.2.2.1, .slice s.1 s36.2.2.2.2.2.1.length s.2.1]), (107, true, .agg #[.int .i64 x17.1.H.Seq, .int .i64 x17.1.H.Rev, .int .i64 x17.1.H.Hor, .int .i64 x17.1.Err, .bool x17.1.Ok, .slice a17_0 x17.1.L.length c17_0]), (108, true, .bool s36.2.2.2.2.2.2.1), (109, true, .bool s36.2.2.2.2.2.2.2.1), (110, true, .bool s36.2.2.2.2.2.2.2.2.1), (115, true, .bool s36.2.2.2.2.2.2.2.2.2.1)]) (fun s => (List.flatten [[⟨b4_w0, .cells [.int .i64 s35.1, .int .i64 s35.2.1, .map (some b4_w0m2), .slice a35_0 s35.2.2.1.length s35.2.2.1.length] 100⟩], [⟨b4_w0m2, .map (encM kS id a35_2)⟩], a35_1, [⟨b16_30, .cells [.bool x29.Ok, .slice a29_0 x29.Rows.length c29_0, .int .i64 x29.Err, .int .i64 x29.Hor] 90⟩], [⟨b9_18, .cells [.int .i64 x17.1.H.Seq, .int .i64 x17.1.H.Rev, .int .i64 x17.1.H.Hor, .int .i64 x17.1.Err, .bool x17.1.Ok, .slice a17_0 x17.1.L.length c17_0] 73⟩], [⟨b3_w0, .cells [.pointer (some ⟨b3_w0o0, 0, none⟩), .int .i64 s36.2.2.2.2.2.2.2.2.2.2.1] 130⟩], [⟨b3_w0o0, .cells [.int .i64 s36.2.2.2.2.2.2.2.2.2.2.2.1, .int .i64 s36.2.2.2.2.2.2.2.2.2.2.2.2.1, .map (some b3_w0o0m2), .slice s.2.2.1 s36.2.2.2.2.2.2.2.2.2.2.2.2.2.1.length s36.2.2.2.2.2.2.2.2.2.2.2.2.2.1.length] 100⟩], [⟨b3_w0o0m2, .map (encM kS id s.2.2.2.2)⟩], s.2.2.2.1, [⟨b8_12, .cells [.int .i64 z7.Kind, .string z7.R.From, .string z7.R.To, .int .i64 z7.Rev, .slice a11_0 z7.Cmps.length c11_0, .slice a11_1 z7.Then.length c11_1, .slice a11_2 z7.Else.length c11_2] 61⟩], [⟨b6_5, .cells [.int .i64 x31.Seq, .int .i64 x31.Rev, .int .i64 x31.Hor] 71⟩]] : List Blk)) ?_ (fun J36 => ?_)
                  ·
                    rintro ⟨a36_0, a36_1, a36_2, a36_3, a36_4⟩ h36 e36 w36 ⟨f36_5, f36_13, f36_14⟩
                    replace hF := hK36
                    refine g_cond (b := s36.2.2.2.2.2.2.2.2.2.1) (ot rfl) (fun hc37 => ?_) (fun hc37 => ?_)
                    ·
                      replace hF := ifT hc37 hF
                      refine go_seq ?_
                      refine go_region ?_
                      refine gAc rfl rfl ?_
                      refine go_nil ?_
                      obtain rfl := someI hF
                      obtain rfl := someI hK10
                      obtain rfl := someI hK6
                      exact g_ret (rst rfl rs0) (fun h1 hf hs => ⟨(e3.trans (e4.trans (e7.trans (e15.trans (e17.trans (e27.trans (e28.trans (e29.trans (e32.trans (e33.trans (e35.trans (e36.trans hs.hext)))))))))))), rfl⟩)
                    ·
                      replace hF := ifF hc37 hF
                      refine go_skip ?_
                      refine go_endb ?_
                      obtain rfl := someI hF
                      refine gs_sub (.cons_cons _ (.cons_cons _ (.cons_cons _ (.cons _ (.cons _ (.cons_cons _ (.cons_cons _ (.cons_cons _ (.cons_cons _ (.cons _ (.cons_cons _ (.refl _)))))))))))) ?_
                      refine gs_perm (perm_of (d := []) _ [7, 0, 1, 2, 3, 4, 5, 6] rfl) ?_
                      exact Goes.weak (J10 ((z7.Kind, z7.R.From, z7.R.To, z7.Rev, z7.Cmps, z7.Then, z7.Else, z7.Kind, z7.R.From, z7.R.To, z7.Rev, z7.Cmps, z7.Then, z7.Else, x13, (!x13), s15.1, s15.2, x31.Seq, x31.Rev, x31.Hor, s35.1, s35.2.1, s35.2.2.1, s35.2.2.2, s36.2.2.2.2.2.2.2.2.2.2.1, s36.2.2.2.2.2.2.2.2.2.2.2.1, s36.2.2.2.2.2.2.2.2.2.2.2.2.1, s36.2.2.2.2.2.2.2.2.2.2.2.2.2.1, s36.2.2.2.2.2.2.2.2.2.2.2.2.2.2), a11_0, c11_0, a11_1, c11_1, a11_2, c11_2, a11_0, c11_0, a11_1, c11_1, a11_2, c11_2, a35_0, a35_1, a35_2, a36_2, a36_3, a36_4) _ (e15.trans (e17.trans (e27.trans (e28.trans (e29.trans (e32.trans (e33.trans (e35.trans e36)))))))) w36 ⟨rfl, (((((((((f11_0.ext e15.kn).ext e17.kn).ext e27.kn).ext e28.kn).ext e29.kn).ext e32.kn).ext e33.kn).ext e35.kn).ext e36.kn), (((((((((f11_1.ext e15.kn).ext e17.kn).ext e27.kn).ext e28.kn).ext e29.kn).ext e32.kn).ext e33.kn).ext e35.kn).ext e36.kn), (((((((((f11_2.ext e15.kn).ext e17.kn).ext e27.kn).ext e28.kn).ext e29.kn).ext e32.kn).ext e33.kn).ext e35.kn).ext e36.kn), (((((((((f11_0.ext e15.kn).ext e17.kn).ext e27.kn).ext e28.kn).ext e29.kn).ext e32.kn).ext e33.kn).ext e35.kn).ext e36.kn), (((((((((f11_1.ext e15.kn).ext e17.kn).ext e27.kn).ext e28.kn).ext e29.kn).ext e32.kn).ext e33.kn).ext e35.kn).ext e36.kn), (((((((((f11_2.ext e15.kn).ext e17.kn).ext e27.kn).ext e28.kn).ext e29.kn).ext e32.kn).ext e33.kn).ext e35.kn).ext e36.kn), (f35_2.ext e36.kn), (f35_3.ext e36.kn), f36_13, f36_14⟩) (Sub.cons (Sub.cons (Sub.cons (Sub.cons (Sub.cons (Sub.cons (Sub.cons (Sub.cons (Sub.cons (Sub.cons (Sub.cons (Sub.cons (Sub.cons (Sub.cons (Sub.cons (Sub.cons (Sub.cons (Sub.cons (Sub.cons (Sub.nil _) rfl) rfl) rfl) rfl) rfl) rfl) rfl) rfl) rfl) rfl) rfl) rfl) rfl) rfl) rfl) rfl) rfl) rfl) rfl)
                  ·
                    refine go_regions (L := [(0, []), (1, []), (3, []), (2, [3]), (4, []), (5, []), (6, []), (7, []), (8, []), (9, [7]), (10, []), (11, [])]) (by kernel_rfl) (by kernel_rfl) (fun _ => rfl) ?_
                    refine go_sop rfl rfl ?_
                    refine gr rfl (r_load (ot rfl) (lm_w (mem_seg 10 rfl) ag_71 sz_71 rfl)) ?_
                    refine go_nil ?_
                    refine go_sop rfl rfl ?_
                    refine gr rfl (r_load (ot rfl) (lm_w (mem_seg 3 rfl) ag_90 sz_90 rfl)) ?_
                    refine go_nil ?_
                    refine go_sop rfl rfl ?_
                    refine gr rfl (r_load (ot rfl) (lm_w (mem_seg 4 rfl) ag_73 sz_73 rfl)) ?_
                    refine go_nil ?_
                    refine go_sopc [(3, .agg #[.int .i64 x17.1.H.Seq, .int .i64 x17.1.H.Rev, .int .i64 x17.1.H.Hor, .int .i64 x17.1.Err, .bool x17.1.Ok, .slice a17_0 x17.1.L.length c17_0])] rfl rfl rfl (rc1 rfl (r_load (ot rfl) (lm_w (mem_seg 4 rfl) ag_73 sz_73 rfl)) rc0) (vq1 (veq_agg _ _ (va1 (veq_int _ _ _) (va1 (veq_int _ _ _) (va1 (veq_int _ _ _) (va1 (veq_int _ _ _) (va1 (veq_bool _ _) (va1 (veq_sl _ _ _ _) (va0 _)))))))) vq0) rfl ?_
                    replace hF := obind hF
                    obtain ⟨x38, hx38, hF⟩ := hF
                    refine g_call EE_fr (fun _ h => by cases h; rfl) of (os1 (ot rfl) (os1 (ot rfl) os0)) hb_48 (fun hf kn w => by exact s_front_Answer w x31 x29 ((((f29_0.ext e32.kn).ext e33.kn).ext e35.kn).ext kn) hx38) ?_
                    rintro v38 h38 e38 w38 ⟨a38_0, c38_0, rfl, f38_0⟩
                    refine go_nil ?_
                    refine go_rck (rc1 rfl (r_load (ot rfl) (lm_w (mem_seg 4 rfl) ag_73 sz_73 rfl)) rc0) ?_
                    refine go_sop rfl rfl ?_
                    replace hF := obind hF
                    obtain ⟨x39, hx39, hF⟩ := hF
                    refine g_callp (v := .bool x39) EE_fr rfl of (os1 (ot rfl) (os1 (ot rfl) os0)) hb_43 (fun _ => rfl) (fun hf kn w => by exact s_ref08_Same w x38 x17.1 (f38_0.ext kn) ((((((((f17_2.ext e27.kn).ext e28.kn).ext e29.kn).ext e32.kn).ext e33.kn).ext e35.kn).ext e38.kn).ext kn) hx39) ?_
                    refine go_nil ?_
                    refine go_sop rfl rfl ?_
                    refine gr rfl (r_un (ot rfl) rfl) ?_
                    refine go_nil ?_
                    refine go_sop rfl rfl ?_
                    refine gM rfl rfl ?_
                    refine go_nil ?_
                    rcases Bool.eq_false_or_eq_true (!x39) with hb40 | hb40
                    ·
                      replace hF := ifT hb40 hF
                      refine go_re 110 (v2 := .bool true) rfl (congrArg Value.bool hb40) ?_
                      refine go_sskip rfl (w_no rfl rfl rfl rfl rfl) ?_
                      refine g_no rfl rfl rfl rfl rfl ?_
                      refine go_nil ?_
                      refine go_sskip rfl (w_no rfl rfl rfl rfl rfl) ?_
                      refine g_no rfl rfl rfl rfl rfl ?_
                      refine go_nil ?_
                      refine go_sskip rfl (w_no rfl rfl rfl rfl rfl) ?_
                      refine g_no rfl rfl rfl rfl rfl ?_
                      refine go_nil ?_
                      refine go_sskip rfl (w_no rfl rfl rfl rfl rfl) ?_
                      refine g_no rfl rfl rfl rfl rfl ?_
                      refine go_nil ?_
                      refine go_sop rfl rfl ?_
                      refine gr rfl (r_pkT (ot rfl) (oc rfl)) ?_
                      refine go_nil ?_
                      refine go_snil ?_
                      obtain rfl := someI hF
                      exact Goes.weak (J36 (a38_0, c38_0, q17_y0o0_3, t17_y0o0_3, rw17_y0o0_2) _ e38 w38 ⟨f38_0, (((((((f17_1.ext e27.kn).ext e28.kn).ext e29.kn).ext e32.kn).ext e33.kn).ext e35.kn).ext e38.kn), (((((((f17_0.ext e27.kn).ext e28.kn).ext e29.kn).ext e32.kn).ext e33.kn).ext e35.kn).ext e38.kn)⟩) (Sub.cons (Sub.cons (Sub.cons (Sub.cons (Sub.cons (Sub.cons (Sub.cons (Sub.cons (Sub.cons (Sub.cons (Sub.cons (Sub.cons (Sub.cons (Sub.cons (Sub.cons (Sub.cons (Sub.cons (Sub.cons (Sub.cons (Sub.cons (Sub.cons (Sub.cons (Sub.cons (Sub.cons (Sub.cons (Sub.cons (Sub.cons (Sub.cons (Sub.cons (Sub.cons (Sub.cons (Sub.cons (Sub.cons (Sub.cons (Sub.cons (Sub.cons (Sub.cons (Sub.cons (Sub.cons (Sub.cons (Sub.cons (Sub.cons (Sub.cons (Sub.cons (Sub.cons (Sub.cons (Sub.cons (Sub.cons (Sub.cons (Sub.cons (Sub.cons (Sub.cons (Sub.cons (Sub.cons (Sub.cons (Sub.cons (Sub.cons (Sub.cons (Sub.cons (Sub.cons (Sub.cons (Sub.cons (Sub.nil _) rfl) rfl) rfl) rfl) rfl) rfl) rfl) rfl) rfl) rfl) rfl) rfl) rfl) rfl) rfl) rfl) rfl) rfl) rfl) rfl) rfl) rfl) rfl) rfl) rfl) rfl) rfl) rfl) rfl) rfl) rfl) rfl) rfl) rfl) rfl) rfl) rfl) rfl) rfl) rfl) rfl) rfl) rfl) rfl) rfl) rfl) rfl) rfl) rfl) rfl) rfl) rfl) rfl) rfl) rfl) rfl) rfl) rfl) rfl) rfl) rfl) rfl)
                    ·
                      replace hF := ifF hb40 hF
                      refine go_re 110 (v2 := .bool false) rfl (congrArg Value.bool hb40) ?_
                      refine go_sop rfl rfl ?_
                      refine g_do rfl rfl rfl ?_
                      refine gr rfl (r_load (ot rfl) (lm_w (mem_seg 10 rfl) ag_71 sz_71 rfl)) ?_
                      refine go_nil ?_
                      refine go_sop rfl rfl ?_
                      refine g_do rfl rfl rfl ?_
                      refine gM rfl rfl ?_
                      refine go_nil ?_
                      refine go_sopc [(7, .agg #[.int .i64 x31.Seq, .int .i64 x31.Rev, .int .i64 x31.Hor])] rfl rfl rfl (rc1 rfl (r_load (ot rfl) (lm_w (mem_seg 10 rfl) ag_71 sz_71 rfl)) rc0) (vq1 (veq_agg _ _ (va1 (veq_int _ _ _) (va1 (veq_int _ _ _) (va1 (veq_int _ _ _) (va0 _))))) vq0) rfl ?_
                      refine g_do rfl rfl rfl ?_
                      replace hF := obind hF
                      obtain ⟨x41, hx41, hF⟩ := hF
                      refine gs_call EE_fr w38 (.cons (.s (.s (.s (.s (.s (.z)))))) (.cons (.s (.s (.s (.s (.s (.z)))))) (.cons (.s (.s (.s (.s (.s (.z)))))) (.cons (.s (.s (.s (.s (.s (.z)))))) .nil)))) (fun _ h => by cases h; rfl) of (os1 (ot rfl) os0) hb_35 (by exact s_model_Model_Head w38 (⟨x17.2.1.seq⟩ : Omodel_Model) (⟨x17.2.2.bounds_rev, x17.2.2.bounds_hor, x17.2.2.keys, x17.2.2.rows⟩ : Ohist_Hist) (((((((f17_0.ext e27.kn).ext e28.kn).ext e29.kn).ext e32.kn).ext e33.kn).ext e35.kn).ext e38.kn) (((((((f17_1.ext e27.kn).ext e28.kn).ext e29.kn).ext e32.kn).ext e33.kn).ext e35.kn).ext e38.kn) hx41) ?_
                      rintro v41 S41 h41 e41 w41 ⟨rw41_y0o0_2, q41_y0o0_3, t41_y0o0_3, rfl, rfl, f41_0, f41_1⟩
                      simp only [List.cons_append, List.nil_append]
                      refine go_nil ?_
                      refine go_rck (rc1 rfl (r_load (ot rfl) (lm_w (mem_seg 10 rfl) ag_71 sz_71 rfl)) rc0) ?_
                      refine go_sop rfl rfl ?_
                      refine g_do rfl rfl rfl ?_
                      refine gr rfl (r_bin (ot rfl) (ot rfl) bn_71) ?_
                      refine go_nil ?_
                      refine go_sop rfl rfl ?_
                      refine gr rfl (r_pkF (ot rfl) (ot rfl)) ?_
                      refine go_nil ?_
                      refine go_snil ?_
                      obtain rfl := someI hF
                      refine gs_perm (perm_of (d := []) _ [4, 5, 6, 7, 8, 0, 1, 2, 3, 9, 10] rfl) ?_
                      exact Goes.weak (J36 (a38_0, c38_0, q41_y0o0_3, t41_y0o0_3, rw41_y0o0_2) _ (e38.trans e41) w41 ⟨(f38_0.ext e41.kn), f41_1, f41_0⟩) (Sub.cons (Sub.cons (Sub.cons (Sub.cons (Sub.cons (Sub.cons (Sub.cons (Sub.cons (Sub.cons (Sub.cons (Sub.cons (Sub.cons (Sub.cons (Sub.cons (Sub.cons (Sub.cons (Sub.cons (Sub.cons (Sub.cons (Sub.cons (Sub.cons (Sub.cons (Sub.cons (Sub.cons (Sub.cons (Sub.cons (Sub.cons (Sub.cons (Sub.cons (Sub.cons (Sub.cons (Sub.cons (Sub.cons (Sub.cons (Sub.cons (Sub.cons (Sub.cons (Sub.cons (Sub.cons (Sub.cons (Sub.cons (Sub.cons (Sub.cons (Sub.cons (Sub.cons (Sub.cons (Sub.cons (Sub.cons (Sub.cons (Sub.cons (Sub.cons (Sub.cons (Sub.cons (Sub.cons (Sub.cons (Sub.cons (Sub.cons (Sub.cons (Sub.cons (Sub.cons (Sub.cons (Sub.cons (Sub.nil _) rfl) rfl) rfl) rfl) rfl) rfl) rfl) rfl) rfl) rfl) rfl) rfl) rfl) rfl) rfl) rfl) rfl) rfl) rfl) rfl) rfl) rfl) rfl) rfl) rfl) rfl) rfl) rfl) rfl) rfl) rfl) rfl) rfl) rfl) rfl) rfl) rfl) rfl) rfl) rfl) rfl) rfl) rfl) rfl) rfl) rfl) rfl) rfl) rfl) rfl) rfl) rfl) rfl) rfl) rfl) rfl) rfl) rfl) rfl) rfl) rfl) rfl)
                ·
                  refine g_cond (b := (bif (x29.Err == 0) then (z7.Kind == 3) else false)) (ot rfl) (fun hc34 => ?_) (fun hc34 => ?_)
                  ·
                    replace hF := ifT hc34 hF
                    refine go_region ?_
                    refine gM rfl rfl ?_
                    refine gr rfl (r_fa (ot rfl) (fa_90_3 _ _)) ?_
                    refine gr rfl (r_load (ot rfl) (lm_s (mem_seg 3 rfl) ag_3 rfl)) ?_
                    replace hF := obind hF
                    obtain ⟨x42, hx42, hF⟩ := hF
                    refine gs_call EE_fr w33 (.cons .z (.cons .z (.cons .z .nil))) (fun _ h => by cases h; rfl) of (os1 (ot rfl) (os1 (ot rfl) os0)) hb_24 (by exact s_hist_Hist_Compact w33 (⟨x33.2.bounds_rev, x33.2.bounds_hor, x33.2.keys, x33.2.rows⟩ : Ohist_Hist) x29.Hor f33_0 f33_1 hx42) ?_
                    rintro v42 S42 h42 e42 w42 ⟨rw42_y0_2, q42_y0_3, t42_y0_3, rfl, rfl, f42_0, f42_1⟩
                    simp only [List.cons_append, List.nil_append]
                    refine go_nil ?_
                    obtain rfl := someI hF
                    exact Goes.weak (J35 (q42_y0_3, t42_y0_3, rw42_y0_2) _ e42 w42 ⟨f42_1, f42_0⟩) (Sub.cons (Sub.cons (Sub.cons (Sub.cons (Sub.cons (Sub.cons (Sub.cons (Sub.cons (Sub.cons (Sub.cons (Sub.cons (Sub.cons (Sub.cons (Sub.cons (Sub.cons (Sub.cons (Sub.cons (Sub.cons (Sub.cons (Sub.cons (Sub.cons (Sub.cons (Sub.cons (Sub.cons (Sub.cons (Sub.cons (Sub.cons (Sub.cons (Sub.cons (Sub.cons (Sub.cons (Sub.cons (Sub.cons (Sub.cons (Sub.cons (Sub.cons (Sub.cons (Sub.cons (Sub.cons (Sub.cons (Sub.cons (Sub.cons (Sub.cons (Sub.cons (Sub.cons (Sub.cons (Sub.cons (Sub.cons (Sub.cons (Sub.cons (Sub.cons (Sub.cons (Sub.cons (Sub.cons (Sub.nil _) rfl) rfl) rfl) rfl) rfl) rfl) rfl) rfl) rfl) rfl) rfl) rfl) rfl) rfl) rfl) rfl) rfl) rfl) rfl) rfl) rfl) rfl) rfl) rfl) rfl) rfl) rfl) rfl) rfl) rfl) rfl) rfl) rfl) rfl) rfl) rfl) rfl) rfl) rfl) rfl) rfl) rfl) rfl) rfl) rfl) rfl) rfl) rfl) rfl) rfl) rfl) rfl) rfl) rfl)
                  ·
                    replace hF := ifF hc34 hF
                    refine go_skip ?_
                    obtain rfl := someI hF
                    exact Goes.weak (J35 (q33_y0_3, t33_y0_3, rw33_y0_2) _ (HExt.refl _) w33 ⟨f33_1, f33_0⟩) (Sub.cons (Sub.cons (Sub.cons (Sub.cons (Sub.cons (Sub.cons (Sub.cons (Sub.cons (Sub.cons (Sub.cons (Sub.cons (Sub.cons (Sub.cons (Sub.cons (Sub.cons (Sub.cons (Sub.cons (Sub.cons (Sub.cons (Sub.cons (Sub.cons (Sub.cons (Sub.cons (Sub.cons (Sub.cons (Sub.cons (Sub.cons (Sub.cons (Sub.cons (Sub.cons (Sub.cons (Sub.cons (Sub.cons (Sub.cons (Sub.cons (Sub.cons (Sub.cons (Sub.cons (Sub.cons (Sub.cons (Sub.cons (Sub.cons (Sub.cons (Sub.cons (Sub.cons (Sub.cons (Sub.cons (Sub.cons (Sub.cons (Sub.cons (Sub.cons (Sub.cons (Sub.cons (Sub.cons (Sub.nil _) rfl) rfl) rfl) rfl) rfl) rfl) rfl) rfl) rfl) rfl) rfl) rfl) rfl) rfl) rfl) rfl) rfl) rfl) rfl) rfl) rfl) rfl) rfl) rfl) rfl) rfl) rfl) rfl) rfl) rfl) rfl) rfl) rfl) rfl) rfl) rfl) rfl) rfl) rfl) rfl) rfl) rfl) rfl) rfl) rfl) rfl) rfl) rfl) rfl) rfl) rfl) rfl) rfl) rfl)
          ·
            rcases Bool.eq_false_or_eq_true (!x13) with hb14 | hb14
            ·
              replace hF := ifT hb14 hF
              refine go_re 38 (v2 := .bool true) rfl (congrArg Value.bool hb14) ?_
              refine g_no rfl rfl rfl rfl rfl ?_
              refine g_no rfl rfl rfl rfl rfl ?_
              refine g_no rfl rfl rfl rfl rfl ?_
              refine gr rfl (r_pkT (ot rfl) (oc rfl)) ?_
              obtain rfl := someI hF
              exact Goes.weak (J15 () _ (HExt.refl _) w7 trivial) (Sub.cons (Sub.cons (Sub.cons (Sub.cons (Sub.cons (Sub.cons (Sub.cons (Sub.cons (Sub.cons (Sub.cons (Sub.cons (Sub.cons (Sub.cons (Sub.cons (Sub.cons (Sub.cons (Sub.cons (Sub.cons (Sub.cons (Sub.cons (Sub.cons (Sub.nil _) rfl) rfl) rfl) rfl) rfl) rfl) rfl) rfl) rfl) rfl) rfl) rfl) rfl) rfl) rfl) rfl) rfl) rfl) rfl) rfl) rfl)
            ·
              replace hF := ifF hb14 hF
              refine go_re 38 (v2 := .bool false) rfl (congrArg Value.bool hb14) ?_
              refine g_do rfl rfl rfl ?_
              refine gr rfl (r_load (ot rfl) (lm_w (mem_seg 0 rfl) ag_61 sz_61 rfl)) ?_
              refine g_do rfl rfl rfl ?_
              replace hF := obind hF
              obtain ⟨x43, hx43, hF⟩ := hF
              refine g_callp (v := .int .i64 x43) EE_fr rfl of (os1 (ot rfl) os0) hb_28 (fun _ => rfl) (fun hf kn w => by exact s_txn_May w z7 (f11_0.ext kn) (f11_1.ext kn) (f11_2.ext kn) hx43) ?_
              refine g_do rfl rfl rfl ?_
              refine gr rfl (r_bin (ot rfl) (oc rfl) rfl) ?_
              refine gr rfl (r_pkF (ot rfl) (ot rfl)) ?_
              obtain rfl := someI hF
              exact Goes.weak (J15 () _ (HExt.refl _) w7 trivial) (Sub.cons (Sub.cons (Sub.cons (Sub.cons (Sub.cons (Sub.cons (Sub.cons (Sub.cons (Sub.cons (Sub.cons (Sub.cons (Sub.cons (Sub.cons (Sub.cons (Sub.cons (Sub.cons (Sub.cons (Sub.cons (Sub.cons (Sub.cons (Sub.cons (Sub.nil _) rfl) rfl) rfl) rfl) rfl) rfl) rfl) rfl) rfl) rfl) rfl) rfl) rfl) rfl) rfl) rfl) rfl) rfl) rfl) rfl) rfl)
end Go.Proofs.Ytpfdandpmpmbiaa.V
