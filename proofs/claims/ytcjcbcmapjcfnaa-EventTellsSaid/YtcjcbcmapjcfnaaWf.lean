/- Walks.
   No condition: these are laws of the clean machine and of this program. -/
import Derived.Test.YtcjcbcmapjcfnaaWe
namespace Go.Proofs.Ytcjcbcmapjcfnaa.V
open Go
set_option linter.unusedVariables false
set_option linter.unusedSimpArgs false
set_option maxRecDepth 100000
set_option maxHeartbeats 4000000
theorem s_event_row {h : Heap} (hw : Wf h) (p0 : (List (List TEvent))) (p1 : (List TEvent)) {qA0 : Option Addr} {tA0 : List Blk} {a1_0 : Option Addr} {c1_0 : Nat} (fA0 : AccR (Rep.sl R_TEvent 22) 22 h tA0 (.slice qA0 p0.length p0.length) p0) (f1_0 : RL R_TEvent h a1_0 c1_0 p1) {r : (List (List TEvent))} (hF : F_event_row p0 p1 = some r) :
    EvO EE 24 [.slice qA0 p0.length p0.length, .slice a1_0 p1.length c1_0] [tA0] h (fun v S h1 => ∃ qr0 tr0, v = .slice qr0 r.length r.length ∧ S = [tr0] ∧ AccR (Rep.sl R_TEvent 22) 22 h1 tr0 (.slice qr0 r.length r.length) r) := by
  unfold F_event_row at hF
  refine evo_of rfl at_24 rfl rfl ?_
  refine go_seq ?_
  refine go_region ?_
  refine gAc rfl rfl ?_
  refine go_nil ?_
  refine go_seq ?_
  refine go_region ?_
  refine gM rfl rfl ?_
  refine gM rfl rfl ?_
  replace hF := obind hF
  obtain ⟨x1, hx1, hF⟩ := hF
  refine gs_call EE_fr hw .nil (fun _ h => by cases h; rfl) of (os1 (ot rfl) os0) hb_26 (by exact evo_clone_26 hw f1_0 hx1) ?_
  rintro v1 S1 h1 e1 w1 ⟨q1, t1, rfl, rfl, f1_⟩
  simp only [List.cons_append, List.nil_append]
  refine gs_bslice (cs := [.slice q1 x1.length x1.length]) rfl (op1 (ot rfl) op0) ut_27 sz_22 zo_22 rfl rfl ?_; intro b8_2
  refine gs_accpub (.s (.z)) f1_ (fun h4 e4 w4 f4_ => ?_) rfl
  replace hF := obind hF
  obtain ⟨x3, hx3, hF⟩ := hF
  obtain ⟨hr3, hz3_⟩ := appL_some hx3; subst x3
  refine gs_front (.s (.z)) ?_
  refine gs_app (rows2 := [[.slice q1 x1.length x1.length]]) (R := (Rep.sl R_TEvent 22)) rfl (os1 (ot rfl) (os1 (ot rfl) os0)) rfl ut_27 sz_22 rfl (by decide) by_22 zo_22 rfl zs_27_27 rfl rfl (first_m (mem_seg 1 rfl) rfl (by decide)) (Rws.one (x := x1) (sl_C f4_)) ((fA0.ext e1.kn).ext e4.kn) hr3 (fun p3_ tl3 f3_ => ?_)
  refine gA rfl rfl ?_
  refine go_nil ?_
  obtain rfl := someI hF
  refine gs_sub (.cons_cons _ (.cons _ (.refl _))) ?_
  exact g_ret (rst rfl rs0) (fun h1 hf hs => ⟨[tl3], _, hf, (e1.trans e4), w4, hs, (ndt f3_ nd0), ⟨_, _, rfl, rfl, f3_⟩⟩)
theorem s_event_Cut {h : Heap} (hw : Wf h) (p0 : (List TEvent)) {a0_0 : Option Addr} {c0_0 : Nat} (f0_0 : RL R_TEvent h a0_0 c0_0 p0) {r : (List (List TEvent))} (hF : F_event_Cut p0 = some r) :
    Ev EE 11 [.slice a0_0 p0.length c0_0] h (fun v h1 => ∃ a0 c0, v = .slice a0 r.length c0 ∧ RL (Rep.sl R_TEvent 22) h1 a0 c0 r) := by
  unfold F_event_Cut at hF
  refine ev_of hw rfl at_11 rfl rfl (go_seg0 ?_)
  refine go_seq ?_
  refine go_region ?_
  refine gAc rfl rfl ?_
  refine go_nil ?_
  refine go_seq ?_
  refine go_region ?_
  refine gAc rfl rfl ?_
  refine go_nil ?_
  refine go_seq ?_
  refine go_region ?_
  refine gAc rfl rfl ?_
  refine go_nil ?_
  refine go_seq ?_
  refine go_seq ?_
  refine go_region ?_
  refine gM rfl rfl ?_
  refine gr rfl (r_len rfl (os1 (ot rfl) os0) (fun _ _ => ln_22)) ?_
  refine gMc rfl rfl ?_
  refine go_nil ?_
  replace hF := obind hF
  obtain ⟨s1, hF, hK1⟩ := hF
  refine go_joinc (β := Option Addr × List Blk) (fun s h' => AccR (Rep.sl R_TEvent 22) 22 h' s.2 (.slice s.1 s1.length s1.length) s1) (fun s => [(2, true, .slice none 0 0), (3, true, .slice s.1 s1.length s1.length)]) (fun s => (List.flatten [s.2] : List Blk)) ?_ (fun J1 => ?_)
  ·
    rintro ⟨a1_0, a1_1⟩ h1 e1 w1 f1_0
    replace hF := hK1
    refine go_seq ?_
    refine go_region ?_
    refine gM rfl rfl ?_
    refine gA rfl rfl ?_
    refine go_nil ?_
    refine gs_accpub .z f1_0 (fun h2 e2 w2 f2_ => ?_) rfl
    obtain rfl := someI hF
    exact g_ret (rst rfl rs0) (fun h1 hf hs => ⟨(e1.trans (e2.trans hs.hext)), ⟨_, _, rfl, (f2_.ext hs.hext.kn)⟩⟩)
  ·
    refine go_block ?_
    refine go_loop (α := (List TEvent) × Nat × (List (List TEvent)) × Int × Option Addr × List Blk × Heap) (fun a => a.1 = List.drop a.2.1 p0 ∧ HExt h a.2.2.2.2.2.2 ∧ Wf a.2.2.2.2.2.2 ∧ F_event_Cut_L1 p0 a.1 a.2.1 a.2.2.1 a.2.2.2.1 = some s1 ∧ AccR (Rep.sl R_TEvent 22) 22 a.2.2.2.2.2.2 a.2.2.2.2.2.1 (.slice a.2.2.2.2.1 a.2.2.1.length a.2.2.1.length) a.2.2.1) (fun a => a.1.length) (fun a => [(0, true, .slice a0_0 p0.length c0_0), (2, true, .slice none 0 0), (3, true, .slice a.2.2.2.2.1 a.2.2.1.length a.2.2.1.length), (4, true, .int .i64 a.2.2.2.1), (7, true, .int .i64 (p0.length : Int)), (8, true, .int .i64 (a.2.1 : Int))]) (fun a => (List.flatten [a.2.2.2.2.2.1] : List Blk)) (fun a => a.2.2.2.2.2.2) ?_ (p0, 0, ([] : List (List TEvent)), 0, none, [], h) ⟨rfl, HExt.refl _, hw, hF, (AccR.nil _ _ _)⟩ (Sub.cons (Sub.cons (Sub.cons (Sub.cons (Sub.cons (Sub.cons (Sub.nil _) rfl) rfl) rfl) rfl) rfl) rfl) rfl rfl
    rintro ⟨r3, i3, y3_0, y3_1, a3_0, a3_1, h3⟩ ⟨hr3, e3, w3, hF, f3_0⟩ ih3
    rcases r3 with _ | ⟨z3, r3⟩
    ·
      have hi3 := drop_nil hr3
      rw [F_event_Cut_L1.eq_1] at hF
      refine go_seq ?_
      refine go_region ?_
      refine gr rfl (r_bin (ot rfl) (ot rfl) rfl) ?_
      refine go_cast (.bool false) (congrArg Value.bool (decide_eq_false hi3)) ?_
      refine go_nil ?_
      refine go_seq ?_
      refine g_cond (b := false) (ot rfl) (fun hc4 => ?_) (fun hc4 => ?_)
      · cases hc4
      refine go_exit rfl ?_
      obtain rfl := someI hF
      exact Goes.weak (J1 (a3_0, a3_1) _ e3 w3 f3_0) (Sub.cons (Sub.cons (Sub.nil _) rfl) rfl)
    ·
      obtain ⟨hi3, hx3, hr3⟩ := drop_cons hr3
      have hb3 := (f0_0.ext e3.kn).1
      rw [F_event_Cut_L1.eq_2] at hF
      refine go_seq ?_
      refine go_region ?_
      refine gr rfl (r_bin (ot rfl) (ot rfl) rfl) ?_
      refine go_cast (.bool true) (congrArg Value.bool (decide_eq_true (Int.ofNat_lt.mpr hi3))) ?_
      refine go_nil ?_
      refine go_seq ?_
      refine g_cond (b := true) (ot rfl) (fun hc5 => ?_) (fun hc5 => ?_)
      rotate_left
      · cases hc5
      refine go_skip ?_
      refine go_seq ?_
      refine go_block ?_
      refine go_seq ?_
      refine go_region ?_
      refine gM rfl rfl ?_
      refine gA rfl rfl ?_
      refine go_nil ?_
      refine go_seq ?_
      refine go_regionq (by kernel_rfl) ?_
      refine gM rfl rfl ?_
      refine gr rfl (r_bin (ot rfl) (oc rfl) rfl) ?_
      refine gM rfl rfl ?_
      refine gr rfl (r_len rfl (os1 (ot rfl) os0) (fun _ _ => ln_22)) ?_
      refine gr rfl (r_bin (ot rfl) (ot rfl) rfl) ?_
      refine gM rfl rfl ?_
      replace hF := obind hF
      obtain ⟨s7, hF, hK7⟩ := hF
      refine go_joinr 13 (β := Unit) (fun s h' => True) (fun s => [(0, true, .slice a0_0 p0.length c0_0), (2, true, .slice none 0 0), (3, true, .slice a3_0 y3_0.length y3_0.length), (4, true, .int .i64 y3_1), (5, true, .int .i64 (i3 : Int)), (7, true, .int .i64 (p0.length : Int)), (8, true, .int .i64 (i3 : Int)), (9, true, .bool true), (10, true, .int .i64 (i3 : Int)), (11, true, .int .i64 (i3 : Int)), (12, true, .int .i64 (IntKind.i64.wrap ((i3 : Int) + 1))), (13, true, .slice a0_0 p0.length c0_0), (14, true, .int .i64 (p0.length : Int)), (15, true, .bool ((IntKind.i64.wrap ((i3 : Int) + 1)) == (p0.length : Int))), (16, true, .bool s7.1), (29, true, .bool s7.2)]) (fun s => (List.flatten [a3_1] : List Blk)) ?_ (fun J7 => ?_)
      ·
        rintro _ h7 e7 w7 _
        replace hF := hK7
        refine go_nil ?_
        refine g_cond (b := s7.2) (ot rfl) (fun hc8 => ?_) (fun hc8 => ?_)
        ·
          replace hF := ifT hc8 hF
          refine go_seq ?_
          refine go_region ?_
          refine gM rfl rfl ?_
          refine gM rfl rfl ?_
          refine gM rfl rfl ?_
          refine gM rfl rfl ?_
          refine gr rfl (r_bin (ot rfl) (oc rfl) rfl) ?_
          replace hF := obind hF
          obtain ⟨x9, hx9, hF⟩ := hF
          obtain ⟨a9_, c9_, i9⟩ := subL_ok (E := EE) ((f0_0.ext e3.kn).ext e7.kn) hx9 ut_22 sz_40 rfl rfl
          have f9_ := i9.rl
          refine gr rfl (r_slice (ot rfl) (oo (ot rfl)) (oo (ot rfl)) on (fun hf kn => i9.both kn)) ?_
          replace hF := obind hF
          obtain ⟨x10, hx10, hF⟩ := hF
          refine gs_call EE_fr w7 (.cons .z .nil) (fun _ h => by cases h; rfl) of (os1 (ot rfl) (os1 (ot rfl) os0)) hb_24 (by exact s_event_row w7 y3_0 x9 (f3_0.ext e7.kn) f9_ hx10) ?_
          rintro v10 S10 h10 e10 w10 ⟨q10_r0, t10_r0, rfl, rfl, f10_0⟩
          simp only [List.cons_append, List.nil_append]
          refine gA rfl rfl ?_
          refine go_nil ?_
          refine go_region ?_
          refine gM rfl rfl ?_
          refine gr rfl (r_bin (ot rfl) (oc rfl) rfl) ?_
          refine gA rfl rfl ?_
          refine go_nil ?_
          refine go_endb ?_
          refine go_region ?_
          refine gr rfl (r_bin (ot rfl) (oc rfl) rfl) ?_
          refine gM rfl rfl ?_
          refine go_nil ?_
          refine go_re 8 (v2 := .int .i64 ((i3 + 1 : Nat) : Int)) rfl (wrap_succ hi3 hb3) ?_
          exact Goes.weak (ih3 (r3, i3 + 1, x10, (IntKind.i64.wrap ((i3 : Int) + 1)), q10_r0, t10_r0, h10) ⟨hr3, (e3.trans (e7.trans e10)), w10, hF, f10_0⟩ (Nat.lt_succ_self _)) (Sub.cons (Sub.cons (Sub.cons (Sub.cons (Sub.cons (Sub.cons (Sub.nil _) rfl) rfl) rfl) rfl) rfl) rfl)
        ·
          replace hF := ifF hc8 hF
          refine go_skip ?_
          refine go_endb ?_
          refine go_region ?_
          refine gr rfl (r_bin (ot rfl) (oc rfl) rfl) ?_
          refine gM rfl rfl ?_
          refine go_nil ?_
          refine go_re 8 (v2 := .int .i64 ((i3 + 1 : Nat) : Int)) rfl (wrap_succ hi3 hb3) ?_
          exact Goes.weak (ih3 (r3, i3 + 1, y3_0, y3_1, a3_0, a3_1, h7) ⟨hr3, (e3.trans e7), w7, hF, (f3_0.ext e7.kn)⟩ (Nat.lt_succ_self _)) (Sub.cons (Sub.cons (Sub.cons (Sub.cons (Sub.cons (Sub.cons (Sub.nil _) rfl) rfl) rfl) rfl) rfl) rfl)
      ·
        rcases Bool.eq_false_or_eq_true ((IntKind.i64.wrap ((i3 : Int) + 1)) == (p0.length : Int)) with hb6 | hb6
        ·
          replace hF := ifT hb6 hF
          refine go_re 16 (v2 := .bool true) rfl (congrArg Value.bool hb6) ?_
          refine g_no rfl rfl rfl rfl rfl ?_
          refine g_no rfl rfl rfl rfl rfl ?_
          refine g_no rfl rfl rfl rfl rfl ?_
          refine g_no rfl rfl rfl rfl rfl ?_
          refine g_no rfl rfl rfl rfl rfl ?_
          refine g_no rfl rfl rfl rfl rfl ?_
          refine g_no rfl rfl rfl rfl rfl ?_
          refine g_no rfl rfl rfl rfl rfl ?_
          refine g_no rfl rfl rfl rfl rfl ?_
          refine g_no rfl rfl rfl rfl rfl ?_
          refine g_no rfl rfl rfl rfl rfl ?_
          refine g_no rfl rfl rfl rfl rfl ?_
          refine gr rfl (r_pkT (ot rfl) (oc rfl)) ?_
          obtain rfl := someI hF
          exact Goes.weak (J7 () _ (HExt.refl _) w3 trivial) (Sub.cons (Sub.cons (Sub.cons (Sub.cons (Sub.cons (Sub.cons (Sub.cons (Sub.cons (Sub.cons (Sub.cons (Sub.cons (Sub.cons (Sub.cons (Sub.cons (Sub.cons (Sub.cons (Sub.nil _) rfl) rfl) rfl) rfl) rfl) rfl) rfl) rfl) rfl) rfl) rfl) rfl) rfl) rfl) rfl) rfl)
        ·
          replace hF := ifF hb6 hF
          refine go_re 16 (v2 := .bool false) rfl (congrArg Value.bool hb6) ?_
          refine g_do rfl rfl rfl ?_
          refine gM rfl rfl ?_
          refine g_do rfl rfl rfl ?_
          refine gM rfl rfl ?_
          refine g_do rfl rfl rfl ?_
          refine gr rfl (r_bin (ot rfl) (oc rfl) rfl) ?_
          refine g_do rfl rfl rfl ?_
          replace hF := obind hF
          obtain ⟨x11, hx11, hF⟩ := hF
          obtain ⟨q11, row11, i11, cl11, rc11, sp11⟩ := ix (ik := .i64) (cap := c0_0) (E := EE) (f0_0.ext e3.kn) hx11 ut_22 sz_40 rfl
          obtain rfl := rc11
          refine gr rfl (r_ia (ot rfl) (ot rfl) i11) ?_
          refine g_do rfl rfl rfl ?_
          refine gr rfl (r_fa (ot rfl) (fs_40_0 sp11)) ?_
          refine g_do rfl rfl rfl ?_
          refine gr rfl (r_load (ot rfl) (v := .int .i64 x11.Rev) (lo_e (fun hf kn => ld_field (r := [.int .i64 x11.Rev, .string x11.Key, .string x11.Val, .bool x11.Del]) ag_3 (kn.cellsAt cl11) rfl))) ?_
          refine g_do rfl rfl rfl ?_
          refine gM rfl rfl ?_
          refine g_do rfl rfl rfl ?_
          refine gM rfl rfl ?_
          refine g_do rfl rfl rfl ?_
          obtain ⟨q12, row12, i12, cl12, rc12, sp12⟩ := ix (ik := .i64) (cap := c0_0) (E := EE) (f0_0.ext e3.kn) ((getI_nat _ _).trans hx3) ut_22 sz_40 rfl
          obtain rfl := rc12
          refine gr rfl (r_ia (ot rfl) (ot rfl) i12) ?_
          refine g_do rfl rfl rfl ?_
          refine gr rfl (r_fa (ot rfl) (fs_40_0 sp12)) ?_
          refine g_do rfl rfl rfl ?_
          refine gr rfl (r_load (ot rfl) (v := .int .i64 z3.Rev) (lo_e (fun hf kn => ld_field (r := [.int .i64 z3.Rev, .string z3.Key, .string z3.Val, .bool z3.Del]) ag_3 (kn.cellsAt cl12) rfl))) ?_
          refine g_do rfl rfl rfl ?_
          refine gr rfl (r_bin (ot rfl) (ot rfl) rfl) ?_
          refine gr rfl (r_pkF (ot rfl) (ot rfl)) ?_
          obtain rfl := someI hF
          exact Goes.weak (J7 () _ (HExt.refl _) w3 trivial) (Sub.cons (Sub.cons (Sub.cons (Sub.cons (Sub.cons (Sub.cons (Sub.cons (Sub.cons (Sub.cons (Sub.cons (Sub.cons (Sub.cons (Sub.cons (Sub.cons (Sub.cons (Sub.cons (Sub.nil _) rfl) rfl) rfl) rfl) rfl) rfl) rfl) rfl) rfl) rfl) rfl) rfl) rfl) rfl) rfl) rfl)
theorem s_law05_EventJoins (n : Nat) {h : Heap} (hw : Wf h) (p0 : (List TKV)) (p1 : (List TEvent)) (p2 : (List TEvent)) {a0_0 : Option Addr} {c0_0 : Nat} {a1_0 : Option Addr} {c1_0 : Nat} {a2_0 : Option Addr} {c2_0 : Nat} (f0_0 : RL R_TKV h a0_0 c0_0 p0) (f1_0 : RL R_TEvent h a1_0 c1_0 p1) (f2_0 : RL R_TEvent h a2_0 c2_0 p2) {r : Bool} (hF : F_law05_EventJoins n p0 p1 p2 = some r) :
    Ev EE 7 [.slice a0_0 p0.length c0_0, .slice a1_0 p1.length c1_0, .slice a2_0 p2.length c2_0] h (fun v _ => v = .bool r) := by
  unfold F_law05_EventJoins at hF
  refine ev_of hw rfl at_7 rfl rfl (go_seg0 ?_)
  refine go_seq ?_
  refine go_region ?_
  refine gAc rfl rfl ?_
  refine go_nil ?_
  refine go_seq ?_
  refine go_region ?_
  refine g_callp EE_fr rfl of os0 hb_9 (fun _ => rfl) (fun hf kn w => by exact known_evp rfl hf w) ?_
  refine gA rfl rfl ?_
  refine go_nil ?_
  refine go_seq ?_
  refine go_seq ?_
  refine go_region ?_
  refine gM rfl rfl ?_
  replace hF := obind hF
  obtain ⟨x2, hx2, hF⟩ := hF
  refine g_callp (v := .bool x2) EE_fr rfl of (os1 (ot rfl) os0) hb_10 (fun _ => rfl) (fun hf kn w => by exact s_law05_few w p1 (f1_0.ext kn) hx2) ?_
  refine gr rfl (r_un (ot rfl) rfl) ?_
  refine gM rfl rfl ?_
  replace hF := obind hF
  obtain ⟨s4, hF, hK4⟩ := hF
  refine go_joinr 4 (β := Unit) (fun s h' => True) (fun s => [(0, true, .slice a0_0 p0.length c0_0), (1, true, .slice a1_0 p1.length c1_0), (2, true, .slice a2_0 p2.length c2_0), (6, true, .bool false), (7, true, .bool true), (20, true, .bool s4)]) (fun s => (List.flatten [] : List Blk)) ?_ (fun J4 => ?_)
  ·
    rintro _ h4 e4 w4 _
    replace hF := hK4
    refine gM rfl rfl ?_
    refine grf rfl rfl rfl rfl (r_move (ot rfl)) ?_
    refine grf rfl rfl rfl rfl (r_len rfl (os1 (og rfl id) os0) (fun _ _ => ln_33)) ?_
    refine grf rfl rfl rfl rfl (r_bin (og rfl id) (oc rfl) rfl) ?_
    refine gr rfl (r_pickb (ot rfl) (oc rfl) (og rfl id)) ?_
    refine gM rfl rfl ?_
    replace hF := obind hF
    obtain ⟨s6, hF, hK6⟩ := hF
    refine go_joinr 4 (β := Unit) (fun s h' => True) (fun s => [(0, true, .slice a0_0 p0.length c0_0), (1, true, .slice a1_0 p1.length c1_0), (2, true, .slice a2_0 p2.length c2_0), (6, true, .bool false), (7, true, .bool true), (30, true, .bool s6)]) (fun s => (List.flatten [] : List Blk)) ?_ (fun J6 => ?_)
    ·
      rintro _ h6 e6 w6 _
      replace hF := hK6
      refine go_nil ?_
      refine g_cond (b := s6) (ot rfl) (fun hc7 => ?_) (fun hc7 => ?_)
      ·
        replace hF := ifT hc7 hF
        refine go_seq ?_
        refine go_region ?_
        refine gM rfl rfl ?_
        refine gA rfl rfl ?_
        refine go_nil ?_
        obtain rfl := someI hF
        exact g_ret (rst rfl rs0) (fun h1 hf hs => ⟨(e4.trans (e6.trans hs.hext)), rfl⟩)
      ·
        replace hF := ifF hc7 hF
        refine go_skip ?_
        refine go_seq ?_
        refine go_region ?_
        refine gs_bslice (cs := []) rfl op0 ut_22 sz_40 zo_40 rfl rfl ?_; intro b32_8
        refine gM rfl rfl ?_
        replace hF := obind hF
        obtain ⟨x9, hx9, hF⟩ := hF
        obtain ⟨hr9, hz9_⟩ := appL_some hx9; subst x9
        obtain ⟨rw9, hw9, hq9⟩ := RL.first ((f1_0.ext e4.kn).ext e6.kn) (by decide)
        refine gs_app0 (rows2 := rw9) (R := R_TEvent) rfl (os1 (ot rfl) (os1 (ot rfl) os0)) rfl ut_22 sz_40 rfl (by decide) by_40 zo_40 rfl zs_22_22 rfl rfl (first_e hq9 (fun h' kn => kn.firstV hq9)) hw9 (AccR.lit _ _ _ _) hr9 (fun p9_ tl9 f9_ => ?_)
        refine gM rfl rfl ?_
        replace hF := obind hF
        obtain ⟨x10, hx10, hF⟩ := hF
        obtain ⟨hr10, hz10_⟩ := appL_some hx10; subst x10
        obtain ⟨rw10, hw10, hq10⟩ := RL.first ((f2_0.ext e4.kn).ext e6.kn) (by decide)
        refine gs_app (rows2 := rw10) (R := R_TEvent) rfl (os1 (ot rfl) (os1 (ot rfl) os0)) rfl ut_22 sz_40 rfl (by decide) by_40 zo_40 rfl zs_22_22 rfl rfl (first_e hq10 (fun h' kn => kn.firstV hq10)) hw10 f9_ hr10 (fun p10_ tl10 f10_ => ?_)
        refine gA rfl rfl ?_
        refine go_nil ?_
        refine go_seq ?_
        refine go_region ?_
        refine gM rfl rfl ?_
        refine gs_accpub .z f10_ (fun h12 e12 w12 f12_ => ?_) rfl
        replace hF := obind hF
        obtain ⟨x11, hx11, hF⟩ := hF
        refine g_call EE_fr (fun _ h => by cases h; rfl) of (os1 (ot rfl) os0) hb_11 (fun hf kn w => by exact s_event_Cut w ((([] : List TEvent) ++ p1) ++ p2) (f12_.ext kn) hx11) ?_
        rintro v11 h11 e11 w11 ⟨a11_0, c11_0, rfl, f11_0⟩
        refine gA rfl rfl ?_
        refine go_nil ?_
        refine go_seq ?_
        refine go_region ?_
        refine gAc rfl rfl ?_
        refine go_nil ?_
        refine go_seq ?_
        refine go_seq ?_
        refine go_region ?_
        refine gAc rfl rfl ?_
        refine go_nil ?_
        replace hF := obind hF
        obtain ⟨s13, hF, hK13⟩ := hF
        refine go_joinc (β := ((List TEvent)) × Option Addr × List Blk) (fun s h' => s13 = .go s.1 ∧ AccR R_TEvent 40 h' s.2.2 (.slice s.2.1 s.1.length s.1.length) s.1) (fun s => [(0, true, .slice a0_0 p0.length c0_0), (1, true, .slice a1_0 p1.length c1_0), (2, true, .slice a2_0 p2.length c2_0), (6, true, .bool false), (7, true, .bool true), (8, true, .slice p10_ (((([] : List TEvent) ++ p1) ++ p2).length) (((([] : List TEvent) ++ p1) ++ p2).length)), (10, true, .slice s.2.1 s.1.length s.1.length)]) (fun s => (List.flatten [s.2.2, [⟨b32_8, .cells [] 40⟩]] : List Blk)) ?_ (fun J13 => ?_)
        ·
          rintro ⟨x13_0, a13_0, a13_1⟩ h13 e13 w13 ⟨hs13, f13_0⟩
          subst hs13
          replace hF := lpgo hK13
          refine go_seq ?_
          refine go_region ?_
          refine gM rfl rfl ?_
          refine gM rfl rfl ?_
          refine g_do rfl rfl rfl ?_
          refine gM rfl rfl ?_
          refine g_do rfl rfl rfl ?_
          refine gM rfl rfl ?_
          refine g_do rfl rfl rfl ?_
          replace hF := obind hF
          obtain ⟨x14, hx14, hF⟩ := hF
          refine g_call EE_fr (fun _ h => by cases h; rfl) of (os1 (ot rfl) (os1 (ot rfl) os0)) hb_19 (fun hf kn w => by exact s_event_Fold n w p0 ((([] : List TEvent) ++ p1) ++ p2) ((((((f0_0.ext e4.kn).ext e6.kn).ext e12.kn).ext e11.kn).ext e13.kn).ext kn) (((f12_.ext e11.kn).ext e13.kn).ext kn) hx14) ?_
          rintro v14 h14 e14 w14 ⟨a14_0, c14_0, rfl, f14_0⟩
          refine g_do rfl rfl rfl ?_
          refine gM rfl rfl ?_
          refine g_do rfl rfl rfl ?_
          refine gM rfl rfl ?_
          refine g_do rfl rfl rfl ?_
          replace hF := obind hF
          obtain ⟨x15, hx15, hF⟩ := hF
          refine g_call EE_fr (fun _ h => by cases h; rfl) of (os1 (ot rfl) (os1 (ot rfl) os0)) hb_19 (fun hf kn w => by exact s_event_Fold n w p0 p1 (((((((f0_0.ext e4.kn).ext e6.kn).ext e12.kn).ext e11.kn).ext e13.kn).ext e14.kn).ext kn) (((((((f1_0.ext e4.kn).ext e6.kn).ext e12.kn).ext e11.kn).ext e13.kn).ext e14.kn).ext kn) hx15) ?_
          rintro v15 h15 e15 w15 ⟨a15_0, c15_0, rfl, f15_0⟩
          refine g_do rfl rfl rfl ?_
          refine gM rfl rfl ?_
          refine g_do rfl rfl rfl ?_
          replace hF := obind hF
          obtain ⟨x16, hx16, hF⟩ := hF
          refine g_call EE_fr (fun _ h => by cases h; rfl) of (os1 (ot rfl) (os1 (ot rfl) os0)) hb_19 (fun hf kn w => by exact s_event_Fold n w x15 p2 (f15_0.ext kn) ((((((((f2_0.ext e4.kn).ext e6.kn).ext e12.kn).ext e11.kn).ext e13.kn).ext e14.kn).ext e15.kn).ext kn) hx16) ?_
          rintro v16 h16 e16 w16 ⟨a16_0, c16_0, rfl, f16_0⟩
          refine g_do rfl rfl rfl ?_
          replace hF := obind hF
          obtain ⟨x17, hx17, hF⟩ := hF
          refine g_callp (v := .bool x17) EE_fr rfl of (os1 (ot rfl) (os1 (ot rfl) os0)) hb_20 (fun _ => rfl) (fun hf kn w => by exact s_ref05_KVs w x14 x16 (((f14_0.ext e15.kn).ext e16.kn).ext kn) (f16_0.ext kn) hx17) ?_
          refine gr rfl (r_pkT (ot rfl) (ot rfl)) ?_
          refine gM rfl rfl ?_
          replace hF := obind hF
          obtain ⟨s19, hF, hK19⟩ := hF
          refine go_joinr 4 (β := Unit) (fun s h' => True) (fun s => [(6, true, .bool false), (73, true, .bool s19)]) (fun s => (List.flatten [a13_1, [⟨b32_8, .cells [] 40⟩]] : List Blk)) ?_ (fun J19 => ?_)
          ·
            rintro _ h19 e19 w19 _
            replace hF := hK19
            refine gA rfl rfl ?_
            refine go_nil ?_
            obtain rfl := someI hF
            exact g_ret (rst rfl rs0) (fun h1 hf hs => ⟨(e4.trans (e6.trans (e12.trans (e11.trans (e13.trans (e14.trans (e15.trans (e16.trans (e19.trans hs.hext))))))))), rfl⟩)
          ·
            rcases Bool.eq_false_or_eq_true x17 with hb18 | hb18
            ·
              replace hF := ifT hb18 hF
              refine go_re 69 (v2 := .bool true) rfl (congrArg Value.bool hb18) ?_
              refine g_do rfl rfl rfl ?_
              refine gM rfl rfl ?_
              refine g_do rfl rfl rfl ?_
              refine gM rfl rfl ?_
              refine g_do rfl rfl rfl ?_
              replace hF := obind hF
              obtain ⟨x20, hx20, hF⟩ := hF
              refine gs_callb (v := .bool x20) EE_fr rfl .z (((f13_0.ext e14.kn).ext e15.kn).ext e16.kn) rfl of (os1 (ot rfl) (os1 (ot rfl) os0)) hb_13 (fun hf kn w fb20 => by exact s_ref05_Events w x13_0 ((([] : List TEvent) ++ p1) ++ p2) fb20 ((((((f12_.ext e11.kn).ext e13.kn).ext e14.kn).ext e15.kn).ext e16.kn).ext kn) hx20) ?_
              refine gr rfl (r_pkT (ot rfl) (ot rfl)) ?_
              obtain rfl := someI hF
              exact Goes.weak (J19 () _ (HExt.refl _) w16 trivial) (Sub.cons (Sub.cons (Sub.nil _) rfl) rfl)
            ·
              replace hF := ifF hb18 hF
              refine go_re 69 (v2 := .bool false) rfl (congrArg Value.bool hb18) ?_
              refine g_no rfl rfl rfl rfl rfl ?_
              refine g_no rfl rfl rfl rfl rfl ?_
              refine g_no rfl rfl rfl rfl rfl ?_
              refine gr rfl (r_pkF (ot rfl) (oc rfl)) ?_
              obtain rfl := someI hF
              exact Goes.weak (J19 () _ (HExt.refl _) w16 trivial) (Sub.cons (Sub.cons (Sub.nil _) rfl) rfl)
        ·
          refine go_block ?_
          refine go_loop (α := (List (List TEvent)) × Nat × (List TEvent) × Option Addr × List Blk × Heap) (fun a => a.1 = List.drop a.2.1 x11 ∧ HExt h11 a.2.2.2.2.2 ∧ Wf a.2.2.2.2.2 ∧ F_law05_EventJoins_L1 a.1 a.2.1 a.2.2.1 = some s13 ∧ AccR R_TEvent 40 a.2.2.2.2.2 a.2.2.2.2.1 (.slice a.2.2.2.1 a.2.2.1.length a.2.2.1.length) a.2.2.1) (fun a => a.1.length) (fun a => [(0, true, .slice a0_0 p0.length c0_0), (1, true, .slice a1_0 p1.length c1_0), (2, true, .slice a2_0 p2.length c2_0), (6, true, .bool false), (7, true, .bool true), (8, true, .slice p10_ (((([] : List TEvent) ++ p1) ++ p2).length) (((([] : List TEvent) ++ p1) ++ p2).length)), (9, true, .slice a11_0 x11.length c11_0), (10, true, .slice a.2.2.2.1 a.2.2.1.length a.2.2.1.length), (11, true, .int .i64 (a.2.1 : Int))]) (fun a => (List.flatten [a.2.2.2.2.1, [⟨b32_8, .cells [] 40⟩]] : List Blk)) (fun a => a.2.2.2.2.2) ?_ (x11, 0, ([] : List TEvent), none, [], h11) ⟨rfl, HExt.refl _, w11, hF, (AccR.nil _ _ _)⟩ (Sub.cons (Sub.cons (Sub.cons (Sub.cons (Sub.cons (Sub.cons (Sub.cons (Sub.cons (Sub.cons (Sub.nil _) rfl) rfl) rfl) rfl) rfl) rfl) rfl) rfl) rfl) rfl rfl
          rintro ⟨r21, i21, y21_0, a21_0, a21_1, h21⟩ ⟨hr21, e21, w21, hF, f21_0⟩ ih21
          rcases r21 with _ | ⟨z21, r21⟩
          ·
            have hi21 := drop_nil hr21
            rw [F_law05_EventJoins_L1.eq_1] at hF
            refine go_seq ?_
            refine go_seq ?_
            refine go_region ?_
            refine gM rfl rfl ?_
            refine gM rfl rfl ?_
            refine gr rfl (r_len rfl (os1 (ot rfl) os0) (fun _ _ => ln_27)) ?_
            refine gr rfl (r_bin (ot rfl) (ot rfl) rfl) ?_
            refine go_cast (.bool false) (congrArg Value.bool (decide_eq_false hi21)) ?_
            refine go_nil ?_
            refine g_cond (b := false) (ot rfl) (fun hc22 => ?_) (fun hc22 => ?_)
            · cases hc22
            refine go_exit rfl ?_
            obtain rfl := someI hF
            exact Goes.weak (J13 (y21_0, a21_0, a21_1) _ e21 w21 ⟨rfl, f21_0⟩) (Sub.cons (Sub.cons (Sub.cons (Sub.cons (Sub.cons (Sub.cons (Sub.cons (Sub.nil _) rfl) rfl) rfl) rfl) rfl) rfl) rfl)
          ·
            obtain ⟨hi21, hx21, hr21⟩ := drop_cons hr21
            have hb21 := (f11_0.ext e21.kn).1
            rw [F_law05_EventJoins_L1.eq_2] at hF
            refine go_seq ?_
            refine go_seq ?_
            refine go_region ?_
            refine gM rfl rfl ?_
            refine gM rfl rfl ?_
            refine gr rfl (r_len rfl (os1 (ot rfl) os0) (fun _ _ => ln_27)) ?_
            refine gr rfl (r_bin (ot rfl) (ot rfl) rfl) ?_
            refine go_cast (.bool true) (congrArg Value.bool (decide_eq_true (Int.ofNat_lt.mpr hi21))) ?_
            refine go_nil ?_
            refine g_cond (b := true) (ot rfl) (fun hc23 => ?_) (fun hc23 => ?_)
            rotate_left
            · cases hc23
            refine go_skip ?_
            refine go_seq ?_
            refine go_block ?_
            refine go_seq ?_
            refine go_seq ?_
            refine go_region ?_
            refine gM rfl rfl ?_
            refine gM rfl rfl ?_
            obtain ⟨q24, row24, i24, cl24, rc24, sp24⟩ := ix (ik := .i64) (cap := c11_0) (E := EE) (f11_0.ext e21.kn) ((getI_nat _ _).trans hx21) ut_27 sz_22 rfl
            obtain ⟨a24_0, c24_0, rfl, f24_0⟩ := rc24
            refine gr rfl (r_ia (ot rfl) (ot rfl) i24) ?_
            refine gr rfl (r_load (ot rfl) (v := .slice a24_0 z21.length c24_0) (lo_e (fun hf kn => ld_one ag_22 (kn.cellsAt cl24)))) ?_
            refine gr rfl (r_len rfl (os1 (ot rfl) os0) (fun _ _ => ln_22)) ?_
            refine gr rfl (r_bin (ot rfl) (oc rfl) rfl) ?_
            refine go_nil ?_
            refine g_cond (b := ((z21.length : Int) == 0)) (ot rfl) (fun hc25 => ?_) (fun hc25 => ?_)
            ·
              replace hF := ifT hc25 hF
              refine go_seq ?_
              refine go_region ?_
              refine gAc rfl rfl ?_
              refine go_nil ?_
              obtain rfl := someI hF
              obtain rfl := someI hK13
              exact g_ret (rst rfl rs0) (fun h1 hf hs => ⟨(e4.trans (e6.trans (e12.trans (e11.trans (e21.trans hs.hext))))), rfl⟩)
            ·
              replace hF := ifF hc25 hF
              refine go_skip ?_
              refine go_region ?_
              refine gM rfl rfl ?_
              refine gM rfl rfl ?_
              refine gM rfl rfl ?_
              obtain ⟨q26, row26, i26, cl26, rc26, sp26⟩ := ix (ik := .i64) (cap := c11_0) (E := EE) (f11_0.ext e21.kn) ((getI_nat _ _).trans hx21) ut_27 sz_22 rfl
              obtain ⟨a26_0, c26_0, rfl, f26_0⟩ := rc26
              refine gr rfl (r_ia (ot rfl) (ot rfl) i26) ?_
              refine gr rfl (r_load (ot rfl) (v := .slice a26_0 z21.length c26_0) (lo_e (fun hf kn => ld_one ag_22 (kn.cellsAt cl26)))) ?_
              replace hF := obind hF
              obtain ⟨x27, hx27, hF⟩ := hF
              obtain ⟨hr27, hz27_⟩ := appL_some hx27; subst x27
              obtain ⟨rw27, hw27, hq27⟩ := RL.first f26_0 (by decide)
              refine gs_app (rows2 := rw27) (R := R_TEvent) rfl (os1 (ot rfl) (os1 (ot rfl) os0)) rfl ut_22 sz_40 rfl (by decide) by_40 zo_40 rfl zs_22_22 rfl rfl (first_e hq27 (fun h' kn => kn.firstV hq27)) hw27 f21_0 hr27 (fun p27_ tl27 f27_ => ?_)
              refine gA rfl rfl ?_
              refine go_nil ?_
              refine go_endb ?_
              refine go_region ?_
              refine gM rfl rfl ?_
              refine gr rfl (r_bin (ot rfl) (oc rfl) rfl) ?_
              refine gA rfl rfl ?_
              refine go_nil ?_
              refine go_re 11 (v2 := .int .i64 ((i21 + 1 : Nat) : Int)) rfl (wrap_succ hi21 hb21) ?_
              exact Goes.weak (ih21 (r21, i21 + 1, (y21_0 ++ z21), p27_, tl27, h21) ⟨hr21, e21, w21, hF, f27_⟩ (Nat.lt_succ_self _)) (Sub.cons (Sub.cons (Sub.cons (Sub.cons (Sub.cons (Sub.cons (Sub.cons (Sub.cons (Sub.cons (Sub.nil _) rfl) rfl) rfl) rfl) rfl) rfl) rfl) rfl) rfl)
    ·
      rcases Bool.eq_false_or_eq_true (bif s4 then true else (decide ((p0.length : Int) > 60))) with hb5 | hb5
      ·
        replace hF := ifT hb5 hF
        refine go_re 26 (v2 := .bool true) rfl (congrArg Value.bool hb5) ?_
        refine g_no rfl rfl rfl rfl rfl ?_
        refine g_no rfl rfl rfl rfl rfl ?_
        refine g_no rfl rfl rfl rfl rfl ?_
        refine gr rfl (r_pkT (ot rfl) (oc rfl)) ?_
        obtain rfl := someI hF
        exact Goes.weak (J6 () _ (HExt.refl _) w4 trivial) (Sub.cons (Sub.cons (Sub.cons (Sub.cons (Sub.cons (Sub.cons (Sub.nil _) rfl) rfl) rfl) rfl) rfl) rfl)
      ·
        replace hF := ifF hb5 hF
        refine go_re 26 (v2 := .bool false) rfl (congrArg Value.bool hb5) ?_
        refine g_do rfl rfl rfl ?_
        refine gM rfl rfl ?_
        refine g_do rfl rfl rfl ?_
        replace hF := obind hF
        obtain ⟨x28, hx28, hF⟩ := hF
        refine g_callp (v := .bool x28) EE_fr rfl of (os1 (ot rfl) os0) hb_18 (fun _ => rfl) (fun hf kn w => by exact s_ref05_Map w p0 ((f0_0.ext e4.kn).ext kn) hx28) ?_
        refine g_do rfl rfl rfl ?_
        refine gr rfl (r_un (ot rfl) rfl) ?_
        refine gr rfl (r_pkF (ot rfl) (ot rfl)) ?_
        obtain rfl := someI hF
        exact Goes.weak (J6 () _ (HExt.refl _) w4 trivial) (Sub.cons (Sub.cons (Sub.cons (Sub.cons (Sub.cons (Sub.cons (Sub.nil _) rfl) rfl) rfl) rfl) rfl) rfl)
  ·
    rcases Bool.eq_false_or_eq_true (!x2) with hb3 | hb3
    ·
      replace hF := ifT hb3 hF
      refine go_re 16 (v2 := .bool true) rfl (congrArg Value.bool hb3) ?_
      refine g_no rfl rfl rfl rfl rfl ?_
      refine g_no rfl rfl rfl rfl rfl ?_
      refine g_no rfl rfl rfl rfl rfl ?_
      refine gr rfl (r_pkT (ot rfl) (oc rfl)) ?_
      obtain rfl := someI hF
      exact Goes.weak (J4 () _ (HExt.refl _) hw trivial) (Sub.cons (Sub.cons (Sub.cons (Sub.cons (Sub.cons (Sub.cons (Sub.nil _) rfl) rfl) rfl) rfl) rfl) rfl)
    ·
      replace hF := ifF hb3 hF
      refine go_re 16 (v2 := .bool false) rfl (congrArg Value.bool hb3) ?_
      refine g_do rfl rfl rfl ?_
      refine gM rfl rfl ?_
      refine g_do rfl rfl rfl ?_
      replace hF := obind hF
      obtain ⟨x29, hx29, hF⟩ := hF
      refine g_callp (v := .bool x29) EE_fr rfl of (os1 (ot rfl) os0) hb_10 (fun _ => rfl) (fun hf kn w => by exact s_law05_few w p2 (f2_0.ext kn) hx29) ?_
      refine g_do rfl rfl rfl ?_
      refine gr rfl (r_un (ot rfl) rfl) ?_
      refine gr rfl (r_pkF (ot rfl) (ot rfl)) ?_
      obtain rfl := someI hF
      exact Goes.weak (J4 () _ (HExt.refl _) hw trivial) (Sub.cons (Sub.cons (Sub.cons (Sub.cons (Sub.cons (Sub.cons (Sub.nil _) rfl) rfl) rfl) rfl) rfl) rfl)
end Go.Proofs.Ytcjcbcmapjcfnaa.V
