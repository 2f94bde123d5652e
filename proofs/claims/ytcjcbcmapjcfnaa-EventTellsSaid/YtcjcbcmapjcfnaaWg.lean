/- Walks.
   No condition: these are laws of the clean machine and of this program. -/
import Derived.Test.YtcjcbcmapjcfnaaWk
import Derived.Test.YtcjcbcmapjcfnaaWf
namespace Go.Proofs.Ytcjcbcmapjcfnaa.V
open Go
set_option linter.unusedVariables false
set_option linter.unusedSimpArgs false
set_option maxRecDepth 100000
set_option maxHeartbeats 4000000
theorem s_ref05_Last (n : Nat) {h : Heap} (hw : Wf h) (p0 : (List TEvent)) {a0_0 : Option Addr} {c0_0 : Nat} (f0_0 : RL R_TEvent h a0_0 c0_0 p0) {r : (List TEvent)} (hF : F_ref05_Last n p0 = some r) :
    Ev EE 17 [.slice a0_0 p0.length c0_0] h (fun v h1 => ∃ a0 c0, v = .slice a0 r.length c0 ∧ RL R_TEvent h1 a0 c0 r) := by
  unfold F_ref05_Last at hF
  refine ev_of hw rfl at_17 rfl rfl (go_seg0 ?_)
  refine go_seq ?_
  refine go_region ?_
  refine gAc rfl rfl ?_
  refine go_nil ?_
  refine go_seq ?_
  refine go_region ?_
  refine gAc rfl rfl ?_
  refine go_nil ?_
  refine go_seq ?_
  refine go_seq ?_
  refine go_region ?_
  refine gAc rfl rfl ?_
  refine go_nil ?_
  replace hF := obind hF
  obtain ⟨s1, hF, hK1⟩ := hF
  refine go_joinc (β := Option Addr × List Blk) (fun s h' => AccR R_TEvent 40 h' s.2 (.slice s.1 s1.length s1.length) s1) (fun s => [(2, true, .slice none 0 0), (3, true, .slice s.1 s1.length s1.length)]) (fun s => (List.flatten [s.2] : List Blk)) ?_ (fun J1 => ?_)
  ·
    rintro ⟨a1_0, a1_1⟩ h1 e1 w1 f1_0
    replace hF := hK1
    refine go_seq ?_
    refine go_region ?_
    refine gM rfl rfl ?_
    refine gA rfl rfl ?_
    refine go_nil ?_
    refine gs_accpub .z f1_0 (fun h2 e2 w2 f2_ => ?_) rfl
    obtain rfl := someI hF
    exact g_ret (rst rfl rs0) (fun h1 hf hs => ⟨(e1.trans (e2.trans hs.hext)), ⟨_, _, rfl, (f2_.ext hs.hext.kn)⟩⟩)
  ·
    refine go_block ?_
    refine go_loop (α := (List TEvent) × Nat × (List TEvent) × Option Addr × List Blk × Heap) (fun a => a.1 = List.drop a.2.1 p0 ∧ HExt h a.2.2.2.2.2 ∧ Wf a.2.2.2.2.2 ∧ F_ref05_Last_L1 n p0 a.1 a.2.1 a.2.2.1 = some s1 ∧ AccR R_TEvent 40 a.2.2.2.2.2 a.2.2.2.2.1 (.slice a.2.2.2.1 a.2.2.1.length a.2.2.1.length) a.2.2.1) (fun a => a.1.length) (fun a => [(0, true, .slice a0_0 p0.length c0_0), (2, true, .slice none 0 0), (3, true, .slice a.2.2.2.1 a.2.2.1.length a.2.2.1.length), (4, true, .int .i64 (a.2.1 : Int))]) (fun a => (List.flatten [a.2.2.2.2.1] : List Blk)) (fun a => a.2.2.2.2.2) ?_ (p0, 0, ([] : List TEvent), none, [], h) ⟨rfl, HExt.refl _, hw, hF, (AccR.nil _ _ _)⟩ (Sub.cons (Sub.cons (Sub.cons (Sub.cons (Sub.nil _) rfl) rfl) rfl) rfl) rfl rfl
    rintro ⟨r3, i3, y3_0, a3_0, a3_1, h3⟩ ⟨hr3, e3, w3, hF, f3_0⟩ ih3
    rcases r3 with _ | ⟨z3, r3⟩
    ·
      have hi3 := drop_nil hr3
      rw [F_ref05_Last_L1.eq_1] at hF
      refine go_seq ?_
      refine go_seq ?_
      refine go_region ?_
      refine gM rfl rfl ?_
      refine gM rfl rfl ?_
      refine gr rfl (r_len rfl (os1 (ot rfl) os0) (fun _ _ => ln_22)) ?_
      refine gr rfl (r_bin (ot rfl) (ot rfl) rfl) ?_
      refine go_cast (.bool false) (congrArg Value.bool (decide_eq_false hi3)) ?_
      refine go_nil ?_
      refine g_cond (b := false) (ot rfl) (fun hc4 => ?_) (fun hc4 => ?_)
      · cases hc4
      refine go_exit rfl ?_
      obtain rfl := someI hF
      exact Goes.weak (J1 (a3_0, a3_1) _ e3 w3 f3_0) (Sub.cons (Sub.cons (Sub.nil _) rfl) rfl)
    ·
      obtain ⟨hi3, hx3, hr3⟩ := drop_cons hr3
      have hb3 := (f0_0.ext e3.kn).1
      rw [F_ref05_Last_L1.eq_2] at hF
      refine go_seq ?_
      refine go_seq ?_
      refine go_region ?_
      refine gM rfl rfl ?_
      refine gM rfl rfl ?_
      refine gr rfl (r_len rfl (os1 (ot rfl) os0) (fun _ _ => ln_22)) ?_
      refine gr rfl (r_bin (ot rfl) (ot rfl) rfl) ?_
      refine go_cast (.bool true) (congrArg Value.bool (decide_eq_true (Int.ofNat_lt.mpr hi3))) ?_
      refine go_nil ?_
      refine g_cond (b := true) (ot rfl) (fun hc5 => ?_) (fun hc5 => ?_)
      rotate_left
      · cases hc5
      refine go_skip ?_
      refine go_seq ?_
      replace hF := obind hF
      obtain ⟨s6, hF, hK6⟩ := hF
      refine go_joinc (β := Option Addr × List Blk) (fun s h' => AccR R_TEvent 40 h' s.2 (.slice s.1 s6.1.length s6.1.length) s6.1) (fun s => [(0, true, .slice a0_0 p0.length c0_0), (2, true, .slice none 0 0), (3, true, .slice s.1 s6.1.length s6.1.length), (4, true, .int .i64 (i3 : Int)), (5, true, .bool s6.2.1), (6, true, .int .i64 s6.2.2.1), (9, true, .int .i64 (i3 : Int)), (10, true, .slice a0_0 p0.length c0_0), (11, true, .int .i64 (p0.length : Int)), (12, true, .bool true), (15, true, .int .i64 (i3 : Int)), (16, true, .int .i64 (IntKind.i64.wrap ((i3 : Int) + 1))), (17, true, .int .i64 s6.2.2.2.1), (18, true, .slice a0_0 p0.length c0_0), (19, true, .int .i64 (p0.length : Int)), (20, true, .bool s6.2.2.2.2.1), (37, true, .bool s6.2.2.2.2.2.1), (38, true, .bool s6.2.2.2.2.2.2)]) (fun s => (List.flatten [s.2] : List Blk)) ?_ (fun J6 => ?_)
      ·
        rintro ⟨a6_0, a6_1⟩ h6 e6 w6 f6_0
        replace hF := hK6
        refine go_region ?_
        refine gM rfl rfl ?_
        refine gr rfl (r_bin (ot rfl) (oc rfl) rfl) ?_
        refine gA rfl rfl ?_
        refine go_nil ?_
        refine go_re 4 (v2 := .int .i64 ((i3 + 1 : Nat) : Int)) rfl (wrap_succ hi3 hb3) ?_
        exact Goes.weak (ih3 (r3, i3 + 1, s6.1, a6_0, a6_1, h6) ⟨hr3, (e3.trans e6), w6, hF, f6_0⟩ (Nat.lt_succ_self _)) (Sub.cons (Sub.cons (Sub.cons (Sub.cons (Sub.nil _) rfl) rfl) rfl) rfl)
      ·
        refine go_block ?_
        refine go_seq ?_
        refine go_region ?_
        refine gAc rfl rfl ?_
        refine go_nil ?_
        refine go_seq ?_
        refine go_seq ?_
        refine go_region ?_
        refine gM rfl rfl ?_
        refine gr rfl (r_bin (ot rfl) (oc rfl) rfl) ?_
        refine gA rfl rfl ?_
        refine go_nil ?_
        replace hF := obind hF
        obtain ⟨s7, hF, hK7⟩ := hF
        refine go_joinc (β := Unit) (fun s h' => True) (fun s => [(0, true, .slice a0_0 p0.length c0_0), (2, true, .slice none 0 0), (3, true, .slice a3_0 y3_0.length y3_0.length), (4, true, .int .i64 (i3 : Int)), (5, true, .bool s7.1), (6, true, .int .i64 s7.2.1), (9, true, .int .i64 (i3 : Int)), (10, true, .slice a0_0 p0.length c0_0), (11, true, .int .i64 (p0.length : Int)), (12, true, .bool true), (15, true, .int .i64 (i3 : Int)), (16, true, .int .i64 (IntKind.i64.wrap ((i3 : Int) + 1))), (17, true, .int .i64 s7.2.2.1), (18, true, .slice a0_0 p0.length c0_0), (19, true, .int .i64 (p0.length : Int)), (20, true, .bool s7.2.2.2)]) (fun s => (List.flatten [a3_1] : List Blk)) ?_ (fun J7 => ?_)
        ·
          rintro _ h7 e7 w7 _
          replace hF := hK7
          refine go_seq ?_
          refine go_seq ?_
          refine go_region ?_
          refine gM rfl rfl ?_
          refine gr rfl (r_un (ot rfl) rfl) ?_
          refine go_nil ?_
          refine g_cond (b := (!s7.1)) (ot rfl) (fun hc8 => ?_) (fun hc8 => ?_)
          ·
            replace hF := ifT hc8 hF
            refine go_exit rfl ?_
            obtain rfl := someI hF
            exact Goes.weak (J6 (a3_0, a3_1) _ e7 w7 (f3_0.ext e7.kn)) (Sub.cons (Sub.cons (Sub.cons (Sub.cons (Sub.cons (Sub.cons (Sub.cons (Sub.cons (Sub.cons (Sub.cons (Sub.cons (Sub.cons (Sub.cons (Sub.cons (Sub.cons (Sub.cons (Sub.cons (Sub.cons (Sub.nil _) rfl) rfl) rfl) rfl) rfl) rfl) rfl) rfl) rfl) rfl) rfl) rfl) rfl) rfl) rfl) rfl) rfl) rfl)
          ·
            replace hF := ifF hc8 hF
            refine go_skip ?_
            refine go_seq ?_
            refine go_region ?_
            refine gAc rfl rfl ?_
            refine go_nil ?_
            refine go_seq ?_
            replace hF := obind hF
            obtain ⟨s9, hF, hK9⟩ := hF
            refine go_joinc (β := Unit) (fun s h' => True) (fun s => [(0, true, .slice a0_0 p0.length c0_0), (2, true, .slice none 0 0), (3, true, .slice a3_0 y3_0.length y3_0.length), (4, true, .int .i64 (i3 : Int)), (5, true, .bool s7.1), (6, true, .int .i64 s7.2.1), (7, true, .int .i64 s9.1), (9, true, .int .i64 (i3 : Int)), (10, true, .slice a0_0 p0.length c0_0), (11, true, .int .i64 (p0.length : Int)), (12, true, .bool true), (15, true, .int .i64 (i3 : Int)), (16, true, .int .i64 (IntKind.i64.wrap ((i3 : Int) + 1))), (17, true, .int .i64 s7.2.2.1), (18, true, .slice a0_0 p0.length c0_0), (19, true, .int .i64 (p0.length : Int)), (20, true, .bool s7.2.2.2), (37, true, .bool s7.1), (38, true, .bool (!s7.1)), (39, true, .int .i64 s9.2.1), (40, true, .slice a3_0 y3_0.length y3_0.length), (41, true, .int .i64 (y3_0.length : Int)), (42, true, .bool s9.2.2.1), (43, true, .bool s9.2.2.2.1), (55, true, .bool s9.2.2.2.2)]) (fun s => (List.flatten [a3_1] : List Blk)) ?_ (fun J9 => ?_)
            ·
              rintro _ h9 e9 w9 _
              replace hF := hK9
              refine go_seq ?_
              refine go_region ?_
              refine gs_bslice (cs := []) rfl op0 ut_22 sz_40 zo_40 rfl rfl ?_; intro b58_10
              refine gM rfl rfl ?_
              refine gM rfl rfl ?_
              refine gs_accpub (.s (.z)) ((f3_0.ext e7.kn).ext e9.kn) (fun h12 e12 w12 f12_ => ?_) rfl
              replace hF := obind hF
              obtain ⟨x11, hx11, hF⟩ := hF
              obtain ⟨a11_, c11_, i11⟩ := subL0_ok (E := EE) f12_ hx11 (fun e => by rw [e]; rfl) ut_22 sz_40 rfl rfl
              have f11_ := i11.rl
              refine gr rfl (r_slice (ot rfl) on (oo (ot rfl)) on (fun hf kn => i11.hi kn rfl)) ?_
              replace hF := obind hF
              obtain ⟨x13, hx13, hF⟩ := hF
              obtain ⟨hr13, hz13_⟩ := appL_some hx13; subst x13
              obtain ⟨rw13, hw13, hq13⟩ := RL.first f11_ (by decide)
              refine gs_app0 (rows2 := rw13) (R := R_TEvent) rfl (os1 (ot rfl) (os1 (ot rfl) os0)) rfl ut_22 sz_40 rfl (by decide) by_40 zo_40 rfl zs_22_22 rfl rfl (first_e hq13 (fun h' kn => kn.firstV hq13)) hw13 (AccR.lit _ _ _ _) hr13 (fun p13_ tl13 f13_ => ?_)
              refine gA rfl rfl ?_
              refine go_nil ?_
              refine go_seq ?_
              refine go_region ?_
              refine gM rfl rfl ?_
              refine gM rfl rfl ?_
              refine gM rfl rfl ?_
              obtain ⟨q14, row14, i14, cl14, rc14, sp14⟩ := ix (ik := .i64) (cap := c0_0) (E := EE) ((((f0_0.ext e3.kn).ext e7.kn).ext e9.kn).ext e12.kn) ((getI_nat _ _).trans hx3) ut_22 sz_40 rfl
              obtain rfl := rc14
              refine gr rfl (r_ia (ot rfl) (ot rfl) i14) ?_
              refine gr rfl (r_load (ot rfl) (v := .agg #[.int .i64 z3.Rev, .string z3.Key, .string z3.Val, .bool z3.Del]) (lo_e (fun hf kn => ld_of (r := [.int .i64 z3.Rev, .string z3.Key, .string z3.Val, .bool z3.Del]) ag_40 sz_40 (kn.cellsAt cl14)))) ?_
              refine gs_bslice (cs := [.int .i64 z3.Rev, .string z3.Key, .string z3.Val, .bool z3.Del]) rfl (op1 (ot rfl) op0) ut_22 sz_40 zo_40 rfl rfl ?_; intro b68_15
              replace hF := obind hF
              obtain ⟨x16, hx16, hF⟩ := hF
              obtain ⟨hr16, hz16_⟩ := appL_some hx16; subst x16
              refine gs_front (.s (.z)) ?_
              refine gs_app (rows2 := [[.int .i64 z3.Rev, .string z3.Key, .string z3.Val, .bool z3.Del]]) (R := R_TEvent) rfl (os1 (ot rfl) (os1 (ot rfl) os0)) rfl ut_22 sz_40 rfl (by decide) by_40 zo_40 rfl zs_22_22 rfl rfl (first_m (mem_seg 1 rfl) rfl (by decide)) (Rws.one (x := z3) rfl) f13_ hr16 (fun p16_ tl16 f16_ => ?_)
              refine gA rfl rfl ?_
              refine go_nil ?_
              refine go_seq ?_
              refine go_region ?_
              refine gM rfl rfl ?_
              refine gM rfl rfl ?_
              refine gM rfl rfl ?_
              replace hF := obind hF
              obtain ⟨x17, hx17, hF⟩ := hF
              obtain ⟨a17_, c17_, i17⟩ := subL0_ok (E := EE) f12_ hx17 (fun e => by rw [e]; rfl) ut_22 sz_40 rfl rfl
              have f17_ := i17.rl
              refine gr rfl (r_slice (ot rfl) (oo (ot rfl)) on on (fun hf kn => i17.lo kn rfl)) ?_
              replace hF := obind hF
              obtain ⟨x18, hx18, hF⟩ := hF
              obtain ⟨hr18, hz18_⟩ := appL_some hx18; subst x18
              obtain ⟨rw18, hw18, hq18⟩ := RL.first f17_ (by decide)
              refine gs_app (rows2 := rw18) (R := R_TEvent) rfl (os1 (ot rfl) (os1 (ot rfl) os0)) rfl ut_22 sz_40 rfl (by decide) by_40 zo_40 rfl zs_22_22 rfl rfl (first_e hq18 (fun h' kn => kn.firstV hq18)) hw18 f16_ hr18 (fun p18_ tl18 f18_ => ?_)
              refine gA rfl rfl ?_
              refine go_nil ?_
              refine go_region ?_
              refine gM rfl rfl ?_
              refine gA rfl rfl ?_
              refine go_nil ?_
              refine go_endb ?_
              obtain rfl := someI hF
              refine gs_sub (.cons_cons _ (.cons _ (.cons _ (.refl _)))) ?_
              exact Goes.weak (J6 (p18_, tl18) _ (e7.trans (e9.trans e12)) w12 f18_) (Sub.cons (Sub.cons (Sub.cons (Sub.cons (Sub.cons (Sub.cons (Sub.cons (Sub.cons (Sub.cons (Sub.cons (Sub.cons (Sub.cons (Sub.cons (Sub.cons (Sub.cons (Sub.cons (Sub.cons (Sub.cons (Sub.nil _) rfl) rfl) rfl) rfl) rfl) rfl) rfl) rfl) rfl) rfl) rfl) rfl) rfl) rfl) rfl) rfl) rfl) rfl)
            ·
              refine go_block ?_
              refine go_loop (α := (List TEvent) × Nat × Heap) (fun a => a.1 = List.drop a.2.1 y3_0 ∧ HExt h7 a.2.2 ∧ Wf a.2.2 ∧ F_ref05_Last_L2 z3 a.1 a.2.1 = some s9) (fun a => a.1.length) (fun a => [(0, true, .slice a0_0 p0.length c0_0), (2, true, .slice none 0 0), (3, true, .slice a3_0 y3_0.length y3_0.length), (4, true, .int .i64 (i3 : Int)), (5, true, .bool s7.1), (6, true, .int .i64 s7.2.1), (7, true, .int .i64 (a.2.1 : Int)), (9, true, .int .i64 (i3 : Int)), (10, true, .slice a0_0 p0.length c0_0), (11, true, .int .i64 (p0.length : Int)), (12, true, .bool true), (15, true, .int .i64 (i3 : Int)), (16, true, .int .i64 (IntKind.i64.wrap ((i3 : Int) + 1))), (17, true, .int .i64 s7.2.2.1), (18, true, .slice a0_0 p0.length c0_0), (19, true, .int .i64 (p0.length : Int)), (20, true, .bool s7.2.2.2), (37, true, .bool s7.1), (38, true, .bool (!s7.1))]) (fun a => (List.flatten [a3_1] : List Blk)) (fun a => a.2.2) ?_ (y3_0, 0, h7) ⟨rfl, HExt.refl _, w7, hF⟩ (Sub.cons (Sub.cons (Sub.cons (Sub.cons (Sub.cons (Sub.cons (Sub.cons (Sub.cons (Sub.cons (Sub.cons (Sub.cons (Sub.cons (Sub.cons (Sub.cons (Sub.cons (Sub.cons (Sub.cons (Sub.cons (Sub.cons (Sub.nil _) rfl) rfl) rfl) rfl) rfl) rfl) rfl) rfl) rfl) rfl) rfl) rfl) rfl) rfl) rfl) rfl) rfl) rfl) rfl) rfl rfl
              rintro ⟨r19, i19, h19⟩ ⟨hr19, e19, w19, hF⟩ ih19
              rcases r19 with _ | ⟨z19, r19⟩
              ·
                have hi19 := drop_nil hr19
                rw [F_ref05_Last_L2.eq_1] at hF
                refine go_seq ?_
                refine go_seq ?_
                refine go_regionq (by kernel_rfl) ?_
                refine gM rfl rfl ?_
                refine gM rfl rfl ?_
                refine gr rfl (r_len rfl (os1 (ot rfl) os0) (fun _ _ => ln_22)) ?_
                refine gr rfl (r_bin (ot rfl) (ot rfl) rfl) ?_
                refine go_cast (.bool false) (congrArg Value.bool (decide_eq_false hi19)) ?_
                refine gM rfl rfl ?_
                refine g_no rfl rfl rfl rfl rfl ?_
                refine g_no rfl rfl rfl rfl rfl ?_
                refine g_no rfl rfl rfl rfl rfl ?_
                refine g_no rfl rfl rfl rfl rfl ?_
                refine g_no rfl rfl rfl rfl rfl ?_
                refine g_no rfl rfl rfl rfl rfl ?_
                refine g_no rfl rfl rfl rfl rfl ?_
                refine g_no rfl rfl rfl rfl rfl ?_
                refine g_no rfl rfl rfl rfl rfl ?_
                refine g_no rfl rfl rfl rfl rfl ?_
                refine g_no rfl rfl rfl rfl rfl ?_
                refine gr rfl (r_pkF (ot rfl) (oc rfl)) ?_
                refine go_nil ?_
                refine g_cond (b := false) (ot rfl) (fun hc20 => ?_) (fun hc20 => ?_)
                · cases hc20
                refine go_exit rfl ?_
                obtain rfl := someI hF
                exact Goes.weak (J9 () _ e19 w19 trivial) (Sub.cons (Sub.cons (Sub.cons (Sub.cons (Sub.cons (Sub.cons (Sub.cons (Sub.cons (Sub.cons (Sub.cons (Sub.cons (Sub.cons (Sub.cons (Sub.cons (Sub.cons (Sub.cons (Sub.cons (Sub.cons (Sub.cons (Sub.cons (Sub.cons (Sub.cons (Sub.cons (Sub.cons (Sub.cons (Sub.nil _) rfl) rfl) rfl) rfl) rfl) rfl) rfl) rfl) rfl) rfl) rfl) rfl) rfl) rfl) rfl) rfl) rfl) rfl) rfl) rfl) rfl) rfl) rfl) rfl) rfl)
              ·
                obtain ⟨hi19, hx19, hr19⟩ := drop_cons hr19
                have hb19 := ((f3_0.ext e7.kn).ext e19.kn).1
                rw [F_ref05_Last_L2.eq_2] at hF
                refine go_seq ?_
                refine go_seq ?_
                refine go_regionq (by kernel_rfl) ?_
                refine gM rfl rfl ?_
                refine gM rfl rfl ?_
                refine gr rfl (r_len rfl (os1 (ot rfl) os0) (fun _ _ => ln_22)) ?_
                refine gr rfl (r_bin (ot rfl) (ot rfl) rfl) ?_
                refine go_cast (.bool true) (congrArg Value.bool (decide_eq_true (Int.ofNat_lt.mpr hi19))) ?_
                refine gM rfl rfl ?_
                refine g_do rfl rfl rfl ?_
                refine gM rfl rfl ?_
                refine g_do rfl rfl rfl ?_
                refine gM rfl rfl ?_
                refine g_do rfl rfl rfl ?_
                obtain ⟨bb21, rw21, row21, hp21, ht21, hR21, hw21, rc21, hz21, hi21, hd21, hb21, hl21⟩ := AccR.at_ ((f3_0.ext e7.kn).ext e19.kn) ((getI_nat _ _).trans hx19)
                have hF21_ := hF
                subst hp21; subst ht21
                replace hF := hF21_
                obtain rfl := rc21
                refine gr rfl (r_ia (ot rfl) (ot rfl) (ia_acc (k := 4) ut_22 sz_40 hz21 hi21)) ?_
                refine g_do rfl rfl rfl ?_
                refine gr rfl (r_fa (ot rfl) (fa_40_1 _ _)) ?_
                refine g_do rfl rfl rfl ?_
                refine gr rfl (r_load (ot rfl) (lm_s (mem_seg 0 rfl) ag_9 (acc_cell (j := 1) hd21 rfl))) ?_
                refine g_do rfl rfl rfl ?_
                refine gM rfl rfl ?_
                refine g_do rfl rfl rfl ?_
                refine gM rfl rfl ?_
                refine g_do rfl rfl rfl ?_
                obtain ⟨q22, row22, i22, cl22, rc22, sp22⟩ := ix (ik := .i64) (cap := c0_0) (E := EE) (((f0_0.ext e3.kn).ext e7.kn).ext e19.kn) ((getI_nat _ _).trans hx3) ut_22 sz_40 rfl
                obtain rfl := rc22
                refine gr rfl (r_ia (ot rfl) (ot rfl) i22) ?_
                refine g_do rfl rfl rfl ?_
                refine gr rfl (r_fa (ot rfl) (fs_40_1 sp22)) ?_
                refine g_do rfl rfl rfl ?_
                refine gr rfl (r_load (ot rfl) (v := .string z3.Key) (lo_e (fun hf kn => ld_field (r := [.int .i64 z3.Rev, .string z3.Key, .string z3.Val, .bool z3.Del]) ag_9 (kn.cellsAt cl22) rfl))) ?_
                refine g_do rfl rfl rfl ?_
                refine gr rfl (r_bin (ot rfl) (ot rfl) rfl) ?_
                refine gr rfl (r_pkT (ot rfl) (ot rfl)) ?_
                refine go_nil ?_
                refine g_cond (b := (lessB z19.Key z3.Key)) (ot rfl) (fun hc23 => ?_) (fun hc23 => ?_)
                ·
                  replace hF := ifT hc23 hF
                  refine go_skip ?_
                  refine go_block ?_
                  refine go_region ?_
                  refine gM rfl rfl ?_
                  refine gr rfl (r_bin (ot rfl) (oc rfl) rfl) ?_
                  refine gA rfl rfl ?_
                  refine go_nil ?_
                  refine go_endb ?_
                  refine go_re 7 (v2 := .int .i64 ((i19 + 1 : Nat) : Int)) rfl (wrap_succ hi19 hb19) ?_
                  exact Goes.weak (ih19 (r19, i19 + 1, h19) ⟨hr19, e19, w19, hF⟩ (Nat.lt_succ_self _)) (Sub.cons (Sub.cons (Sub.cons (Sub.cons (Sub.cons (Sub.cons (Sub.cons (Sub.cons (Sub.cons (Sub.cons (Sub.cons (Sub.cons (Sub.cons (Sub.cons (Sub.cons (Sub.cons (Sub.cons (Sub.cons (Sub.cons (Sub.nil _) rfl) rfl) rfl) rfl) rfl) rfl) rfl) rfl) rfl) rfl) rfl) rfl) rfl) rfl) rfl) rfl) rfl) rfl) rfl)
                ·
                  replace hF := ifF hc23 hF
                  refine go_exit rfl ?_
                  obtain rfl := someI hF
                  exact Goes.weak (J9 () _ e19 w19 trivial) (Sub.cons (Sub.cons (Sub.cons (Sub.cons (Sub.cons (Sub.cons (Sub.cons (Sub.cons (Sub.cons (Sub.cons (Sub.cons (Sub.cons (Sub.cons (Sub.cons (Sub.cons (Sub.cons (Sub.cons (Sub.cons (Sub.cons (Sub.cons (Sub.cons (Sub.cons (Sub.cons (Sub.cons (Sub.cons (Sub.nil _) rfl) rfl) rfl) rfl) rfl) rfl) rfl) rfl) rfl) rfl) rfl) rfl) rfl) rfl) rfl) rfl) rfl) rfl) rfl) rfl) rfl) rfl) rfl) rfl) rfl)
        ·
          refine go_block ?_
          refine go_loop (α := Nat × Bool × Int × Heap) (fun a => HExt h3 a.2.2.2 ∧ Wf a.2.2.2 ∧ F_ref05_Last_L3 p0 z3 a.1 a.2.1 a.2.2.1 = some s7) (fun a => a.1) (fun a => [(0, true, .slice a0_0 p0.length c0_0), (2, true, .slice none 0 0), (3, true, .slice a3_0 y3_0.length y3_0.length), (4, true, .int .i64 (i3 : Int)), (5, true, .bool a.2.1), (6, true, .int .i64 a.2.2.1), (9, true, .int .i64 (i3 : Int)), (10, true, .slice a0_0 p0.length c0_0), (11, true, .int .i64 (p0.length : Int)), (12, true, .bool true), (15, true, .int .i64 (i3 : Int)), (16, true, .int .i64 (IntKind.i64.wrap ((i3 : Int) + 1)))]) (fun a => (List.flatten [a3_1] : List Blk)) (fun a => a.2.2.2) ?_ (n, true, (IntKind.i64.wrap ((i3 : Int) + 1)), h3) ⟨HExt.refl _, w3, hF⟩ (Sub.cons (Sub.cons (Sub.cons (Sub.cons (Sub.cons (Sub.cons (Sub.cons (Sub.cons (Sub.cons (Sub.cons (Sub.cons (Sub.cons (Sub.nil _) rfl) rfl) rfl) rfl) rfl) rfl) rfl) rfl) rfl) rfl) rfl) rfl) rfl rfl
          rintro ⟨m24, y24_0, y24_1, h24⟩ ⟨e24, w24, hF⟩ ih24
          rcases m24 with _ | m24
          ·
            rw [F_ref05_Last_L3.eq_1] at hF; cases hF
          ·
            rw [F_ref05_Last_L3.eq_2] at hF
            refine go_seq ?_
            refine go_seq ?_
            refine go_region ?_
            refine gM rfl rfl ?_
            refine gM rfl rfl ?_
            refine gr rfl (r_len rfl (os1 (ot rfl) os0) (fun _ _ => ln_22)) ?_
            refine gr rfl (r_bin (ot rfl) (ot rfl) rfl) ?_
            refine go_nil ?_
            refine g_cond (b := (decide (y24_1 < (p0.length : Int)))) (ot rfl) (fun hc25 => ?_) (fun hc25 => ?_)
            ·
              replace hF := ifT hc25 hF
              refine go_skip ?_
              refine go_seq ?_
              refine go_block ?_
              refine go_regionq (by kernel_rfl) ?_
              refine gM rfl rfl ?_
              refine gM rfl rfl ?_
              replace hF := obind hF
              obtain ⟨s27, hF, hK27⟩ := hF
              refine go_joinr 12 (β := Unit) (fun s h' => True) (fun s => [(0, true, .slice a0_0 p0.length c0_0), (2, true, .slice none 0 0), (3, true, .slice a3_0 y3_0.length y3_0.length), (4, true, .int .i64 (i3 : Int)), (5, true, .bool y24_0), (6, true, .int .i64 y24_1), (9, true, .int .i64 (i3 : Int)), (10, true, .slice a0_0 p0.length c0_0), (11, true, .int .i64 (p0.length : Int)), (12, true, .bool true), (15, true, .int .i64 (i3 : Int)), (16, true, .int .i64 (IntKind.i64.wrap ((i3 : Int) + 1))), (17, true, .int .i64 y24_1), (18, true, .slice a0_0 p0.length c0_0), (19, true, .int .i64 (p0.length : Int)), (20, true, .bool (decide (y24_1 < (p0.length : Int)))), (23, true, .bool y24_0), (24, true, .bool s27.1), (36, true, .bool s27.2)]) (fun s => (List.flatten [a3_1] : List Blk)) ?_ (fun J27 => ?_)
              ·
                rintro _ h27 e27 w27 _
                replace hF := hK27
                refine gA rfl rfl ?_
                refine go_nil ?_
                refine go_endb ?_
                refine go_region ?_
                refine gM rfl rfl ?_
                refine gr rfl (r_bin (ot rfl) (oc rfl) rfl) ?_
                refine gA rfl rfl ?_
                refine go_nil ?_
                exact Goes.weak (ih24 (m24, s27.2, (IntKind.i64.wrap (y24_1 + 1)), h27) ⟨(e24.trans e27), w27, hF⟩ (Nat.lt_succ_self _)) (Sub.cons (Sub.cons (Sub.cons (Sub.cons (Sub.cons (Sub.cons (Sub.cons (Sub.cons (Sub.cons (Sub.cons (Sub.cons (Sub.cons (Sub.nil _) rfl) rfl) rfl) rfl) rfl) rfl) rfl) rfl) rfl) rfl) rfl) rfl)
              ·
                rcases Bool.eq_false_or_eq_true y24_0 with hb26 | hb26
                ·
                  replace hF := ifT hb26 hF
                  refine go_re 24 (v2 := .bool true) rfl (congrArg Value.bool hb26) ?_
                  refine g_do rfl rfl rfl ?_
                  refine gM rfl rfl ?_
                  refine g_do rfl rfl rfl ?_
                  refine gM rfl rfl ?_
                  refine g_do rfl rfl rfl ?_
                  replace hF := obind hF
                  obtain ⟨x28, hx28, hF⟩ := hF
                  obtain ⟨q28, row28, i28, cl28, rc28, sp28⟩ := ix (ik := .i64) (cap := c0_0) (E := EE) ((f0_0.ext e3.kn).ext e24.kn) hx28 ut_22 sz_40 rfl
                  obtain rfl := rc28
                  refine gr rfl (r_ia (ot rfl) (ot rfl) i28) ?_
                  refine g_do rfl rfl rfl ?_
                  refine gr rfl (r_fa (ot rfl) (fs_40_1 sp28)) ?_
                  refine g_do rfl rfl rfl ?_
                  refine gr rfl (r_load (ot rfl) (v := .string x28.Key) (lo_e (fun hf kn => ld_field (r := [.int .i64 x28.Rev, .string x28.Key, .string x28.Val, .bool x28.Del]) ag_9 (kn.cellsAt cl28) rfl))) ?_
                  refine g_do rfl rfl rfl ?_
                  refine gM rfl rfl ?_
                  refine g_do rfl rfl rfl ?_
                  refine gM rfl rfl ?_
                  refine g_do rfl rfl rfl ?_
                  obtain ⟨q29, row29, i29, cl29, rc29, sp29⟩ := ix (ik := .i64) (cap := c0_0) (E := EE) ((f0_0.ext e3.kn).ext e24.kn) ((getI_nat _ _).trans hx3) ut_22 sz_40 rfl
                  obtain rfl := rc29
                  refine gr rfl (r_ia (ot rfl) (ot rfl) i29) ?_
                  refine g_do rfl rfl rfl ?_
                  refine gr rfl (r_fa (ot rfl) (fs_40_1 sp29)) ?_
                  refine g_do rfl rfl rfl ?_
                  refine gr rfl (r_load (ot rfl) (v := .string z3.Key) (lo_e (fun hf kn => ld_field (r := [.int .i64 z3.Rev, .string z3.Key, .string z3.Val, .bool z3.Del]) ag_9 (kn.cellsAt cl29) rfl))) ?_
                  refine g_do rfl rfl rfl ?_
                  refine gr rfl (r_bin (ot rfl) (ot rfl) rfl) ?_
                  refine gr rfl (r_pkT (ot rfl) (ot rfl)) ?_
                  obtain rfl := someI hF
                  exact Goes.weak (J27 () _ (HExt.refl _) w24 trivial) (Sub.cons (Sub.cons (Sub.cons (Sub.cons (Sub.cons (Sub.cons (Sub.cons (Sub.cons (Sub.cons (Sub.cons (Sub.cons (Sub.cons (Sub.cons (Sub.cons (Sub.cons (Sub.cons (Sub.cons (Sub.cons (Sub.cons (Sub.nil _) rfl) rfl) rfl) rfl) rfl) rfl) rfl) rfl) rfl) rfl) rfl) rfl) rfl) rfl) rfl) rfl) rfl) rfl) rfl)
                ·
                  replace hF := ifF hb26 hF
                  refine go_re 24 (v2 := .bool false) rfl (congrArg Value.bool hb26) ?_
                  refine g_no rfl rfl rfl rfl rfl ?_
                  refine g_no rfl rfl rfl rfl rfl ?_
                  refine g_no rfl rfl rfl rfl rfl ?_
                  refine g_no rfl rfl rfl rfl rfl ?_
                  refine g_no rfl rfl rfl rfl rfl ?_
                  refine g_no rfl rfl rfl rfl rfl ?_
                  refine g_no rfl rfl rfl rfl rfl ?_
                  refine g_no rfl rfl rfl rfl rfl ?_
                  refine g_no rfl rfl rfl rfl rfl ?_
                  refine g_no rfl rfl rfl rfl rfl ?_
                  refine g_no rfl rfl rfl rfl rfl ?_
                  refine gr rfl (r_pkF (ot rfl) (oc rfl)) ?_
                  obtain rfl := someI hF
                  exact Goes.weak (J27 () _ (HExt.refl _) w24 trivial) (Sub.cons (Sub.cons (Sub.cons (Sub.cons (Sub.cons (Sub.cons (Sub.cons (Sub.cons (Sub.cons (Sub.cons (Sub.cons (Sub.cons (Sub.cons (Sub.cons (Sub.cons (Sub.cons (Sub.cons (Sub.cons (Sub.cons (Sub.nil _) rfl) rfl) rfl) rfl) rfl) rfl) rfl) rfl) rfl) rfl) rfl) rfl) rfl) rfl) rfl) rfl) rfl) rfl) rfl)
            ·
              replace hF := ifF hc25 hF
              refine go_exit rfl ?_
              obtain rfl := someI hF
              exact Goes.weak (J7 () _ e24 w24 trivial) (Sub.cons (Sub.cons (Sub.cons (Sub.cons (Sub.cons (Sub.cons (Sub.cons (Sub.cons (Sub.cons (Sub.cons (Sub.cons (Sub.cons (Sub.cons (Sub.cons (Sub.cons (Sub.cons (Sub.nil _) rfl) rfl) rfl) rfl) rfl) rfl) rfl) rfl) rfl) rfl) rfl) rfl) rfl) rfl) rfl) rfl)
theorem s_law05_EventTells (n : Nat) {h : Heap} (hw : Wf h) (p0 : (List TEvent)) (p1 : TRange) {a0_0 : Option Addr} {c0_0 : Nat} (f0_0 : RL R_TEvent h a0_0 c0_0 p0) {r : Bool} (hF : F_law05_EventTells n p0 p1 = some r) :
    Ev EE 3 [.slice a0_0 p0.length c0_0, .agg #[.string p1.From, .string p1.To]] h (fun v _ => v = .bool r) := by
  unfold F_law05_EventTells at hF
  refine ev_of hw rfl at_3 rfl rfl (go_seg0 ?_)
  refine go_seq ?_
  refine go_region ?_
  refine gs_box rfl (ot rfl) rfl ?_; intro b3_1
  refine gAc rfl rfl ?_
  refine go_nil ?_
  refine go_seq ?_
  refine go_region ?_
  refine g_callp EE_fr rfl of os0 hb_9 (fun _ => rfl) (fun hf kn w => by exact known_evp rfl hf w) ?_
  refine gA rfl rfl ?_
  refine go_nil ?_
  refine go_seq ?_
  refine go_seq ?_
  refine go_region ?_
  refine gM rfl rfl ?_
  replace hF := obind hF
  obtain ⟨x3, hx3, hF⟩ := hF
  refine g_callp (v := .bool x3) EE_fr rfl of (os1 (ot rfl) os0) hb_10 (fun _ => rfl) (fun hf kn w => by exact s_law05_few w p0 (f0_0.ext kn) hx3) ?_
  refine gr rfl (r_un (ot rfl) rfl) ?_
  refine go_nil ?_
  refine g_cond (b := (!x3)) (ot rfl) (fun hc4 => ?_) (fun hc4 => ?_)
  ·
    replace hF := ifT hc4 hF
    refine go_seq ?_
    refine go_region ?_
    refine gM rfl rfl ?_
    refine gA rfl rfl ?_
    refine go_nil ?_
    obtain rfl := someI hF
    exact g_ret (rst rfl rs0) (fun h1 hf hs => ⟨hs.hext, rfl⟩)
  ·
    replace hF := ifF hc4 hF
    refine go_skip ?_
    refine go_seq ?_
    refine go_region ?_
    refine gM rfl rfl ?_
    replace hF := obind hF
    obtain ⟨x5, hx5, hF⟩ := hF
    refine g_call EE_fr (fun _ h => by cases h; rfl) of (os1 (ot rfl) os0) hb_11 (fun hf kn w => by exact s_event_Cut w p0 (f0_0.ext kn) hx5) ?_
    rintro v5 h5 e5 w5 ⟨a5_0, c5_0, rfl, f5_0⟩
    refine gA rfl rfl ?_
    refine go_nil ?_
    refine go_seq ?_
    refine go_region ?_
    refine gM rfl rfl ?_
    replace hF := obind hF
    obtain ⟨x6, hx6, hF⟩ := hF
    refine g_call EE_fr (fun _ h => by cases h; rfl) of (os1 (ot rfl) os0) hb_12 (fun hf kn w => by exact s_ref05_Cut w p0 ((f0_0.ext e5.kn).ext kn) hx6) ?_
    rintro v6 h6 e6 w6 ⟨a6_0, c6_0, rfl, f6_0⟩
    refine gA rfl rfl ?_
    refine go_nil ?_
    refine go_seq ?_
    refine go_seq ?_
    refine go_region ?_
    refine gM rfl rfl ?_
    refine gr rfl (r_len rfl (os1 (ot rfl) os0) (fun _ _ => ln_27)) ?_
    refine gM rfl rfl ?_
    refine gr rfl (r_len rfl (os1 (ot rfl) os0) (fun _ _ => ln_27)) ?_
    refine gr rfl (r_bin (ot rfl) (ot rfl) rfl) ?_
    refine go_nil ?_
    refine g_cond (b := ((x5.length : Int) != (x6.length : Int))) (ot rfl) (fun hc7 => ?_) (fun hc7 => ?_)
    ·
      replace hF := ifT hc7 hF
      refine go_seq ?_
      refine go_region ?_
      refine gAc rfl rfl ?_
      refine go_nil ?_
      obtain rfl := someI hF
      exact g_ret (rst rfl rs0) (fun h1 hf hs => ⟨(e5.trans (e6.trans hs.hext)), rfl⟩)
    ·
      replace hF := ifF hc7 hF
      refine go_skip ?_
      refine go_seq ?_
      refine go_seq ?_
      refine go_region ?_
      refine gAc rfl rfl ?_
      refine go_nil ?_
      replace hF := obind hF
      obtain ⟨s8, hF, hK8⟩ := hF
      refine go_joinc (β := (Unit)) (fun s h' => s8 = .go s) (fun s => [(0, true, .slice a0_0 p0.length c0_0), (3, true, .pointer (some ⟨b3_1, 0, none⟩)), (4, true, .bool false), (5, true, .bool true)]) (fun s => (List.flatten [[⟨b3_1, .cells [.string p1.From, .string p1.To] 24⟩]] : List Blk)) ?_ (fun J8 => ?_)
      ·
        rintro _ h8 e8 w8 hs8
        subst hs8
        replace hF := lpgo hK8
        refine go_seq ?_
        refine go_regions (L := [(0, []), (1, []), (2, []), (3, []), (5, []), (6, []), (4, [6]), (7, []), (8, []), (9, []), (10, []), (11, []), (13, []), (12, []), (14, []), (15, []), (16, []), (17, [])]) (by kernel_rfl) (by kernel_rfl) (fun _ => rfl) ?_
        refine go_sop rfl rfl ?_
        refine gM rfl rfl ?_
        refine go_nil ?_
        refine go_sop rfl rfl ?_
        refine gM rfl rfl ?_
        refine go_nil ?_
        refine go_sop rfl rfl ?_
        refine g_do rfl rfl rfl ?_
        refine gM rfl rfl ?_
        refine go_nil ?_
        refine go_sop rfl rfl ?_
        refine g_do rfl rfl rfl ?_
        refine gr rfl (r_load (ot rfl) (lm_w (mem_seg 0 rfl) ag_24 sz_24 rfl)) ?_
        refine go_nil ?_
        refine go_sop rfl rfl ?_
        refine g_do rfl rfl rfl ?_
        refine gM rfl rfl ?_
        refine go_nil ?_
        refine go_sop rfl rfl ?_
        refine g_do rfl rfl rfl ?_
        refine gr rfl (r_load (ot rfl) (lm_w (mem_seg 0 rfl) ag_24 sz_24 rfl)) ?_
        refine go_nil ?_
        refine go_sopc [(6, .agg #[.string p1.From, .string p1.To])] rfl rfl rfl (rc1 rfl (r_load (ot rfl) (lm_w (mem_seg 0 rfl) ag_24 sz_24 rfl)) rc0) (vq1 (veq_agg _ _ (va1 (veq_str _ _) (va1 (veq_str _ _) (va0 _)))) vq0) rfl ?_
        refine g_do rfl rfl rfl ?_
        replace hF := obind hF
        obtain ⟨x9, hx9, hF⟩ := hF
        refine g_call EE_fr (fun _ h => by cases h; rfl) of (os1 (ot rfl) (os1 (ot rfl) os0)) hb_14 (fun hf kn w => by exact s_event_Filter n w p0 p1 ((((f0_0.ext e5.kn).ext e6.kn).ext e8.kn).ext kn) hx9) ?_
        rintro v9 h9 e9 w9 ⟨a9_0, c9_0, rfl, f9_0⟩
        refine go_nil ?_
        refine go_rck (rc1 rfl (r_load (ot rfl) (lm_w (mem_seg 0 rfl) ag_24 sz_24 rfl)) rc0) ?_
        refine go_sop rfl rfl ?_
        refine g_do rfl rfl rfl ?_
        replace hF := obind hF
        obtain ⟨x10, hx10, hF⟩ := hF
        refine g_call EE_fr (fun _ h => by cases h; rfl) of (os1 (ot rfl) (os1 (ot rfl) os0)) hb_15 (fun hf kn w => by exact s_ref05_Filter w p0 p1 (((((f0_0.ext e5.kn).ext e6.kn).ext e8.kn).ext e9.kn).ext kn) hx10) ?_
        rintro v10 h10 e10 w10 ⟨a10_0, c10_0, rfl, f10_0⟩
        refine go_nil ?_
        refine go_sop rfl rfl ?_
        refine g_do rfl rfl rfl ?_
        replace hF := obind hF
        obtain ⟨x11, hx11, hF⟩ := hF
        refine g_callp (v := .bool x11) EE_fr rfl of (os1 (ot rfl) (os1 (ot rfl) os0)) hb_13 (fun _ => rfl) (fun hf kn w => by exact s_ref05_Events w x9 x10 ((f9_0.ext e10.kn).ext kn) (f10_0.ext kn) hx11) ?_
        refine go_nil ?_
        refine go_sop rfl rfl ?_
        refine gr rfl (r_pkT (ot rfl) (ot rfl)) ?_
        refine go_nil ?_
        refine go_sop rfl rfl ?_
        refine gM rfl rfl ?_
        refine go_nil ?_
        rcases Bool.eq_false_or_eq_true x11 with hb12 | hb12
        ·
          replace hF := ifT hb12 hF
          refine go_re 49 (v2 := .bool true) rfl (congrArg Value.bool hb12) ?_
          refine go_sop rfl rfl ?_
          refine g_do rfl rfl rfl ?_
          refine gM rfl rfl ?_
          refine go_nil ?_
          refine go_sop rfl rfl ?_
          refine g_do rfl rfl rfl ?_
          refine gM rfl rfl ?_
          refine go_nil ?_
          refine go_sop rfl rfl ?_
          refine g_do rfl rfl rfl ?_
          replace hF := obind hF
          obtain ⟨x13, hx13, hF⟩ := hF
          refine g_call EE_fr (fun _ h => by cases h; rfl) of (os1 (ot rfl) os0) hb_16 (fun hf kn w => by exact s_event_Last w p0 ((((((f0_0.ext e5.kn).ext e6.kn).ext e8.kn).ext e9.kn).ext e10.kn).ext kn) hx13) ?_
          rintro v13 h13 e13 w13 ⟨a13_0, c13_0, rfl, f13_0⟩
          refine go_nil ?_
          refine go_sop rfl rfl ?_
          refine g_do rfl rfl rfl ?_
          replace hF := obind hF
          obtain ⟨x14, hx14, hF⟩ := hF
          refine g_call EE_fr (fun _ h => by cases h; rfl) of (os1 (ot rfl) os0) hb_17 (fun hf kn w => by exact s_ref05_Last n w p0 (((((((f0_0.ext e5.kn).ext e6.kn).ext e8.kn).ext e9.kn).ext e10.kn).ext e13.kn).ext kn) hx14) ?_
          rintro v14 h14 e14 w14 ⟨a14_0, c14_0, rfl, f14_0⟩
          refine go_nil ?_
          refine go_sop rfl rfl ?_
          refine g_do rfl rfl rfl ?_
          replace hF := obind hF
          obtain ⟨x15, hx15, hF⟩ := hF
          refine g_callp (v := .bool x15) EE_fr rfl of (os1 (ot rfl) (os1 (ot rfl) os0)) hb_13 (fun _ => rfl) (fun hf kn w => by exact s_ref05_Events w x13 x14 ((f13_0.ext e14.kn).ext kn) (f14_0.ext kn) hx15) ?_
          refine go_nil ?_
          refine go_sop rfl rfl ?_
          refine gr rfl (r_pkT (ot rfl) (ot rfl)) ?_
          refine go_nil ?_
          refine go_sop rfl rfl ?_
          refine gA rfl rfl ?_
          refine go_nil ?_
          refine go_snil ?_
          obtain rfl := someI hF
          exact g_ret (rst rfl rs0) (fun h1 hf hs => ⟨(e5.trans (e6.trans (e8.trans (e9.trans (e10.trans (e13.trans (e14.trans hs.hext))))))), rfl⟩)
        ·
          replace hF := ifF hb12 hF
          refine go_re 49 (v2 := .bool false) rfl (congrArg Value.bool hb12) ?_
          refine go_sskip rfl (w_no rfl rfl rfl rfl rfl) ?_
          refine g_no rfl rfl rfl rfl rfl ?_
          refine go_nil ?_
          refine go_sskip rfl (w_no rfl rfl rfl rfl rfl) ?_
          refine g_no rfl rfl rfl rfl rfl ?_
          refine go_nil ?_
          refine go_sskip rfl (w_no rfl rfl rfl rfl rfl) ?_
          refine g_no rfl rfl rfl rfl rfl ?_
          refine go_nil ?_
          refine go_sskip rfl (w_no rfl rfl rfl rfl rfl) ?_
          refine g_no rfl rfl rfl rfl rfl ?_
          refine go_nil ?_
          refine go_sskip rfl (w_no rfl rfl rfl rfl rfl) ?_
          refine g_no rfl rfl rfl rfl rfl ?_
          refine go_nil ?_
          refine go_sop rfl rfl ?_
          refine gr rfl (r_pkF (ot rfl) (oc rfl)) ?_
          refine go_nil ?_
          refine go_sop rfl rfl ?_
          refine gA rfl rfl ?_
          refine go_nil ?_
          refine go_snil ?_
          obtain rfl := someI hF
          exact g_ret (rst rfl rs0) (fun h1 hf hs => ⟨(e5.trans (e6.trans (e8.trans (e9.trans (e10.trans hs.hext))))), rfl⟩)
      ·
        refine go_block ?_
        refine go_loop (α := (List (List TEvent)) × Nat × Heap) (fun a => a.1 = List.drop a.2.1 x5 ∧ HExt h6 a.2.2 ∧ Wf a.2.2 ∧ F_law05_EventTells_L1 x6 a.1 a.2.1 = some s8) (fun a => a.1.length) (fun a => [(0, true, .slice a0_0 p0.length c0_0), (3, true, .pointer (some ⟨b3_1, 0, none⟩)), (4, true, .bool false), (5, true, .bool true), (6, true, .slice a5_0 x5.length c5_0), (7, true, .slice a6_0 x6.length c6_0), (8, true, .int .i64 (a.2.1 : Int))]) (fun a => (List.flatten [[⟨b3_1, .cells [.string p1.From, .string p1.To] 24⟩]] : List Blk)) (fun a => a.2.2) ?_ (x5, 0, h6) ⟨rfl, HExt.refl _, w6, hF⟩ (Sub.cons (Sub.cons (Sub.cons (Sub.cons (Sub.cons (Sub.cons (Sub.cons (Sub.nil _) rfl) rfl) rfl) rfl) rfl) rfl) rfl) rfl rfl
        rintro ⟨r16, i16, h16⟩ ⟨hr16, e16, w16, hF⟩ ih16
        rcases r16 with _ | ⟨z16, r16⟩
        ·
          have hi16 := drop_nil hr16
          rw [F_law05_EventTells_L1.eq_1] at hF
          refine go_seq ?_
          refine go_seq ?_
          refine go_region ?_
          refine gM rfl rfl ?_
          refine gM rfl rfl ?_
          refine gr rfl (r_len rfl (os1 (ot rfl) os0) (fun _ _ => ln_27)) ?_
          refine gr rfl (r_bin (ot rfl) (ot rfl) rfl) ?_
          refine go_cast (.bool false) (congrArg Value.bool (decide_eq_false hi16)) ?_
          refine go_nil ?_
          refine g_cond (b := false) (ot rfl) (fun hc17 => ?_) (fun hc17 => ?_)
          · cases hc17
          refine go_exit rfl ?_
          obtain rfl := someI hF
          exact Goes.weak (J8 () _ e16 w16 rfl) (Sub.cons (Sub.cons (Sub.cons (Sub.cons (Sub.nil _) rfl) rfl) rfl) rfl)
        ·
          obtain ⟨hi16, hx16, hr16⟩ := drop_cons hr16
          have hb16 := ((f5_0.ext e6.kn).ext e16.kn).1
          rw [F_law05_EventTells_L1.eq_2] at hF
          refine go_seq ?_
          refine go_seq ?_
          refine go_region ?_
          refine gM rfl rfl ?_
          refine gM rfl rfl ?_
          refine gr rfl (r_len rfl (os1 (ot rfl) os0) (fun _ _ => ln_27)) ?_
          refine gr rfl (r_bin (ot rfl) (ot rfl) rfl) ?_
          refine go_cast (.bool true) (congrArg Value.bool (decide_eq_true (Int.ofNat_lt.mpr hi16))) ?_
          refine go_nil ?_
          refine g_cond (b := true) (ot rfl) (fun hc18 => ?_) (fun hc18 => ?_)
          rotate_left
          · cases hc18
          refine go_skip ?_
          refine go_seq ?_
          refine go_block ?_
          refine go_seq ?_
          refine go_regions (L := [(0, []), (1, []), (2, []), (3, []), (4, []), (5, []), (6, []), (7, []), (8, []), (9, [])]) (by kernel_rfl) (by kernel_rfl) (fun _ => rfl) ?_
          refine go_sop rfl rfl ?_
          refine gM rfl rfl ?_
          refine go_nil ?_
          refine go_sop rfl rfl ?_
          refine gM rfl rfl ?_
          refine go_nil ?_
          refine go_sop rfl rfl ?_
          obtain ⟨q19, row19, i19, cl19, rc19, sp19⟩ := ix (ik := .i64) (cap := c5_0) (E := EE) ((f5_0.ext e6.kn).ext e16.kn) ((getI_nat _ _).trans hx16) ut_27 sz_22 rfl
          obtain ⟨a19_0, c19_0, rfl, f19_0⟩ := rc19
          refine gr rfl (r_ia (ot rfl) (ot rfl) i19) ?_
          refine go_nil ?_
          refine go_sop rfl rfl ?_
          refine gr rfl (r_load (ot rfl) (v := .slice a19_0 z16.length c19_0) (lo_e (fun hf kn => ld_one ag_22 (kn.cellsAt cl19)))) ?_
          refine go_nil ?_
          refine go_sop rfl rfl ?_
          refine gM rfl rfl ?_
          refine go_nil ?_
          refine go_sop rfl rfl ?_
          refine gM rfl rfl ?_
          refine go_nil ?_
          refine go_sop rfl rfl ?_
          replace hF := obind hF
          obtain ⟨x20, hx20, hF⟩ := hF
          obtain ⟨q20, row20, i20, cl20, rc20, sp20⟩ := ix (ik := .i64) (cap := c6_0) (E := EE) (f6_0.ext e16.kn) hx20 ut_27 sz_22 rfl
          obtain ⟨a20_0, c20_0, rfl, f20_0⟩ := rc20
          refine gr rfl (r_ia (ot rfl) (ot rfl) i20) ?_
          refine go_nil ?_
          refine go_sop rfl rfl ?_
          refine gr rfl (r_load (ot rfl) (v := .slice a20_0 x20.length c20_0) (lo_e (fun hf kn => ld_one ag_22 (kn.cellsAt cl20)))) ?_
          refine go_nil ?_
          refine go_sop rfl rfl ?_
          replace hF := obind hF
          obtain ⟨x21, hx21, hF⟩ := hF
          refine g_callp (v := .bool x21) EE_fr rfl of (os1 (ot rfl) (os1 (ot rfl) os0)) hb_13 (fun _ => rfl) (fun hf kn w => by exact s_ref05_Events w z16 x20 (f19_0.ext kn) (f20_0.ext kn) hx21) ?_
          refine go_nil ?_
          refine go_sop rfl rfl ?_
          refine gr rfl (r_un (ot rfl) rfl) ?_
          refine go_nil ?_
          refine go_snil ?_
          refine g_cond (b := (!x21)) (ot rfl) (fun hc22 => ?_) (fun hc22 => ?_)
          ·
            replace hF := ifT hc22 hF
            refine go_seq ?_
            refine go_region ?_
            refine gAc rfl rfl ?_
            refine go_nil ?_
            obtain rfl := someI hF
            obtain rfl := someI hK8
            exact g_ret (rst rfl rs0) (fun h1 hf hs => ⟨(e5.trans (e6.trans (e16.trans hs.hext))), rfl⟩)
          ·
            replace hF := ifF hc22 hF
            refine go_skip ?_
            refine go_endb ?_
            refine go_region ?_
            refine gM rfl rfl ?_
            refine gr rfl (r_bin (ot rfl) (oc rfl) rfl) ?_
            refine gA rfl rfl ?_
            refine go_nil ?_
            refine go_re 8 (v2 := .int .i64 ((i16 + 1 : Nat) : Int)) rfl (wrap_succ hi16 hb16) ?_
            exact Goes.weak (ih16 (r16, i16 + 1, h16) ⟨hr16, e16, w16, hF⟩ (Nat.lt_succ_self _)) (Sub.cons (Sub.cons (Sub.cons (Sub.cons (Sub.cons (Sub.cons (Sub.cons (Sub.nil _) rfl) rfl) rfl) rfl) rfl) rfl) rfl)
end Go.Proofs.Ytcjcbcmapjcfnaa.V
