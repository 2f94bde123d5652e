/- Walks.
   No condition: these are laws of the clean machine and of this program. -/
import Derived.Test.YtpfdandpmpmbiaaPT
import Derived.Test.YtpfdandpmpmbiaaWs
namespace Go.Proofs.Ytpfdandpmpmbiaa.V
open Go
set_option linter.unusedVariables false
set_option linter.unusedSimpArgs false
set_option maxRecDepth 100000
set_option maxHeartbeats 4000000
theorem s_ref05_One (n : Nat) {h : Heap} (hw : Wf h) (p0 : (List TKV)) (p1 : TEvent) {a0_0 : Option Addr} {c0_0 : Nat} (f0_0 : RL R_TKV h a0_0 c0_0 p0) {r : (List TKV)} (hF : F_ref05_One n p0 p1 = some r) :
    Ev EE 125 [.slice a0_0 p0.length c0_0, .agg #[.int .i64 p1.Rev, .string p1.Key, .string p1.Val, .bool p1.Del]] h (fun v h1 => ∃ a0 c0, v = .slice a0 r.length c0 ∧ RL R_TKV h1 a0 c0 r) := by
  unfold F_ref05_One at hF
  refine ev_of hw rfl at_125 rfl rfl (go_seg0 ?_)
  refine go_seq ?_
  refine go_region ?_
  refine gs_box rfl (ot rfl) rfl ?_; intro b3_1
  refine gAc rfl rfl ?_
  refine go_nil ?_
  refine go_seq ?_
  refine go_region ?_
  refine gAc rfl rfl ?_
  refine go_nil ?_
  refine go_seq ?_
  refine go_region ?_
  refine gAc rfl rfl ?_
  refine go_nil ?_
  refine go_seq ?_
  replace hF := obind hF
  obtain ⟨s2, hF, hK2⟩ := hF
  refine go_joinc (β := Option Addr × List Blk) (fun s h' => AccR R_TKV 47 h' s.2 (.slice s.1 s2.1.length s2.1.length) s2.1) (fun s => [(0, true, .slice a0_0 p0.length c0_0), (3, true, .pointer (some ⟨b3_1, 0, none⟩)), (4, true, .slice none 0 0), (5, true, .slice s.1 s2.1.length s2.1.length), (6, true, .int .i64 s2.2)]) (fun s => (List.flatten [s.2, [⟨b3_1, .cells [.int .i64 p1.Rev, .string p1.Key, .string p1.Val, .bool p1.Del] 108⟩]] : List Blk)) ?_ (fun J2 => ?_)
  ·
    rintro ⟨a2_0, a2_1⟩ h2 e2 w2 f2_0
    replace hF := hK2
    refine go_seq ?_
    refine go_seq ?_
    refine go_region ?_
    refine gr rfl (r_fa (ot rfl) (fa_108_3 _ _)) ?_
    refine gr rfl (r_load (ot rfl) (lm_s (mem_seg 1 rfl) ag_4 rfl)) ?_
    refine gr rfl (r_un (ot rfl) rfl) ?_
    refine go_nil ?_
    replace hF := obind hF
    obtain ⟨s4, hF, hK4⟩ := hF
    refine go_joinc (β := Option Addr × List Blk) (fun s h' => AccR R_TKV 47 h' s.2 (.slice s.1 s4.length s4.length) s4) (fun s => [(0, true, .slice a0_0 p0.length c0_0), (3, true, .pointer (some ⟨b3_1, 0, none⟩)), (4, true, .slice none 0 0), (5, true, .slice s.1 s4.length s4.length), (6, true, .int .i64 s2.2)]) (fun s => (List.flatten [s.2, [⟨b3_1, .cells [.int .i64 p1.Rev, .string p1.Key, .string p1.Val, .bool p1.Del] 108⟩]] : List Blk)) ?_ (fun J4 => ?_)
    ·
      rintro ⟨a4_0, a4_1⟩ h4 e4 w4 f4_0
      replace hF := hK4
      refine go_seq ?_
      refine go_seq ?_
      refine go_region ?_
      refine gM rfl rfl ?_
      refine gA rfl rfl ?_
      refine go_nil ?_
      replace hF := obind hF
      obtain ⟨s5, hF, hK5⟩ := hF
      refine go_joinc (β := Option Addr × List Blk) (fun s h' => AccR R_TKV 47 h' s.2 (.slice s.1 s5.length s5.length) s5) (fun s => [(4, true, .slice none 0 0), (5, true, .slice s.1 s5.length s5.length)]) (fun s => (List.flatten [s.2, [⟨b3_1, .cells [.int .i64 p1.Rev, .string p1.Key, .string p1.Val, .bool p1.Del] 108⟩]] : List Blk)) ?_ (fun J5 => ?_)
      ·
        rintro ⟨a5_0, a5_1⟩ h5 e5 w5 f5_0
        replace hF := hK5
        refine go_seq ?_
        refine go_region ?_
        refine gM rfl rfl ?_
        refine gA rfl rfl ?_
        refine go_nil ?_
        refine gs_accpub .z f5_0 (fun h6 e6 w6 f6_ => ?_) rfl
        obtain rfl := someI hF
        exact g_ret (rst rfl rs0) (fun h1 hf hs => ⟨(e2.trans (e4.trans (e5.trans (e6.trans hs.hext)))), ⟨_, _, rfl, (f6_.ext hs.hext.kn)⟩⟩)
      ·
        refine go_block ?_
        refine go_loop (α := Nat × (List TKV) × Int × Option Addr × List Blk × Heap) (fun a => HExt h4 a.2.2.2.2.2 ∧ Wf a.2.2.2.2.2 ∧ F_ref05_One_L1 p0 p1 a.1 a.2.1 a.2.2.1 = some s5 ∧ AccR R_TKV 47 a.2.2.2.2.2 a.2.2.2.2.1 (.slice a.2.2.2.1 a.2.1.length a.2.1.length) a.2.1) (fun a => a.1) (fun a => [(0, true, .slice a0_0 p0.length c0_0), (3, true, .pointer (some ⟨b3_1, 0, none⟩)), (4, true, .slice none 0 0), (5, true, .slice a.2.2.2.1 a.2.1.length a.2.1.length), (7, true, .int .i64 a.2.2.1)]) (fun a => (List.flatten [a.2.2.2.2.1, [⟨b3_1, .cells [.int .i64 p1.Rev, .string p1.Key, .string p1.Val, .bool p1.Del] 108⟩]] : List Blk)) (fun a => a.2.2.2.2.2) ?_ (n, s4, s2.2, a4_0, a4_1, h4) ⟨HExt.refl _, w4, hF, f4_0⟩ (Sub.cons (Sub.cons (Sub.cons (Sub.cons (Sub.cons (Sub.nil _) rfl) rfl) rfl) rfl) rfl) rfl rfl
        rintro ⟨m7, y7_0, y7_1, a7_0, a7_1, h7⟩ ⟨e7, w7, hF, f7_0⟩ ih7
        rcases m7 with _ | m7
        ·
          rw [F_ref05_One_L1.eq_1] at hF; cases hF
        ·
          rw [F_ref05_One_L1.eq_2] at hF
          refine go_seq ?_
          refine go_seq ?_
          refine go_region ?_
          refine gM rfl rfl ?_
          refine gM rfl rfl ?_
          refine gr rfl (r_len rfl (os1 (ot rfl) os0) (fun _ _ => ln_28)) ?_
          refine gr rfl (r_bin (ot rfl) (ot rfl) rfl) ?_
          refine go_nil ?_
          refine g_cond (b := (decide (y7_1 < (p0.length : Int)))) (ot rfl) (fun hc8 => ?_) (fun hc8 => ?_)
          ·
            replace hF := ifT hc8 hF
            refine go_skip ?_
            refine go_seq ?_
            refine go_block ?_
            refine go_seq ?_
            refine go_regionq (by kernel_rfl) ?_
            refine gM rfl rfl ?_
            refine gM rfl rfl ?_
            replace hF := obind hF
            obtain ⟨x9, hx9, hF⟩ := hF
            obtain ⟨q9, row9, i9, cl9, rc9, sp9⟩ := ix (ik := .i64) (cap := c0_0) (E := EE) (((f0_0.ext e2.kn).ext e4.kn).ext e7.kn) hx9 ut_28 sz_47 rfl
            obtain rfl := rc9
            refine gr rfl (r_ia (ot rfl) (ot rfl) i9) ?_
            refine gr rfl (r_fa (ot rfl) (fs_47_0 sp9)) ?_
            refine gr rfl (r_load (ot rfl) (v := .string x9.Key) (lo_e (fun hf kn => ld_field (r := [.string x9.Key, .string x9.Val, .int .i64 x9.Rev]) ag_9 (kn.cellsAt cl9) rfl))) ?_
            refine gr rfl (r_fa (ot rfl) (fa_108_1 _ _)) ?_
            refine gr rfl (r_load (ot rfl) (lm_s (mem_seg 1 rfl) ag_9 rfl)) ?_
            refine gr rfl (r_bin (ot rfl) (ot rfl) rfl) ?_
            refine go_nil ?_
            replace hF := obind hF
            obtain ⟨s11, hF, hK11⟩ := hF
            refine go_joinc (β := Option Addr × List Blk) (fun s h' => AccR R_TKV 47 h' s.2 (.slice s.1 s11.length s11.length) s11) (fun s => [(0, true, .slice a0_0 p0.length c0_0), (3, true, .pointer (some ⟨b3_1, 0, none⟩)), (4, true, .slice none 0 0), (5, true, .slice s.1 s11.length s11.length), (7, true, .int .i64 y7_1), (45, true, .int .i64 y7_1), (46, true, .slice a0_0 p0.length c0_0), (47, true, .int .i64 (p0.length : Int)), (48, true, .bool (decide (y7_1 < (p0.length : Int)))), (51, true, .slice a0_0 p0.length c0_0), (52, true, .int .i64 y7_1), (53, true, .pointer (some q9)), (54, true, .pointer (some ⟨q9.block, q9.off + 0, q9.spot⟩)), (55, true, .string x9.Key), (56, true, .pointer (some ⟨b3_1, 1, none⟩)), (57, true, .string p1.Key), (58, true, .bool (!eqB x9.Key p1.Key))]) (fun s => (List.flatten [s.2, [⟨b3_1, .cells [.int .i64 p1.Rev, .string p1.Key, .string p1.Val, .bool p1.Del] 108⟩]] : List Blk)) ?_ (fun J11 => ?_)
            ·
              rintro ⟨a11_0, a11_1⟩ h11 e11 w11 f11_0
              replace hF := hK11
              refine go_endb ?_
              refine go_region ?_
              refine gM rfl rfl ?_
              refine gr rfl (r_bin (ot rfl) (oc rfl) rfl) ?_
              refine gA rfl rfl ?_
              refine go_nil ?_
              exact Goes.weak (ih7 (m7, s11, (IntKind.i64.wrap (y7_1 + 1)), a11_0, a11_1, h11) ⟨(e7.trans e11), w11, hF, f11_0⟩ (Nat.lt_succ_self _)) (Sub.cons (Sub.cons (Sub.cons (Sub.cons (Sub.cons (Sub.nil _) rfl) rfl) rfl) rfl) rfl)
            ·
              refine g_cond (b := (!eqB x9.Key p1.Key)) (ot rfl) (fun hc10 => ?_) (fun hc10 => ?_)
              ·
                replace hF := ifT hc10 hF
                refine go_region ?_
                refine gM rfl rfl ?_
                refine gM rfl rfl ?_
                refine gM rfl rfl ?_
                replace hF := obind hF
                obtain ⟨x12, hx12, hF⟩ := hF
                obtain ⟨q12, row12, i12, cl12, rc12, sp12⟩ := ix (ik := .i64) (cap := c0_0) (E := EE) (((f0_0.ext e2.kn).ext e4.kn).ext e7.kn) hx12 ut_28 sz_47 rfl
                obtain rfl := rc12
                refine gr rfl (r_ia (ot rfl) (ot rfl) i12) ?_
                refine gr rfl (r_load (ot rfl) (v := .agg #[.string x12.Key, .string x12.Val, .int .i64 x12.Rev]) (lo_e (fun hf kn => ld_of (r := [.string x12.Key, .string x12.Val, .int .i64 x12.Rev]) ag_47 sz_47 (kn.cellsAt cl12)))) ?_
                refine gs_bslice (cs := [.string x12.Key, .string x12.Val, .int .i64 x12.Rev]) rfl (op1 (ot rfl) op0) ut_28 sz_47 zo_47 rfl rfl ?_; intro b64_13
                replace hF := obind hF
                obtain ⟨x14, hx14, hF⟩ := hF
                obtain ⟨hr14, hz14_⟩ := appL_some hx14; subst x14
                refine gs_front (.s (.z)) ?_
                refine gs_app (rows2 := [[.string x12.Key, .string x12.Val, .int .i64 x12.Rev]]) (R := R_TKV) rfl (os1 (ot rfl) (os1 (ot rfl) os0)) rfl ut_28 sz_47 rfl (by decide) by_47 zo_47 rfl zs_28_28 rfl rfl (first_m (mem_seg 1 rfl) rfl (by decide)) (Rws.one (x := x12) rfl) f7_0 hr14 (fun p14_ tl14 f14_ => ?_)
                refine gA rfl rfl ?_
                refine go_nil ?_
                obtain rfl := someI hF
                refine gs_sub (.cons_cons _ (.cons _ (.cons_cons _ (.refl _)))) ?_
                exact Goes.weak (J11 (p14_, tl14) _ (HExt.refl _) w7 f14_) (Sub.cons (Sub.cons (Sub.cons (Sub.cons (Sub.cons (Sub.cons (Sub.cons (Sub.cons (Sub.cons (Sub.cons (Sub.cons (Sub.cons (Sub.cons (Sub.cons (Sub.cons (Sub.cons (Sub.cons (Sub.nil _) rfl) rfl) rfl) rfl) rfl) rfl) rfl) rfl) rfl) rfl) rfl) rfl) rfl) rfl) rfl) rfl) rfl)
              ·
                replace hF := ifF hc10 hF
                refine go_skip ?_
                obtain rfl := someI hF
                exact Goes.weak (J11 (a7_0, a7_1) _ (HExt.refl _) w7 f7_0) (Sub.cons (Sub.cons (Sub.cons (Sub.cons (Sub.cons (Sub.cons (Sub.cons (Sub.cons (Sub.cons (Sub.cons (Sub.cons (Sub.cons (Sub.cons (Sub.cons (Sub.cons (Sub.cons (Sub.cons (Sub.nil _) rfl) rfl) rfl) rfl) rfl) rfl) rfl) rfl) rfl) rfl) rfl) rfl) rfl) rfl) rfl) rfl) rfl)
          ·
            replace hF := ifF hc8 hF
            refine go_exit rfl ?_
            obtain rfl := someI hF
            exact Goes.weak (J5 (a7_0, a7_1) _ e7 w7 f7_0) (Sub.cons (Sub.cons (Sub.nil _) rfl) rfl)
    ·
      refine g_cond (b := (!p1.Del)) (ot rfl) (fun hc3 => ?_) (fun hc3 => ?_)
      ·
        replace hF := ifT hc3 hF
        refine go_region ?_
        refine gM rfl rfl ?_
        refine gr rfl (r_fa (ot rfl) (fa_108_1 _ _)) ?_
        refine gr rfl (r_load (ot rfl) (lm_s (mem_seg 1 rfl) ag_9 rfl)) ?_
        refine gr rfl (r_fa (ot rfl) (fa_108_2 _ _)) ?_
        refine gr rfl (r_load (ot rfl) (lm_s (mem_seg 1 rfl) ag_9 rfl)) ?_
        refine gr rfl (r_fa (ot rfl) (fa_108_0 _ _)) ?_
        refine gr rfl (r_load (ot rfl) (lm_s (mem_seg 1 rfl) ag_3 rfl)) ?_
        refine gr rfl (r_build (op1 (ot rfl) (op1 (ot rfl) (op1 (ot rfl) op0))) rfl) ?_
        refine gs_bslice (cs := [.string p1.Key, .string p1.Val, .int .i64 p1.Rev]) rfl (op1 (ot rfl) op0) ut_28 sz_47 zo_47 rfl rfl ?_; intro b42_15
        replace hF := obind hF
        obtain ⟨x16, hx16, hF⟩ := hF
        obtain ⟨hr16, hz16_⟩ := appL_some hx16; subst x16
        refine gs_front (.s (.z)) ?_
        refine gs_app (rows2 := [[.string p1.Key, .string p1.Val, .int .i64 p1.Rev]]) (R := R_TKV) rfl (os1 (ot rfl) (os1 (ot rfl) os0)) rfl ut_28 sz_47 rfl (by decide) by_47 zo_47 rfl zs_28_28 rfl rfl (first_m (mem_seg 1 rfl) rfl (by decide)) (Rws.one (x := (⟨p1.Key, p1.Val, p1.Rev⟩ : TKV)) rfl) f2_0 hr16 (fun p16_ tl16 f16_ => ?_)
        refine gA rfl rfl ?_
        refine go_nil ?_
        obtain rfl := someI hF
        refine gs_sub (.cons_cons _ (.cons _ (.cons_cons _ (.refl _)))) ?_
        exact Goes.weak (J4 (p16_, tl16) _ (HExt.refl _) w2 f16_) (Sub.cons (Sub.cons (Sub.cons (Sub.cons (Sub.cons (Sub.nil _) rfl) rfl) rfl) rfl) rfl)
      ·
        replace hF := ifF hc3 hF
        refine go_skip ?_
        obtain rfl := someI hF
        exact Goes.weak (J4 (a2_0, a2_1) _ (HExt.refl _) w2 f2_0) (Sub.cons (Sub.cons (Sub.cons (Sub.cons (Sub.cons (Sub.nil _) rfl) rfl) rfl) rfl) rfl)
  ·
    refine go_block ?_
    refine go_loop (α := (List TKV) × Nat × (List TKV) × Option Addr × List Blk × Heap) (fun a => a.1 = List.drop a.2.1 p0 ∧ HExt h a.2.2.2.2.2 ∧ Wf a.2.2.2.2.2 ∧ F_ref05_One_L2 p1 a.1 a.2.1 a.2.2.1 = some s2 ∧ AccR R_TKV 47 a.2.2.2.2.2 a.2.2.2.2.1 (.slice a.2.2.2.1 a.2.2.1.length a.2.2.1.length) a.2.2.1) (fun a => a.1.length) (fun a => [(0, true, .slice a0_0 p0.length c0_0), (3, true, .pointer (some ⟨b3_1, 0, none⟩)), (4, true, .slice none 0 0), (5, true, .slice a.2.2.2.1 a.2.2.1.length a.2.2.1.length), (6, true, .int .i64 (a.2.1 : Int))]) (fun a => (List.flatten [a.2.2.2.2.1, [⟨b3_1, .cells [.int .i64 p1.Rev, .string p1.Key, .string p1.Val, .bool p1.Del] 108⟩]] : List Blk)) (fun a => a.2.2.2.2.2) ?_ (p0, 0, ([] : List TKV), none, [], h) ⟨rfl, HExt.refl _, hw, hF, (AccR.nil _ _ _)⟩ (Sub.cons (Sub.cons (Sub.cons (Sub.cons (Sub.cons (Sub.nil _) rfl) rfl) rfl) rfl) rfl) rfl rfl
    rintro ⟨r17, i17, y17_0, a17_0, a17_1, h17⟩ ⟨hr17, e17, w17, hF, f17_0⟩ ih17
    rcases r17 with _ | ⟨z17, r17⟩
    ·
      have hi17 := drop_nil hr17
      rw [F_ref05_One_L2.eq_1] at hF
      refine go_seq ?_
      refine go_seq ?_
      refine go_regionq (by kernel_rfl) ?_
      refine gM rfl rfl ?_
      refine gM rfl rfl ?_
      refine gr rfl (r_len rfl (os1 (ot rfl) os0) (fun _ _ => ln_28)) ?_
      refine gr rfl (r_bin (ot rfl) (ot rfl) rfl) ?_
      refine go_cast (.bool false) (congrArg Value.bool (decide_eq_false hi17)) ?_
      refine gM rfl rfl ?_
      refine g_no rfl rfl rfl rfl rfl ?_
      refine g_no rfl rfl rfl rfl rfl ?_
      refine g_no rfl rfl rfl rfl rfl ?_
      refine g_no rfl rfl rfl rfl rfl ?_
      refine g_no rfl rfl rfl rfl rfl ?_
      refine g_no rfl rfl rfl rfl rfl ?_
      refine g_no rfl rfl rfl rfl rfl ?_
      refine g_no rfl rfl rfl rfl rfl ?_
      refine gr rfl (r_pkF (ot rfl) (oc rfl)) ?_
      refine go_nil ?_
      refine g_cond (b := false) (ot rfl) (fun hc18 => ?_) (fun hc18 => ?_)
      · cases hc18
      refine go_exit rfl ?_
      obtain rfl := someI hF
      exact Goes.weak (J2 (a17_0, a17_1) _ e17 w17 f17_0) (Sub.cons (Sub.cons (Sub.cons (Sub.cons (Sub.cons (Sub.nil _) rfl) rfl) rfl) rfl) rfl)
    ·
      obtain ⟨hi17, hx17, hr17⟩ := drop_cons hr17
      have hb17 := (f0_0.ext e17.kn).1
      rw [F_ref05_One_L2.eq_2] at hF
      refine go_seq ?_
      refine go_seq ?_
      refine go_regionq (by kernel_rfl) ?_
      refine gM rfl rfl ?_
      refine gM rfl rfl ?_
      refine gr rfl (r_len rfl (os1 (ot rfl) os0) (fun _ _ => ln_28)) ?_
      refine gr rfl (r_bin (ot rfl) (ot rfl) rfl) ?_
      refine go_cast (.bool true) (congrArg Value.bool (decide_eq_true (Int.ofNat_lt.mpr hi17))) ?_
      refine gM rfl rfl ?_
      refine g_do rfl rfl rfl ?_
      refine gM rfl rfl ?_
      refine g_do rfl rfl rfl ?_
      refine gM rfl rfl ?_
      refine g_do rfl rfl rfl ?_
      obtain ⟨q19, row19, i19, cl19, rc19, sp19⟩ := ix (ik := .i64) (cap := c0_0) (E := EE) (f0_0.ext e17.kn) ((getI_nat _ _).trans hx17) ut_28 sz_47 rfl
      obtain rfl := rc19
      refine gr rfl (r_ia (ot rfl) (ot rfl) i19) ?_
      refine g_do rfl rfl rfl ?_
      refine gr rfl (r_fa (ot rfl) (fs_47_0 sp19)) ?_
      refine g_do rfl rfl rfl ?_
      refine gr rfl (r_load (ot rfl) (v := .string z17.Key) (lo_e (fun hf kn => ld_field (r := [.string z17.Key, .string z17.Val, .int .i64 z17.Rev]) ag_9 (kn.cellsAt cl19) rfl))) ?_
      refine g_do rfl rfl rfl ?_
      refine gr rfl (r_fa (ot rfl) (fa_108_1 _ _)) ?_
      refine g_do rfl rfl rfl ?_
      refine gr rfl (r_load (ot rfl) (lm_s (mem_seg 1 rfl) ag_9 rfl)) ?_
      refine g_do rfl rfl rfl ?_
      refine gr rfl (r_bin (ot rfl) (ot rfl) rfl) ?_
      refine gr rfl (r_pkT (ot rfl) (ot rfl)) ?_
      refine go_nil ?_
      refine g_cond (b := (lessB z17.Key p1.Key)) (ot rfl) (fun hc20 => ?_) (fun hc20 => ?_)
      ·
        replace hF := ifT hc20 hF
        refine go_skip ?_
        refine go_block ?_
        refine go_seq ?_
        refine go_region ?_
        refine gM rfl rfl ?_
        refine gM rfl rfl ?_
        refine gM rfl rfl ?_
        obtain ⟨q21, row21, i21, cl21, rc21, sp21⟩ := ix (ik := .i64) (cap := c0_0) (E := EE) (f0_0.ext e17.kn) ((getI_nat _ _).trans hx17) ut_28 sz_47 rfl
        obtain rfl := rc21
        refine gr rfl (r_ia (ot rfl) (ot rfl) i21) ?_
        refine gr rfl (r_load (ot rfl) (v := .agg #[.string z17.Key, .string z17.Val, .int .i64 z17.Rev]) (lo_e (fun hf kn => ld_of (r := [.string z17.Key, .string z17.Val, .int .i64 z17.Rev]) ag_47 sz_47 (kn.cellsAt cl21)))) ?_
        refine gs_bslice (cs := [.string z17.Key, .string z17.Val, .int .i64 z17.Rev]) rfl (op1 (ot rfl) op0) ut_28 sz_47 zo_47 rfl rfl ?_; intro b27_22
        replace hF := obind hF
        obtain ⟨x23, hx23, hF⟩ := hF
        obtain ⟨hr23, hz23_⟩ := appL_some hx23; subst x23
        refine gs_front (.s (.z)) ?_
        refine gs_app (rows2 := [[.string z17.Key, .string z17.Val, .int .i64 z17.Rev]]) (R := R_TKV) rfl (os1 (ot rfl) (os1 (ot rfl) os0)) rfl ut_28 sz_47 rfl (by decide) by_47 zo_47 rfl zs_28_28 rfl rfl (first_m (mem_seg 1 rfl) rfl (by decide)) (Rws.one (x := z17) rfl) f17_0 hr23 (fun p23_ tl23 f23_ => ?_)
        refine gA rfl rfl ?_
        refine go_nil ?_
        refine go_region ?_
        refine gM rfl rfl ?_
        refine gr rfl (r_bin (ot rfl) (oc rfl) rfl) ?_
        refine gA rfl rfl ?_
        refine go_nil ?_
        refine go_endb ?_
        refine gs_sub (.cons_cons _ (.cons _ (.cons_cons _ (.refl _)))) ?_
        refine go_re 6 (v2 := .int .i64 ((i17 + 1 : Nat) : Int)) rfl (wrap_succ hi17 hb17) ?_
        exact Goes.weak (ih17 (r17, i17 + 1, (y17_0 ++ ([z17] : List TKV)), p23_, tl23, h17) ⟨hr17, e17, w17, hF, f23_⟩ (Nat.lt_succ_self _)) (Sub.cons (Sub.cons (Sub.cons (Sub.cons (Sub.cons (Sub.nil _) rfl) rfl) rfl) rfl) rfl)
      ·
        replace hF := ifF hc20 hF
        refine go_exit rfl ?_
        obtain rfl := someI hF
        exact Goes.weak (J2 (a17_0, a17_1) _ e17 w17 f17_0) (Sub.cons (Sub.cons (Sub.cons (Sub.cons (Sub.cons (Sub.nil _) rfl) rfl) rfl) rfl) rfl)
theorem s_ref05_Fold (n : Nat) {h : Heap} (hw : Wf h) (p0 : (List TKV)) (p1 : (List TEvent)) {a0_0 : Option Addr} {c0_0 : Nat} {a1_0 : Option Addr} {c1_0 : Nat} (f0_0 : RL R_TKV h a0_0 c0_0 p0) (f1_0 : RL R_TEvent h a1_0 c1_0 p1) {r : (List TKV)} (hF : F_ref05_Fold n p0 p1 = some r) :
    Ev EE 108 [.slice a0_0 p0.length c0_0, .slice a1_0 p1.length c1_0] h (fun v h1 => ∃ a0 c0, v = .slice a0 r.length c0 ∧ RL R_TKV h1 a0 c0 r) := by
  unfold F_ref05_Fold at hF
  refine ev_of hw rfl at_108 rfl rfl (go_seg0 ?_)
  refine go_seq ?_
  refine go_region ?_
  refine gAc rfl rfl ?_
  refine go_nil ?_
  refine go_seq ?_
  refine go_seq ?_
  refine go_region ?_
  refine gAc rfl rfl ?_
  refine go_nil ?_
  replace hF := obind hF
  obtain ⟨s1, hF, hK1⟩ := hF
  refine go_joinc (β := Option Addr × Nat) (fun s h' => RL R_TKV h' s.1 s.2 s1) (fun s => [(0, true, .slice s.1 s1.length s.2), (4, true, .slice none 0 0)]) (fun s => (List.flatten [] : List Blk)) ?_ (fun J1 => ?_)
  ·
    rintro ⟨a1_0, a1_1⟩ h1 e1 w1 f1_0
    replace hF := hK1
    refine go_seq ?_
    refine go_region ?_
    refine gM rfl rfl ?_
    refine gA rfl rfl ?_
    refine go_nil ?_
    obtain rfl := someI hF
    exact g_ret (rst rfl rs0) (fun h1 hf hs => ⟨(e1.trans hs.hext), ⟨_, _, rfl, (f1_0.ext hs.hext.kn)⟩⟩)
  ·
    refine go_block ?_
    refine go_loop (α := (List TEvent) × Nat × (List TKV) × Option Addr × Nat × Heap) (fun a => a.1 = List.drop a.2.1 p1 ∧ HExt h a.2.2.2.2.2 ∧ Wf a.2.2.2.2.2 ∧ F_ref05_Fold_L1 n a.1 a.2.1 a.2.2.1 = some s1 ∧ RL R_TKV a.2.2.2.2.2 a.2.2.2.1 a.2.2.2.2.1 a.2.2.1) (fun a => a.1.length) (fun a => [(0, true, .slice a.2.2.2.1 a.2.2.1.length a.2.2.2.2.1), (1, true, .slice a1_0 p1.length c1_0), (4, true, .slice none 0 0), (5, true, .int .i64 (a.2.1 : Int))]) (fun a => (List.flatten [] : List Blk)) (fun a => a.2.2.2.2.2) ?_ (p1, 0, p0, a0_0, c0_0, h) ⟨rfl, HExt.refl _, hw, hF, f0_0⟩ (Sub.cons (Sub.cons (Sub.cons (Sub.cons (Sub.nil _) rfl) rfl) rfl) rfl) rfl rfl
    rintro ⟨r2, i2, y2_0, a2_0, a2_1, h2⟩ ⟨hr2, e2, w2, hF, f2_0⟩ ih2
    rcases r2 with _ | ⟨z2, r2⟩
    ·
      have hi2 := drop_nil hr2
      rw [F_ref05_Fold_L1.eq_1] at hF
      refine go_seq ?_
      refine go_seq ?_
      refine go_region ?_
      refine gM rfl rfl ?_
      refine gM rfl rfl ?_
      refine gr rfl (r_len rfl (os1 (ot rfl) os0) (fun _ _ => ln_50)) ?_
      refine gr rfl (r_bin (ot rfl) (ot rfl) rfl) ?_
      refine go_cast (.bool false) (congrArg Value.bool (decide_eq_false hi2)) ?_
      refine go_nil ?_
      refine g_cond (b := false) (ot rfl) (fun hc3 => ?_) (fun hc3 => ?_)
      · cases hc3
      refine go_exit rfl ?_
      obtain rfl := someI hF
      exact Goes.weak (J1 (a2_0, a2_1) _ e2 w2 f2_0) (Sub.cons (Sub.cons (Sub.nil _) rfl) rfl)
    ·
      obtain ⟨hi2, hx2, hr2⟩ := drop_cons hr2
      have hb2 := (f1_0.ext e2.kn).1
      rw [F_ref05_Fold_L1.eq_2] at hF
      refine go_seq ?_
      refine go_seq ?_
      refine go_region ?_
      refine gM rfl rfl ?_
      refine gM rfl rfl ?_
      refine gr rfl (r_len rfl (os1 (ot rfl) os0) (fun _ _ => ln_50)) ?_
      refine gr rfl (r_bin (ot rfl) (ot rfl) rfl) ?_
      refine go_cast (.bool true) (congrArg Value.bool (decide_eq_true (Int.ofNat_lt.mpr hi2))) ?_
      refine go_nil ?_
      refine g_cond (b := true) (ot rfl) (fun hc4 => ?_) (fun hc4 => ?_)
      rotate_left
      · cases hc4
      refine go_skip ?_
      refine go_seq ?_
      refine go_block ?_
      refine go_region ?_
      refine gM rfl rfl ?_
      refine gM rfl rfl ?_
      refine gM rfl rfl ?_
      obtain ⟨q5, row5, i5, cl5, rc5, sp5⟩ := ix (ik := .i64) (cap := c1_0) (E := EE) (f1_0.ext e2.kn) ((getI_nat _ _).trans hx2) ut_50 sz_108 rfl
      obtain rfl := rc5
      refine gr rfl (r_ia (ot rfl) (ot rfl) i5) ?_
      refine gr rfl (r_load (ot rfl) (v := .agg #[.int .i64 z2.Rev, .string z2.Key, .string z2.Val, .bool z2.Del]) (lo_e (fun hf kn => ld_of (r := [.int .i64 z2.Rev, .string z2.Key, .string z2.Val, .bool z2.Del]) ag_108 sz_108 (kn.cellsAt cl5)))) ?_
      replace hF := obind hF
      obtain ⟨x6, hx6, hF⟩ := hF
      refine g_call EE_fr (fun _ h => by cases h; rfl) of (os1 (ot rfl) (os1 (ot rfl) os0)) hb_125 (fun hf kn w => by exact s_ref05_One n w y2_0 z2 (f2_0.ext kn) hx6) ?_
      rintro v6 h6 e6 w6 ⟨a6_0, c6_0, rfl, f6_0⟩
      refine gA rfl rfl ?_
      refine go_nil ?_
      refine go_endb ?_
      refine go_region ?_
      refine gM rfl rfl ?_
      refine gr rfl (r_bin (ot rfl) (oc rfl) rfl) ?_
      refine gA rfl rfl ?_
      refine go_nil ?_
      refine go_re 5 (v2 := .int .i64 ((i2 + 1 : Nat) : Int)) rfl (wrap_succ hi2 hb2) ?_
      exact Goes.weak (ih2 (r2, i2 + 1, x6, a6_0, c6_0, h6) ⟨hr2, (e2.trans e6), w6, hF, f6_0⟩ (Nat.lt_succ_self _)) (Sub.cons (Sub.cons (Sub.cons (Sub.cons (Sub.nil _) rfl) rfl) rfl) rfl)
theorem s_ref06_Map (n : Nat) {h : Heap} (hw : Wf h) (p0 : Timpostref06_Hist) (p1 : Int) {a0_0 : Option Addr} {c0_0 : Nat} (f0_0 : RL (Rep.sl R_TEvent 50) h a0_0 c0_0 p0.Rows) {r : (List TKV)} (hF : F_ref06_Map n p0 p1 = some r) :
    Ev EE 89 [.agg #[.slice a0_0 p0.Rows.length c0_0, .int .i64 p0.Hor], .int .i64 p1] h (fun v h1 => ∃ a0 c0, v = .slice a0 r.length c0 ∧ RL R_TKV h1 a0 c0 r) := by
  unfold F_ref06_Map at hF
  refine ev_of hw rfl at_89 rfl rfl (go_seg0 ?_)
  refine go_seq ?_
  refine go_region ?_
  refine gs_box rfl (ot rfl) rfl ?_; intro b2_1
  refine gAc rfl rfl ?_
  refine go_nil ?_
  refine go_seq ?_
  refine go_region ?_
  refine gAc rfl rfl ?_
  refine go_nil ?_
  refine go_seq ?_
  refine go_seq ?_
  refine go_region ?_
  refine gAc rfl rfl ?_
  refine go_nil ?_
  replace hF := obind hF
  obtain ⟨s2, hF, hK2⟩ := hF
  refine go_joinc (β := Option Addr × Nat) (fun s h' => RL R_TKV h' s.1 s.2 s2) (fun s => [(4, true, .slice none 0 0), (5, true, .slice s.1 s2.length s.2)]) (fun s => (List.flatten [[⟨b2_1, .cells [.slice a0_0 p0.Rows.length c0_0, .int .i64 p0.Hor] 36⟩]] : List Blk)) ?_ (fun J2 => ?_)
  ·
    rintro ⟨a2_0, a2_1⟩ h2 e2 w2 f2_0
    replace hF := hK2
    refine go_seq ?_
    refine go_region ?_
    refine gM rfl rfl ?_
    refine gA rfl rfl ?_
    refine go_nil ?_
    obtain rfl := someI hF
    exact g_ret (rst rfl rs0) (fun h1 hf hs => ⟨(e2.trans hs.hext), ⟨_, _, rfl, (f2_0.ext hs.hext.kn)⟩⟩)
  ·
    refine go_block ?_
    refine go_loop (α := (List (List TEvent)) × Nat × (List TKV) × Option Addr × Nat × Heap) (fun a => a.1 = List.drop a.2.1 p0.Rows ∧ HExt h a.2.2.2.2.2 ∧ Wf a.2.2.2.2.2 ∧ F_ref06_Map_L1 n p1 a.1 a.2.1 a.2.2.1 = some s2 ∧ RL R_TKV a.2.2.2.2.2 a.2.2.2.1 a.2.2.2.2.1 a.2.2.1) (fun a => a.1.length) (fun a => [(1, true, .int .i64 p1), (2, true, .pointer (some ⟨b2_1, 0, none⟩)), (4, true, .slice none 0 0), (5, true, .slice a.2.2.2.1 a.2.2.1.length a.2.2.2.2.1), (6, true, .int .i64 (a.2.1 : Int))]) (fun a => (List.flatten [[⟨b2_1, .cells [.slice a0_0 p0.Rows.length c0_0, .int .i64 p0.Hor] 36⟩]] : List Blk)) (fun a => a.2.2.2.2.2) ?_ (p0.Rows, 0, ([] : List TKV), none, 0, h) ⟨rfl, HExt.refl _, hw, hF, (RL.nil _ _ _)⟩ (Sub.cons (Sub.cons (Sub.cons (Sub.cons (Sub.cons (Sub.nil _) rfl) rfl) rfl) rfl) rfl) rfl rfl
    rintro ⟨r3, i3, y3_0, a3_0, a3_1, h3⟩ ⟨hr3, e3, w3, hF, f3_0⟩ ih3
    rcases r3 with _ | ⟨z3, r3⟩
    ·
      have hi3 := drop_nil hr3
      rw [F_ref06_Map_L1.eq_1] at hF
      refine go_seq ?_
      refine go_seq ?_
      refine go_region ?_
      refine gM rfl rfl ?_
      refine gM rfl rfl ?_
      refine gr rfl (r_bin (ot rfl) (ot rfl) rfl) ?_
      refine gM rfl rfl ?_
      refine grt rfl rfl rfl rfl (r_move (ot rfl)) ?_
      refine grt rfl rfl rfl rfl (r_fa (ot rfl) (fa_36_0 _ _)) ?_
      refine grt rfl rfl rfl rfl (r_load (og rfl id) (lm_s (mem_seg 0 rfl) ag_34 rfl)) ?_
      refine grt rfl rfl rfl rfl (r_len rfl (os1 (og rfl id) os0) (fun _ _ => ln_34)) ?_
      refine grt rfl rfl rfl rfl (rvc (r_bin (og rfl id) (og rfl id) rfl) (congrArg Value.bool (decide_eq_false hi3))) ?_
      refine gr rfl (rvc (r_pickb (ot rfl) (og rfl id) (oc rfl)) (congrArg Value.bool (Bool.cond_self _ _))) ?_
      refine go_nil ?_
      refine g_cond (b := false) (ot rfl) (fun hc4 => ?_) (fun hc4 => ?_)
      · cases hc4
      refine go_exit rfl ?_
      obtain rfl := someI hF
      exact Goes.weak (J2 (a3_0, a3_1) _ e3 w3 f3_0) (Sub.cons (Sub.cons (Sub.nil _) rfl) rfl)
    ·
      obtain ⟨hi3, hx3, hr3⟩ := drop_cons hr3
      have hb3 := (f0_0.ext e3.kn).1
      rw [F_ref06_Map_L1.eq_2] at hF
      refine go_seq ?_
      refine go_seq ?_
      refine go_region ?_
      refine gM rfl rfl ?_
      refine gM rfl rfl ?_
      refine gr rfl (r_bin (ot rfl) (ot rfl) rfl) ?_
      refine gM rfl rfl ?_
      refine grt rfl rfl rfl rfl (r_move (ot rfl)) ?_
      refine grt rfl rfl rfl rfl (r_fa (ot rfl) (fa_36_0 _ _)) ?_
      refine grt rfl rfl rfl rfl (r_load (og rfl id) (lm_s (mem_seg 0 rfl) ag_34 rfl)) ?_
      refine grt rfl rfl rfl rfl (r_len rfl (os1 (og rfl id) os0) (fun _ _ => ln_34)) ?_
      refine grt rfl rfl rfl rfl (rvc (r_bin (og rfl id) (og rfl id) rfl) (congrArg Value.bool (decide_eq_true (Int.ofNat_lt.mpr hi3)))) ?_
      refine gr rfl (r_pickb (ot rfl) (og rfl id) (oc rfl)) ?_
      refine go_nil ?_
      refine g_cond (b := (bif (decide ((i3 : Int) < p1)) then true else false)) (ot rfl) (fun hc5 => ?_) (fun hc5 => ?_)
      ·
        replace hF := ifT hc5 hF
        refine go_skip ?_
        refine go_seq ?_
        refine go_block ?_
        refine go_region ?_
        refine gM rfl rfl ?_
        refine gr rfl (r_fa (ot rfl) (fa_36_0 _ _)) ?_
        refine gr rfl (r_load (ot rfl) (lm_s (mem_seg 0 rfl) ag_34 rfl)) ?_
        refine gM rfl rfl ?_
        obtain ⟨q6, row6, i6, cl6, rc6, sp6⟩ := ix (ik := .i64) (cap := c0_0) (E := EE) (f0_0.ext e3.kn) ((getI_nat _ _).trans hx3) ut_34 sz_50 rfl
        obtain ⟨a6_0, c6_0, rfl, f6_0⟩ := rc6
        refine gr rfl (r_ia (ot rfl) (ot rfl) i6) ?_
        refine gr rfl (r_load (ot rfl) (v := .slice a6_0 z3.length c6_0) (lo_e (fun hf kn => ld_one ag_50 (kn.cellsAt cl6)))) ?_
        replace hF := obind hF
        obtain ⟨x7, hx7, hF⟩ := hF
        refine g_call EE_fr (fun _ h => by cases h; rfl) of (os1 (ot rfl) (os1 (ot rfl) os0)) hb_108 (fun hf kn w => by exact s_ref05_Fold n w y3_0 z3 (f3_0.ext kn) (f6_0.ext kn) hx7) ?_
        rintro v7 h7 e7 w7 ⟨a7_0, c7_0, rfl, f7_0⟩
        refine gA rfl rfl ?_
        refine go_nil ?_
        refine go_endb ?_
        refine go_region ?_
        refine gM rfl rfl ?_
        refine gr rfl (r_bin (ot rfl) (oc rfl) rfl) ?_
        refine gA rfl rfl ?_
        refine go_nil ?_
        refine go_re 6 (v2 := .int .i64 ((i3 + 1 : Nat) : Int)) rfl (wrap_succ hi3 hb3) ?_
        exact Goes.weak (ih3 (r3, i3 + 1, x7, a7_0, c7_0, h7) ⟨hr3, (e3.trans e7), w7, hF, f7_0⟩ (Nat.lt_succ_self _)) (Sub.cons (Sub.cons (Sub.cons (Sub.cons (Sub.cons (Sub.nil _) rfl) rfl) rfl) rfl) rfl)
      ·
        replace hF := ifF hc5 hF
        refine go_exit rfl ?_
        obtain rfl := someI hF
        exact Goes.weak (J2 (a3_0, a3_1) _ e3 w3 f3_0) (Sub.cons (Sub.cons (Sub.nil _) rfl) rfl)
theorem s_ref06_Count (n : Nat) {h : Heap} (hw : Wf h) (p0 : (List TKV)) (p1 : (List TOp)) {a0_0 : Option Addr} {c0_0 : Nat} {a1_0 : Option Addr} {c1_0 : Nat} (f0_0 : RL R_TKV h a0_0 c0_0 p0) (f1_0 : RL R_TOp h a1_0 c1_0 p1) {r : (List TOp)} (hF : F_ref06_Count n p0 p1 = some r) :
    Ev EE 88 [.slice a0_0 p0.length c0_0, .slice a1_0 p1.length c1_0] h (fun v h1 => ∃ a0 c0, v = .slice a0 r.length c0 ∧ RL R_TOp h1 a0 c0 r) := by
  unfold F_ref06_Count at hF
  refine ev_of hw rfl at_88 rfl rfl (go_seg0 ?_)
  refine go_seq ?_
  refine go_region ?_
  refine gAc rfl rfl ?_
  refine go_nil ?_
  refine go_seq ?_
  refine go_region ?_
  refine gAc rfl rfl ?_
  refine go_nil ?_
  refine go_seq ?_
  refine go_seq ?_
  refine go_region ?_
  refine gAc rfl rfl ?_
  refine go_nil ?_
  replace hF := obind hF
  obtain ⟨s1, hF, hK1⟩ := hF
  refine go_joinc (β := Option Addr × List Blk) (fun s h' => AccR R_TOp 45 h' s.2 (.slice s.1 s1.length s1.length) s1) (fun s => [(4, true, .slice none 0 0), (5, true, .slice s.1 s1.length s1.length)]) (fun s => (List.flatten [s.2] : List Blk)) ?_ (fun J1 => ?_)
  ·
    rintro ⟨a1_0, a1_1⟩ h1 e1 w1 f1_0
    replace hF := hK1
    refine go_seq ?_
    refine go_region ?_
    refine gM rfl rfl ?_
    refine gA rfl rfl ?_
    refine go_nil ?_
    refine gs_accpub .z f1_0 (fun h2 e2 w2 f2_ => ?_) rfl
    obtain rfl := someI hF
    exact g_ret (rst rfl rs0) (fun h1 hf hs => ⟨(e1.trans (e2.trans hs.hext)), ⟨_, _, rfl, (f2_.ext hs.hext.kn)⟩⟩)
  ·
    refine go_block ?_
    refine go_loop (α := (List TOp) × Nat × (List TOp) × Option Addr × List Blk × Heap) (fun a => a.1 = List.drop a.2.1 p1 ∧ HExt h a.2.2.2.2.2 ∧ Wf a.2.2.2.2.2 ∧ F_ref06_Count_L1 n p0 p1 a.1 a.2.1 a.2.2.1 = some s1 ∧ AccR R_TOp 45 a.2.2.2.2.2 a.2.2.2.2.1 (.slice a.2.2.2.1 a.2.2.1.length a.2.2.1.length) a.2.2.1) (fun a => a.1.length) (fun a => [(0, true, .slice a0_0 p0.length c0_0), (1, true, .slice a1_0 p1.length c1_0), (4, true, .slice none 0 0), (5, true, .slice a.2.2.2.1 a.2.2.1.length a.2.2.1.length), (6, true, .int .i64 (a.2.1 : Int))]) (fun a => (List.flatten [a.2.2.2.2.1] : List Blk)) (fun a => a.2.2.2.2.2) ?_ (p1, 0, ([] : List TOp), none, [], h) ⟨rfl, HExt.refl _, hw, hF, (AccR.nil _ _ _)⟩ (Sub.cons (Sub.cons (Sub.cons (Sub.cons (Sub.cons (Sub.nil _) rfl) rfl) rfl) rfl) rfl) rfl rfl
    rintro ⟨r3, i3, y3_0, a3_0, a3_1, h3⟩ ⟨hr3, e3, w3, hF, f3_0⟩ ih3
    rcases r3 with _ | ⟨z3, r3⟩
    ·
      have hi3 := drop_nil hr3
      rw [F_ref06_Count_L1.eq_1] at hF
      refine go_seq ?_
      refine go_seq ?_
      refine go_region ?_
      refine gM rfl rfl ?_
      refine gM rfl rfl ?_
      refine gr rfl (r_len rfl (os1 (ot rfl) os0) (fun _ _ => ln_39)) ?_
      refine gr rfl (r_bin (ot rfl) (ot rfl) rfl) ?_
      refine go_cast (.bool false) (congrArg Value.bool (decide_eq_false hi3)) ?_
      refine go_nil ?_
      refine g_cond (b := false) (ot rfl) (fun hc4 => ?_) (fun hc4 => ?_)
      · cases hc4
      refine go_exit rfl ?_
      obtain rfl := someI hF
      exact Goes.weak (J1 (a3_0, a3_1) _ e3 w3 f3_0) (Sub.cons (Sub.cons (Sub.nil _) rfl) rfl)
    ·
      obtain ⟨hi3, hx3, hr3⟩ := drop_cons hr3
      have hb3 := (f1_0.ext e3.kn).1
      rw [F_ref06_Count_L1.eq_2] at hF
      refine go_seq ?_
      refine go_seq ?_
      refine go_region ?_
      refine gM rfl rfl ?_
      refine gM rfl rfl ?_
      refine gr rfl (r_len rfl (os1 (ot rfl) os0) (fun _ _ => ln_39)) ?_
      refine gr rfl (r_bin (ot rfl) (ot rfl) rfl) ?_
      refine go_cast (.bool true) (congrArg Value.bool (decide_eq_true (Int.ofNat_lt.mpr hi3))) ?_
      refine go_nil ?_
      refine g_cond (b := true) (ot rfl) (fun hc5 => ?_) (fun hc5 => ?_)
      rotate_left
      · cases hc5
      refine go_skip ?_
      refine go_seq ?_
      refine go_block ?_
      refine go_seq ?_
      refine go_region ?_
      refine gAc rfl rfl ?_
      refine go_nil ?_
      refine go_seq ?_
      refine go_seq ?_
      refine go_region ?_
      refine gM rfl rfl ?_
      refine gr rfl (r_bin (ot rfl) (oc rfl) rfl) ?_
      refine gA rfl rfl ?_
      refine go_nil ?_
      replace hF := obind hF
      obtain ⟨s6, hF, hK6⟩ := hF
      refine go_joinc (β := Unit) (fun s h' => True) (fun s => [(0, true, .slice a0_0 p0.length c0_0), (1, true, .slice a1_0 p1.length c1_0), (4, true, .slice none 0 0), (5, true, .slice a3_0 y3_0.length y3_0.length), (6, true, .int .i64 (i3 : Int)), (7, true, .bool s6.1), (8, true, .int .i64 s6.2.1), (11, true, .int .i64 (i3 : Int)), (12, true, .slice a1_0 p1.length c1_0), (13, true, .int .i64 (p1.length : Int)), (14, true, .bool true), (17, true, .int .i64 (i3 : Int)), (18, true, .int .i64 (IntKind.i64.wrap ((i3 : Int) + 1))), (19, true, .int .i64 s6.2.2.1), (20, true, .slice a1_0 p1.length c1_0), (21, true, .int .i64 (p1.length : Int)), (22, true, .bool s6.2.2.2)]) (fun s => (List.flatten [a3_1] : List Blk)) ?_ (fun J6 => ?_)
      ·
        rintro _ h6 e6 w6 _
        replace hF := hK6
        refine go_seq ?_
        refine go_region ?_
        refine gM rfl rfl ?_
        refine gM rfl rfl ?_
        refine gM rfl rfl ?_
        obtain ⟨q7, row7, i7, cl7, rc7, sp7⟩ := ix (ik := .i64) (cap := c1_0) (E := EE) ((f1_0.ext e3.kn).ext e6.kn) ((getI_nat _ _).trans hx3) ut_39 sz_45 rfl
        obtain rfl := rc7
        refine gr rfl (r_ia (ot rfl) (ot rfl) i7) ?_
        refine gr rfl (r_fa (ot rfl) (fs_45_0 sp7)) ?_
        refine gr rfl (r_load (ot rfl) (v := .string z3.Key) (lo_e (fun hf kn => ld_field (r := [.string z3.Key, .string z3.Val, .bool z3.Del]) ag_9 (kn.cellsAt cl7) rfl))) ?_
        replace hF := obind hF
        obtain ⟨x8, hx8, hF⟩ := hF
        refine g_callp (v := .tuple #[.agg #[.string x8.1.Key, .string x8.1.Val, .int .i64 x8.1.Rev], .bool x8.2]) EE_fr rfl of (os1 (ot rfl) (os1 (ot rfl) os0)) hb_22 (fun _ => rfl) (fun hf kn w => by exact s_ref06_Get w p0 z3.Key (((f0_0.ext e3.kn).ext e6.kn).ext kn) hx8) ?_
        refine gM rfl rfl ?_
        refine gE rfl rfl rfl ?_
        refine gE rfl rfl rfl ?_
        refine gs_alloc rfl zo_47 rfl ?_; intro b9_9
        refine gs_store (ot rfl) (ot rfl) sz_47 rfl rfl rfl rfl rfl .z ?_
        refine gA rfl rfl ?_
        refine go_nil ?_
        refine go_seq ?_
        refine go_region ?_
        refine gM rfl rfl ?_
        refine gM rfl rfl ?_
        replace hF := obind hF
        obtain ⟨s11, hF, hK11⟩ := hF
        refine go_joinr 10 (β := Unit) (fun s h' => True) (fun s => [(0, true, .slice a0_0 p0.length c0_0), (1, true, .slice a1_0 p1.length c1_0), (4, true, .slice none 0 0), (5, true, .slice a3_0 y3_0.length y3_0.length), (6, true, .int .i64 (i3 : Int)), (7, true, .bool s6.1), (8, true, .int .i64 s6.2.1), (9, true, .pointer (some ⟨b9_9, 0, none⟩)), (10, true, .bool x8.2), (11, true, .int .i64 (i3 : Int)), (12, true, .slice a1_0 p1.length c1_0), (13, true, .int .i64 (p1.length : Int)), (14, true, .bool true), (17, true, .int .i64 (i3 : Int)), (18, true, .int .i64 (IntKind.i64.wrap ((i3 : Int) + 1))), (19, true, .int .i64 s6.2.2.1), (20, true, .slice a1_0 p1.length c1_0), (21, true, .int .i64 (p1.length : Int)), (22, true, .bool s6.2.2.2), (39, true, .tuple #[.agg #[.string x8.1.Key, .string x8.1.Val, .int .i64 x8.1.Rev], .bool x8.2]), (40, true, .slice a0_0 p0.length c0_0), (41, true, .slice a1_0 p1.length c1_0), (42, true, .int .i64 (i3 : Int)), (43, true, .pointer (some q7)), (44, true, .pointer (some ⟨q7.block, q7.off + 0, q7.spot⟩)), (45, true, .string z3.Key), (46, true, .tuple #[.agg #[.string x8.1.Key, .string x8.1.Val, .int .i64 x8.1.Rev], .bool x8.2]), (47, true, .agg #[.string x8.1.Key, .string x8.1.Val, .int .i64 x8.1.Rev]), (48, true, .bool x8.2), (49, true, .bool s6.1), (50, true, .bool s11.1), (60, true, .bool s11.2)]) (fun s => (List.flatten [[⟨b9_9, .cells [.string x8.1.Key, .string x8.1.Val, .int .i64 x8.1.Rev] 47⟩], a3_1] : List Blk)) ?_ (fun J11 => ?_)
        ·
          rintro _ h11 e11 w11 _
          replace hF := hK11
          refine go_nil ?_
          replace hF := obind hF
          obtain ⟨s13, hF, hK13⟩ := hF
          refine go_joinc (β := Option Addr × List Blk) (fun s h' => AccR R_TOp 45 h' s.2 (.slice s.1 s13.length s13.length) s13) (fun s => [(0, true, .slice a0_0 p0.length c0_0), (1, true, .slice a1_0 p1.length c1_0), (4, true, .slice none 0 0), (5, true, .slice s.1 s13.length s13.length), (6, true, .int .i64 (i3 : Int)), (7, true, .bool s6.1), (8, true, .int .i64 s6.2.1), (9, true, .pointer (some ⟨b9_9, 0, none⟩)), (10, true, .bool x8.2), (11, true, .int .i64 (i3 : Int)), (12, true, .slice a1_0 p1.length c1_0), (13, true, .int .i64 (p1.length : Int)), (14, true, .bool true), (17, true, .int .i64 (i3 : Int)), (18, true, .int .i64 (IntKind.i64.wrap ((i3 : Int) + 1))), (19, true, .int .i64 s6.2.2.1), (20, true, .slice a1_0 p1.length c1_0), (21, true, .int .i64 (p1.length : Int)), (22, true, .bool s6.2.2.2), (39, true, .tuple #[.agg #[.string x8.1.Key, .string x8.1.Val, .int .i64 x8.1.Rev], .bool x8.2]), (40, true, .slice a0_0 p0.length c0_0), (41, true, .slice a1_0 p1.length c1_0), (42, true, .int .i64 (i3 : Int)), (43, true, .pointer (some q7)), (44, true, .pointer (some ⟨q7.block, q7.off + 0, q7.spot⟩)), (45, true, .string z3.Key), (46, true, .tuple #[.agg #[.string x8.1.Key, .string x8.1.Val, .int .i64 x8.1.Rev], .bool x8.2]), (47, true, .agg #[.string x8.1.Key, .string x8.1.Val, .int .i64 x8.1.Rev]), (48, true, .bool x8.2), (49, true, .bool s6.1), (50, true, .bool s11.1), (60, true, .bool s11.2)]) (fun s => (List.flatten [[⟨b9_9, .cells [.string x8.1.Key, .string x8.1.Val, .int .i64 x8.1.Rev] 47⟩], s.2] : List Blk)) ?_ (fun J13 => ?_)
          ·
            rintro ⟨a13_0, a13_1⟩ h13 e13 w13 f13_0
            replace hF := hK13
            refine go_endb ?_
            refine go_region ?_
            refine gM rfl rfl ?_
            refine gr rfl (r_bin (ot rfl) (oc rfl) rfl) ?_
            refine gA rfl rfl ?_
            refine go_nil ?_
            refine gs_sub (.cons _ (.cons_cons _ (.refl _))) ?_
            refine go_re 6 (v2 := .int .i64 ((i3 + 1 : Nat) : Int)) rfl (wrap_succ hi3 hb3) ?_
            exact Goes.weak (ih3 (r3, i3 + 1, s13, a13_0, a13_1, h13) ⟨hr3, (e3.trans (e6.trans (e11.trans e13))), w13, hF, f13_0⟩ (Nat.lt_succ_self _)) (Sub.cons (Sub.cons (Sub.cons (Sub.cons (Sub.cons (Sub.nil _) rfl) rfl) rfl) rfl) rfl)
          ·
            refine g_cond (b := s11.2) (ot rfl) (fun hc12 => ?_) (fun hc12 => ?_)
            ·
              replace hF := ifT hc12 hF
              refine go_region ?_
              refine gM rfl rfl ?_
              refine gM rfl rfl ?_
              refine gM rfl rfl ?_
              obtain ⟨q14, row14, i14, cl14, rc14, sp14⟩ := ix (ik := .i64) (cap := c1_0) (E := EE) (((f1_0.ext e3.kn).ext e6.kn).ext e11.kn) ((getI_nat _ _).trans hx3) ut_39 sz_45 rfl
              obtain rfl := rc14
              refine gr rfl (r_ia (ot rfl) (ot rfl) i14) ?_
              refine gr rfl (r_load (ot rfl) (v := .agg #[.string z3.Key, .string z3.Val, .bool z3.Del]) (lo_e (fun hf kn => ld_of (r := [.string z3.Key, .string z3.Val, .bool z3.Del]) ag_45 sz_45 (kn.cellsAt cl14)))) ?_
              refine gs_bslice (cs := [.string z3.Key, .string z3.Val, .bool z3.Del]) rfl (op1 (ot rfl) op0) ut_39 sz_45 zo_45 rfl rfl ?_; intro b66_15
              replace hF := obind hF
              obtain ⟨x16, hx16, hF⟩ := hF
              obtain ⟨hr16, hz16_⟩ := appL_some hx16; subst x16
              refine gs_front (.s (.s (.z))) ?_
              refine gs_app (rows2 := [[.string z3.Key, .string z3.Val, .bool z3.Del]]) (R := R_TOp) rfl (os1 (ot rfl) (os1 (ot rfl) os0)) rfl ut_39 sz_45 rfl (by decide) by_45 zo_45 rfl zs_39_39 rfl rfl (first_m (mem_seg 1 rfl) rfl (by decide)) (Rws.one (x := z3) rfl) ((f3_0.ext e6.kn).ext e11.kn) hr16 (fun p16_ tl16 f16_ => ?_)
              refine gA rfl rfl ?_
              refine go_nil ?_
              obtain rfl := someI hF
              refine gs_sub (.cons_cons _ (.cons _ (.cons_cons _ (.refl _)))) ?_
              refine gs_perm (perm_of (d := []) _ [1, 0] rfl) ?_
              exact Goes.weak (J13 (p16_, tl16) _ (HExt.refl _) w11 f16_) (Sub.cons (Sub.cons (Sub.cons (Sub.cons (Sub.cons (Sub.cons (Sub.cons (Sub.cons (Sub.cons (Sub.cons (Sub.cons (Sub.cons (Sub.cons (Sub.cons (Sub.cons (Sub.cons (Sub.cons (Sub.cons (Sub.cons (Sub.cons (Sub.cons (Sub.cons (Sub.cons (Sub.cons (Sub.cons (Sub.cons (Sub.cons (Sub.cons (Sub.cons (Sub.cons (Sub.cons (Sub.cons (Sub.nil _) rfl) rfl) rfl) rfl) rfl) rfl) rfl) rfl) rfl) rfl) rfl) rfl) rfl) rfl) rfl) rfl) rfl) rfl) rfl) rfl) rfl) rfl) rfl) rfl) rfl) rfl) rfl) rfl) rfl) rfl) rfl) rfl)
            ·
              replace hF := ifF hc12 hF
              refine go_skip ?_
              obtain rfl := someI hF
              exact Goes.weak (J13 (a3_0, a3_1) _ (HExt.refl _) w11 ((f3_0.ext e6.kn).ext e11.kn)) (Sub.cons (Sub.cons (Sub.cons (Sub.cons (Sub.cons (Sub.cons (Sub.cons (Sub.cons (Sub.cons (Sub.cons (Sub.cons (Sub.cons (Sub.cons (Sub.cons (Sub.cons (Sub.cons (Sub.cons (Sub.cons (Sub.cons (Sub.cons (Sub.cons (Sub.cons (Sub.cons (Sub.cons (Sub.cons (Sub.cons (Sub.cons (Sub.cons (Sub.cons (Sub.cons (Sub.cons (Sub.cons (Sub.nil _) rfl) rfl) rfl) rfl) rfl) rfl) rfl) rfl) rfl) rfl) rfl) rfl) rfl) rfl) rfl) rfl) rfl) rfl) rfl) rfl) rfl) rfl) rfl) rfl) rfl) rfl) rfl) rfl) rfl) rfl) rfl) rfl)
        ·
          rcases Bool.eq_false_or_eq_true s6.1 with hb10 | hb10
          ·
            replace hF := ifT hb10 hF
            refine go_re 50 (v2 := .bool true) rfl (congrArg Value.bool hb10) ?_
            refine g_do rfl rfl rfl ?_
            refine gM rfl rfl ?_
            refine g_do rfl rfl rfl ?_
            refine gM rfl rfl ?_
            replace hF := obind hF
            obtain ⟨s18, hF, hK18⟩ := hF
            refine go_joinr 7 (β := Unit) (fun s h' => True) (fun s => [(0, true, .slice a0_0 p0.length c0_0), (1, true, .slice a1_0 p1.length c1_0), (4, true, .slice none 0 0), (5, true, .slice a3_0 y3_0.length y3_0.length), (6, true, .int .i64 (i3 : Int)), (7, true, .bool s6.1), (8, true, .int .i64 s6.2.1), (9, true, .pointer (some ⟨b9_9, 0, none⟩)), (10, true, .bool x8.2), (11, true, .int .i64 (i3 : Int)), (12, true, .slice a1_0 p1.length c1_0), (13, true, .int .i64 (p1.length : Int)), (14, true, .bool true), (17, true, .int .i64 (i3 : Int)), (18, true, .int .i64 (IntKind.i64.wrap ((i3 : Int) + 1))), (19, true, .int .i64 s6.2.2.1), (20, true, .slice a1_0 p1.length c1_0), (21, true, .int .i64 (p1.length : Int)), (22, true, .bool s6.2.2.2), (39, true, .tuple #[.agg #[.string x8.1.Key, .string x8.1.Val, .int .i64 x8.1.Rev], .bool x8.2]), (40, true, .slice a0_0 p0.length c0_0), (41, true, .slice a1_0 p1.length c1_0), (42, true, .int .i64 (i3 : Int)), (43, true, .pointer (some q7)), (44, true, .pointer (some ⟨q7.block, q7.off + 0, q7.spot⟩)), (45, true, .string z3.Key), (46, true, .tuple #[.agg #[.string x8.1.Key, .string x8.1.Val, .int .i64 x8.1.Rev], .bool x8.2]), (47, true, .agg #[.string x8.1.Key, .string x8.1.Val, .int .i64 x8.1.Rev]), (48, true, .bool x8.2), (49, true, .bool s6.1), (50, true, .bool true), (51, true, .bool x8.2), (52, true, .bool s18.1), (59, true, .bool s18.2)]) (fun s => (List.flatten [[⟨b9_9, .cells [.string x8.1.Key, .string x8.1.Val, .int .i64 x8.1.Rev] 47⟩], a3_1] : List Blk)) ?_ (fun J18 => ?_)
            ·
              rintro _ h18 e18 w18 _
              replace hF := hK18
              refine gr rfl (r_pkT (ot rfl) (ot rfl)) ?_
              obtain rfl := someI hF
              exact Goes.weak (J11 () _ e18 w18 trivial) (Sub.cons (Sub.cons (Sub.cons (Sub.cons (Sub.cons (Sub.cons (Sub.cons (Sub.cons (Sub.cons (Sub.cons (Sub.cons (Sub.cons (Sub.cons (Sub.cons (Sub.cons (Sub.cons (Sub.cons (Sub.cons (Sub.cons (Sub.cons (Sub.cons (Sub.cons (Sub.cons (Sub.cons (Sub.cons (Sub.cons (Sub.cons (Sub.cons (Sub.cons (Sub.cons (Sub.cons (Sub.cons (Sub.nil _) rfl) rfl) rfl) rfl) rfl) rfl) rfl) rfl) rfl) rfl) rfl) rfl) rfl) rfl) rfl) rfl) rfl) rfl) rfl) rfl) rfl) rfl) rfl) rfl) rfl) rfl) rfl) rfl) rfl) rfl) rfl) rfl)
            ·
              rcases Bool.eq_false_or_eq_true x8.2 with hb17 | hb17
              ·
                replace hF := ifT hb17 hF
                refine go_re 52 (v2 := .bool true) rfl (congrArg Value.bool hb17) ?_
                refine g_no rfl rfl rfl rfl rfl ?_
                refine g_no rfl rfl rfl rfl rfl ?_
                refine g_no rfl rfl rfl rfl rfl ?_
                refine g_no rfl rfl rfl rfl rfl ?_
                refine g_no rfl rfl rfl rfl rfl ?_
                refine g_no rfl rfl rfl rfl rfl ?_
                refine g_do rfl rfl rfl ?_
                refine gr rfl (r_pkT (ot rfl) (oc rfl)) ?_
                obtain rfl := someI hF
                exact Goes.weak (J18 () _ (HExt.refl _) w6 trivial) (Sub.cons (Sub.cons (Sub.cons (Sub.cons (Sub.cons (Sub.cons (Sub.cons (Sub.cons (Sub.cons (Sub.cons (Sub.cons (Sub.cons (Sub.cons (Sub.cons (Sub.cons (Sub.cons (Sub.cons (Sub.cons (Sub.cons (Sub.cons (Sub.cons (Sub.cons (Sub.cons (Sub.cons (Sub.cons (Sub.cons (Sub.cons (Sub.cons (Sub.cons (Sub.cons (Sub.cons (Sub.cons (Sub.cons (Sub.cons (Sub.nil _) rfl) rfl) rfl) rfl) rfl) rfl) rfl) rfl) rfl) rfl) rfl) rfl) rfl) rfl) rfl) rfl) rfl) rfl) rfl) rfl) rfl) rfl) rfl) rfl) rfl) rfl) rfl) rfl) rfl) rfl) rfl) rfl) rfl) rfl)
              ·
                replace hF := ifF hb17 hF
                refine go_re 52 (v2 := .bool false) rfl (congrArg Value.bool hb17) ?_
                refine g_do rfl rfl rfl ?_
                refine gM rfl rfl ?_
                refine g_do rfl rfl rfl ?_
                refine gM rfl rfl ?_
                refine g_do rfl rfl rfl ?_
                obtain ⟨q19, row19, i19, cl19, rc19, sp19⟩ := ix (ik := .i64) (cap := c1_0) (E := EE) ((f1_0.ext e3.kn).ext e6.kn) ((getI_nat _ _).trans hx3) ut_39 sz_45 rfl
                obtain rfl := rc19
                refine gr rfl (r_ia (ot rfl) (ot rfl) i19) ?_
                refine g_do rfl rfl rfl ?_
                refine gr rfl (r_fa (ot rfl) (fs_45_2 sp19)) ?_
                refine g_do rfl rfl rfl ?_
                refine gr rfl (r_load (ot rfl) (v := .bool z3.Del) (lo_e (fun hf kn => ld_field (r := [.string z3.Key, .string z3.Val, .bool z3.Del]) ag_4 (kn.cellsAt cl19) rfl))) ?_
                refine g_do rfl rfl rfl ?_
                refine gr rfl (r_un (ot rfl) rfl) ?_
                refine g_do rfl rfl rfl ?_
                refine gr rfl (r_pkF (ot rfl) (ot rfl)) ?_
                obtain rfl := someI hF
                exact Goes.weak (J18 () _ (HExt.refl _) w6 trivial) (Sub.cons (Sub.cons (Sub.cons (Sub.cons (Sub.cons (Sub.cons (Sub.cons (Sub.cons (Sub.cons (Sub.cons (Sub.cons (Sub.cons (Sub.cons (Sub.cons (Sub.cons (Sub.cons (Sub.cons (Sub.cons (Sub.cons (Sub.cons (Sub.cons (Sub.cons (Sub.cons (Sub.cons (Sub.cons (Sub.cons (Sub.cons (Sub.cons (Sub.cons (Sub.cons (Sub.cons (Sub.cons (Sub.cons (Sub.cons (Sub.nil _) rfl) rfl) rfl) rfl) rfl) rfl) rfl) rfl) rfl) rfl) rfl) rfl) rfl) rfl) rfl) rfl) rfl) rfl) rfl) rfl) rfl) rfl) rfl) rfl) rfl) rfl) rfl) rfl) rfl) rfl) rfl) rfl) rfl) rfl)
          ·
            replace hF := ifF hb10 hF
            refine go_re 50 (v2 := .bool false) rfl (congrArg Value.bool hb10) ?_
            refine g_no rfl rfl rfl rfl rfl ?_
            refine g_no rfl rfl rfl rfl rfl ?_
            refine g_nu rfl rfl rfl rfl ?_
            refine g_nu rfl rfl rfl rfl ?_
            refine g_nu rfl rfl rfl rfl ?_
            refine g_nu rfl rfl rfl rfl ?_
            refine g_nu rfl rfl rfl rfl ?_
            refine g_nu rfl rfl rfl rfl ?_
            refine g_no rfl rfl rfl rfl rfl ?_
            refine gr rfl (r_pkF (ot rfl) (oc rfl)) ?_
            obtain rfl := someI hF
            exact Goes.weak (J11 () _ (HExt.refl _) w6 trivial) (Sub.cons (Sub.cons (Sub.cons (Sub.cons (Sub.cons (Sub.cons (Sub.cons (Sub.cons (Sub.cons (Sub.cons (Sub.cons (Sub.cons (Sub.cons (Sub.cons (Sub.cons (Sub.cons (Sub.cons (Sub.cons (Sub.cons (Sub.cons (Sub.cons (Sub.cons (Sub.cons (Sub.cons (Sub.cons (Sub.cons (Sub.cons (Sub.cons (Sub.cons (Sub.cons (Sub.cons (Sub.cons (Sub.nil _) rfl) rfl) rfl) rfl) rfl) rfl) rfl) rfl) rfl) rfl) rfl) rfl) rfl) rfl) rfl) rfl) rfl) rfl) rfl) rfl) rfl) rfl) rfl) rfl) rfl) rfl) rfl) rfl) rfl) rfl) rfl) rfl)
      ·
        refine go_block ?_
        refine go_loop (α := Nat × Bool × Int × Heap) (fun a => HExt h3 a.2.2.2 ∧ Wf a.2.2.2 ∧ F_ref06_Count_L2 p1 z3 a.1 a.2.1 a.2.2.1 = some s6) (fun a => a.1) (fun a => [(0, true, .slice a0_0 p0.length c0_0), (1, true, .slice a1_0 p1.length c1_0), (4, true, .slice none 0 0), (5, true, .slice a3_0 y3_0.length y3_0.length), (6, true, .int .i64 (i3 : Int)), (7, true, .bool a.2.1), (8, true, .int .i64 a.2.2.1), (11, true, .int .i64 (i3 : Int)), (12, true, .slice a1_0 p1.length c1_0), (13, true, .int .i64 (p1.length : Int)), (14, true, .bool true), (17, true, .int .i64 (i3 : Int)), (18, true, .int .i64 (IntKind.i64.wrap ((i3 : Int) + 1)))]) (fun a => (List.flatten [a3_1] : List Blk)) (fun a => a.2.2.2) ?_ (n, true, (IntKind.i64.wrap ((i3 : Int) + 1)), h3) ⟨HExt.refl _, w3, hF⟩ (Sub.cons (Sub.cons (Sub.cons (Sub.cons (Sub.cons (Sub.cons (Sub.cons (Sub.cons (Sub.cons (Sub.cons (Sub.cons (Sub.cons (Sub.cons (Sub.nil _) rfl) rfl) rfl) rfl) rfl) rfl) rfl) rfl) rfl) rfl) rfl) rfl) rfl) rfl rfl
        rintro ⟨m20, y20_0, y20_1, h20⟩ ⟨e20, w20, hF⟩ ih20
        rcases m20 with _ | m20
        ·
          rw [F_ref06_Count_L2.eq_1] at hF; cases hF
        ·
          rw [F_ref06_Count_L2.eq_2] at hF
          refine go_seq ?_
          refine go_seq ?_
          refine go_region ?_
          refine gM rfl rfl ?_
          refine gM rfl rfl ?_
          refine gr rfl (r_len rfl (os1 (ot rfl) os0) (fun _ _ => ln_39)) ?_
          refine gr rfl (r_bin (ot rfl) (ot rfl) rfl) ?_
          refine go_nil ?_
          refine g_cond (b := (decide (y20_1 < (p1.length : Int)))) (ot rfl) (fun hc21 => ?_) (fun hc21 => ?_)
          ·
            replace hF := ifT hc21 hF
            refine go_skip ?_
            refine go_seq ?_
            refine go_block ?_
            refine go_regionq (by kernel_rfl) ?_
            refine gM rfl rfl ?_
            refine gM rfl rfl ?_
            replace hF := obind hF
            obtain ⟨s23, hF, hK23⟩ := hF
            refine go_joinr 12 (β := Unit) (fun s h' => True) (fun s => [(0, true, .slice a0_0 p0.length c0_0), (1, true, .slice a1_0 p1.length c1_0), (4, true, .slice none 0 0), (5, true, .slice a3_0 y3_0.length y3_0.length), (6, true, .int .i64 (i3 : Int)), (7, true, .bool y20_0), (8, true, .int .i64 y20_1), (11, true, .int .i64 (i3 : Int)), (12, true, .slice a1_0 p1.length c1_0), (13, true, .int .i64 (p1.length : Int)), (14, true, .bool true), (17, true, .int .i64 (i3 : Int)), (18, true, .int .i64 (IntKind.i64.wrap ((i3 : Int) + 1))), (19, true, .int .i64 y20_1), (20, true, .slice a1_0 p1.length c1_0), (21, true, .int .i64 (p1.length : Int)), (22, true, .bool (decide (y20_1 < (p1.length : Int)))), (25, true, .bool y20_0), (26, true, .bool s23.1), (38, true, .bool s23.2)]) (fun s => (List.flatten [a3_1] : List Blk)) ?_ (fun J23 => ?_)
            ·
              rintro _ h23 e23 w23 _
              replace hF := hK23
              refine gA rfl rfl ?_
              refine go_nil ?_
              refine go_endb ?_
              refine go_region ?_
              refine gM rfl rfl ?_
              refine gr rfl (r_bin (ot rfl) (oc rfl) rfl) ?_
              refine gA rfl rfl ?_
              refine go_nil ?_
              exact Goes.weak (ih20 (m20, s23.2, (IntKind.i64.wrap (y20_1 + 1)), h23) ⟨(e20.trans e23), w23, hF⟩ (Nat.lt_succ_self _)) (Sub.cons (Sub.cons (Sub.cons (Sub.cons (Sub.cons (Sub.cons (Sub.cons (Sub.cons (Sub.cons (Sub.cons (Sub.cons (Sub.cons (Sub.cons (Sub.nil _) rfl) rfl) rfl) rfl) rfl) rfl) rfl) rfl) rfl) rfl) rfl) rfl) rfl)
            ·
              rcases Bool.eq_false_or_eq_true y20_0 with hb22 | hb22
              ·
                replace hF := ifT hb22 hF
                refine go_re 26 (v2 := .bool true) rfl (congrArg Value.bool hb22) ?_
                refine g_do rfl rfl rfl ?_
                refine gM rfl rfl ?_
                refine g_do rfl rfl rfl ?_
                refine gM rfl rfl ?_
                refine g_do rfl rfl rfl ?_
                replace hF := obind hF
                obtain ⟨x24, hx24, hF⟩ := hF
                obtain ⟨q24, row24, i24, cl24, rc24, sp24⟩ := ix (ik := .i64) (cap := c1_0) (E := EE) ((f1_0.ext e3.kn).ext e20.kn) hx24 ut_39 sz_45 rfl
                obtain rfl := rc24
                refine gr rfl (r_ia (ot rfl) (ot rfl) i24) ?_
                refine g_do rfl rfl rfl ?_
                refine gr rfl (r_fa (ot rfl) (fs_45_0 sp24)) ?_
                refine g_do rfl rfl rfl ?_
                refine gr rfl (r_load (ot rfl) (v := .string x24.Key) (lo_e (fun hf kn => ld_field (r := [.string x24.Key, .string x24.Val, .bool x24.Del]) ag_9 (kn.cellsAt cl24) rfl))) ?_
                refine g_do rfl rfl rfl ?_
                refine gM rfl rfl ?_
                refine g_do rfl rfl rfl ?_
                refine gM rfl rfl ?_
                refine g_do rfl rfl rfl ?_
                obtain ⟨q25, row25, i25, cl25, rc25, sp25⟩ := ix (ik := .i64) (cap := c1_0) (E := EE) ((f1_0.ext e3.kn).ext e20.kn) ((getI_nat _ _).trans hx3) ut_39 sz_45 rfl
                obtain rfl := rc25
                refine gr rfl (r_ia (ot rfl) (ot rfl) i25) ?_
                refine g_do rfl rfl rfl ?_
                refine gr rfl (r_fa (ot rfl) (fs_45_0 sp25)) ?_
                refine g_do rfl rfl rfl ?_
                refine gr rfl (r_load (ot rfl) (v := .string z3.Key) (lo_e (fun hf kn => ld_field (r := [.string z3.Key, .string z3.Val, .bool z3.Del]) ag_9 (kn.cellsAt cl25) rfl))) ?_
                refine g_do rfl rfl rfl ?_
                refine gr rfl (r_bin (ot rfl) (ot rfl) rfl) ?_
                refine gr rfl (r_pkT (ot rfl) (ot rfl)) ?_
                obtain rfl := someI hF
                exact Goes.weak (J23 () _ (HExt.refl _) w20 trivial) (Sub.cons (Sub.cons (Sub.cons (Sub.cons (Sub.cons (Sub.cons (Sub.cons (Sub.cons (Sub.cons (Sub.cons (Sub.cons (Sub.cons (Sub.cons (Sub.cons (Sub.cons (Sub.cons (Sub.cons (Sub.cons (Sub.cons (Sub.cons (Sub.nil _) rfl) rfl) rfl) rfl) rfl) rfl) rfl) rfl) rfl) rfl) rfl) rfl) rfl) rfl) rfl) rfl) rfl) rfl) rfl) rfl)
              ·
                replace hF := ifF hb22 hF
                refine go_re 26 (v2 := .bool false) rfl (congrArg Value.bool hb22) ?_
                refine g_no rfl rfl rfl rfl rfl ?_
                refine g_no rfl rfl rfl rfl rfl ?_
                refine g_no rfl rfl rfl rfl rfl ?_
                refine g_no rfl rfl rfl rfl rfl ?_
                refine g_no rfl rfl rfl rfl rfl ?_
                refine g_no rfl rfl rfl rfl rfl ?_
                refine g_no rfl rfl rfl rfl rfl ?_
                refine g_no rfl rfl rfl rfl rfl ?_
                refine g_no rfl rfl rfl rfl rfl ?_
                refine g_no rfl rfl rfl rfl rfl ?_
                refine g_no rfl rfl rfl rfl rfl ?_
                refine gr rfl (r_pkF (ot rfl) (oc rfl)) ?_
                obtain rfl := someI hF
                exact Goes.weak (J23 () _ (HExt.refl _) w20 trivial) (Sub.cons (Sub.cons (Sub.cons (Sub.cons (Sub.cons (Sub.cons (Sub.cons (Sub.cons (Sub.cons (Sub.cons (Sub.cons (Sub.cons (Sub.cons (Sub.cons (Sub.cons (Sub.cons (Sub.cons (Sub.cons (Sub.cons (Sub.cons (Sub.nil _) rfl) rfl) rfl) rfl) rfl) rfl) rfl) rfl) rfl) rfl) rfl) rfl) rfl) rfl) rfl) rfl) rfl) rfl) rfl) rfl)
          ·
            replace hF := ifF hc21 hF
            refine go_exit rfl ?_
            obtain rfl := someI hF
            exact Goes.weak (J6 () _ e20 w20 trivial) (Sub.cons (Sub.cons (Sub.cons (Sub.cons (Sub.cons (Sub.cons (Sub.cons (Sub.cons (Sub.cons (Sub.cons (Sub.cons (Sub.cons (Sub.cons (Sub.cons (Sub.cons (Sub.cons (Sub.cons (Sub.nil _) rfl) rfl) rfl) rfl) rfl) rfl) rfl) rfl) rfl) rfl) rfl) rfl) rfl) rfl) rfl) rfl) rfl)
theorem s_ref06_Apply (n : Nat) {h : Heap} (hw : Wf h) (p0 : Timpostref06_Hist) (p1 : (List TOp)) {a0_0 : Option Addr} {c0_0 : Nat} {a1_0 : Option Addr} {c1_0 : Nat} (f0_0 : RL (Rep.sl R_TEvent 50) h a0_0 c0_0 p0.Rows) (f1_0 : RL R_TOp h a1_0 c1_0 p1) {r : Timpostref06_Hist × (List TEvent)} (hF : F_ref06_Apply n p0 p1 = some r) :
    Ev EE 58 [.agg #[.slice a0_0 p0.Rows.length c0_0, .int .i64 p0.Hor], .slice a1_0 p1.length c1_0] h (fun v h1 => ∃ a0 c0 a1 c1, v = .tuple #[.agg #[.slice a0 r.1.Rows.length c0, .int .i64 r.1.Hor], .slice a1 r.2.length c1] ∧ RL (Rep.sl R_TEvent 50) h1 a0 c0 r.1.Rows ∧ RL R_TEvent h1 a1 c1 r.2) := by
  unfold F_ref06_Apply at hF
  refine ev_of hw rfl at_58 rfl rfl (go_seg0 ?_)
  refine go_seq ?_
  refine go_region ?_
  refine gs_box rfl (ot rfl) rfl ?_; intro b2_1
  refine gs_alloc rfl zo_36 rfl ?_; intro b4_2
  refine gAc rfl rfl ?_
  refine go_nil ?_
  refine go_seq ?_
  refine go_region ?_
  refine gr rfl (r_load (ot rfl) (lm_w (mem_seg 1 rfl) ag_36 sz_36 rfl)) ?_
  refine gr rfl (r_fa (ot rfl) (fa_36_0 _ _)) ?_
  refine gr rfl (r_load (ot rfl) (lm_s (mem_seg 1 rfl) ag_34 rfl)) ?_
  refine gr rfl (r_len rfl (os1 (ot rfl) os0) (fun _ _ => ln_34)) ?_
  replace hF := obind hF
  obtain ⟨x3, hx3, hF⟩ := hF
  refine g_call EE_fr (fun _ h => by cases h; rfl) of (os1 (ot rfl) (os1 (ot rfl) os0)) hb_89 (fun hf kn w => by exact s_ref06_Map n w p0 (p0.Rows.length : Int) (f0_0.ext kn) hx3) ?_
  rintro v3 h3 e3 w3 ⟨a3_0, c3_0, rfl, f3_0⟩
  refine gM rfl rfl ?_
  replace hF := obind hF
  obtain ⟨x4, hx4, hF⟩ := hF
  refine g_call EE_fr (fun _ h => by cases h; rfl) of (os1 (ot rfl) (os1 (ot rfl) os0)) hb_88 (fun hf kn w => by exact s_ref06_Count n w x3 p1 (f3_0.ext kn) ((f1_0.ext e3.kn).ext kn) hx4) ?_
  rintro v4 h4 e4 w4 ⟨a4_0, c4_0, rfl, f4_0⟩
  refine gA rfl rfl ?_
  refine go_nil ?_
  refine go_seq ?_
  refine go_seq ?_
  refine go_region ?_
  refine gM rfl rfl ?_
  refine gr rfl (r_len rfl (os1 (ot rfl) os0) (fun _ _ => ln_39)) ?_
  refine gr rfl (r_bin (ot rfl) (oc rfl) rfl) ?_
  refine go_nil ?_
  refine g_cond (b := ((x4.length : Int) == 0)) (ot rfl) (fun hc5 => ?_) (fun hc5 => ?_)
  ·
    replace hF := ifT hc5 hF
    refine go_seq ?_
    refine go_region ?_
    refine gr rfl (r_load (ot rfl) (lm_w (mem_seg 1 rfl) ag_36 sz_36 rfl)) ?_
    refine gs_store (ot rfl) (ot rfl) sz_36 rfl rfl rfl rfl rfl .z ?_
    refine gAc rfl rfl ?_
    refine go_nil ?_
    obtain rfl := someI hF
    exact g_ret (rsc rfl (lm_w (mem_seg 0 rfl) ag_36 sz_36 rfl) (rst rfl rs0)) (fun h1 hf hs => ⟨(e3.trans (e4.trans hs.hext)), ⟨_, _, _, _, rfl, (((f0_0.ext e3.kn).ext e4.kn).ext hs.hext.kn), (RL.nil _ _ _)⟩⟩)
  ·
    replace hF := ifF hc5 hF
    refine go_skip ?_
    refine go_seq ?_
    refine go_region ?_
    refine gAc rfl rfl ?_
    refine go_nil ?_
    refine go_seq ?_
    refine go_seq ?_
    refine go_region ?_
    refine gAc rfl rfl ?_
    refine go_nil ?_
    replace hF := obind hF
    obtain ⟨s6, hF, hK6⟩ := hF
    refine go_joinc (β := Option Addr × List Blk) (fun s h' => AccR R_TEvent 108 h' s.2 (.slice s.1 s6.length s6.length) s6) (fun s => [(2, true, .pointer (some ⟨b2_1, 0, none⟩)), (4, true, .pointer (some ⟨b4_2, 0, none⟩)), (5, true, .slice none 0 0), (7, true, .slice s.1 s6.length s6.length)]) (fun s => (List.flatten [s.2, [⟨b4_2, .cells [.slice none 0 0, .int .i64 0] 36⟩], [⟨b2_1, .cells [.slice a0_0 p0.Rows.length c0_0, .int .i64 p0.Hor] 36⟩]] : List Blk)) ?_ (fun J6 => ?_)
    ·
      rintro ⟨a6_0, a6_1⟩ h6 e6 w6 f6_0
      replace hF := hK6
      refine go_seq ?_
      refine go_region ?_
      refine gs_bslice (cs := []) rfl op0 ut_34 sz_50 zo_50 rfl rfl ?_; intro b56_7
      refine gr rfl (r_fa (ot rfl) (fa_36_0 _ _)) ?_
      refine gr rfl (r_load (ot rfl) (lm_s (mem_seg 3 rfl) ag_34 rfl)) ?_
      replace hF := obind hF
      obtain ⟨x8, hx8, hF⟩ := hF
      obtain ⟨hr8, hz8_⟩ := appL_some hx8; subst x8
      obtain ⟨rw8, hw8, hq8⟩ := RL.first (((f0_0.ext e3.kn).ext e4.kn).ext e6.kn) (by decide)
      refine gs_app0 (rows2 := rw8) (R := (Rep.sl R_TEvent 50)) rfl (os1 (ot rfl) (os1 (ot rfl) os0)) rfl ut_34 sz_50 rfl (by decide) by_50 zo_50 rfl zs_34_34 rfl rfl (first_e hq8 (fun h' kn => kn.firstV hq8)) hw8 (AccR.lit _ _ _ _) hr8 (fun p8_ tl8 f8_ => ?_)
      refine gA rfl rfl ?_
      refine go_nil ?_
      refine go_seq ?_
      refine go_region ?_
      refine gM rfl rfl ?_
      refine gM rfl rfl ?_
      refine gs_bslice (cs := [.slice a6_0 s6.length s6.length]) rfl (op1 (ot rfl) op0) ut_34 sz_50 zo_50 rfl rfl ?_; intro b62_9
      refine gs_accpub (.s (.s (.s (.z)))) f6_0 (fun h11 e11 w11 f11_ => ?_) rfl
      replace hF := obind hF
      obtain ⟨x10, hx10, hF⟩ := hF
      obtain ⟨hr10, hz10_⟩ := appL_some hx10; subst x10
      refine gs_front (.s (.z)) ?_
      refine gs_app (rows2 := [[.slice a6_0 s6.length s6.length]]) (R := (Rep.sl R_TEvent 50)) rfl (os1 (ot rfl) (os1 (ot rfl) os0)) rfl ut_34 sz_50 rfl (by decide) by_50 zo_50 rfl zs_34_34 rfl rfl (first_m (mem_seg 1 rfl) rfl (by decide)) (Rws.one (x := s6) (sl_C f11_)) (f8_.ext e11.kn) hr10 (fun p10_ tl10 f10_ => ?_)
      refine gA rfl rfl ?_
      refine go_nil ?_
      refine go_seq ?_
      refine go_region ?_
      refine gM rfl rfl ?_
      refine gr rfl (r_fa (ot rfl) (fa_36_1 _ _)) ?_
      refine gr rfl (r_load (ot rfl) (lm_s (mem_seg 4 rfl) ag_3 rfl)) ?_
      refine gr rfl (r_build (op1 (ot rfl) (op1 (ot rfl) op0)) rfl) ?_
      refine gM rfl rfl ?_
      refine gs_store (ot rfl) (ot rfl) sz_36 rfl rfl rfl rfl rfl (.s (.s (.s (.z)))) ?_
      refine gA rfl rfl ?_
      refine go_nil ?_
      refine gs_accpub .z f10_ (fun h12 e12 w12 f12_ => ?_) rfl
      obtain rfl := someI hF
      exact g_ret (rsc rfl (lm_w (mem_seg 2 rfl) ag_36 sz_36 rfl) (rst rfl rs0)) (fun h1 hf hs => ⟨(e3.trans (e4.trans (e6.trans (e11.trans (e12.trans hs.hext))))), ⟨_, _, _, _, rfl, (f12_.ext hs.hext.kn), ((f11_.ext e12.kn).ext hs.hext.kn)⟩⟩)
    ·
      refine go_block ?_
      refine go_loop (α := (List TOp) × Nat × (List TEvent) × Option Addr × List Blk × Heap) (fun a => a.1 = List.drop a.2.1 x4 ∧ HExt h4 a.2.2.2.2.2 ∧ Wf a.2.2.2.2.2 ∧ F_ref06_Apply_L1 p0 a.1 a.2.1 a.2.2.1 = some s6 ∧ AccR R_TEvent 108 a.2.2.2.2.2 a.2.2.2.2.1 (.slice a.2.2.2.1 a.2.2.1.length a.2.2.1.length) a.2.2.1) (fun a => a.1.length) (fun a => [(2, true, .pointer (some ⟨b2_1, 0, none⟩)), (4, true, .pointer (some ⟨b4_2, 0, none⟩)), (5, true, .slice none 0 0), (6, true, .slice a4_0 x4.length c4_0), (7, true, .slice a.2.2.2.1 a.2.2.1.length a.2.2.1.length), (8, true, .int .i64 (a.2.1 : Int))]) (fun a => (List.flatten [a.2.2.2.2.1, [⟨b4_2, .cells [.slice none 0 0, .int .i64 0] 36⟩], [⟨b2_1, .cells [.slice a0_0 p0.Rows.length c0_0, .int .i64 p0.Hor] 36⟩]] : List Blk)) (fun a => a.2.2.2.2.2) ?_ (x4, 0, ([] : List TEvent), none, [], h4) ⟨rfl, HExt.refl _, w4, hF, (AccR.nil _ _ _)⟩ (Sub.cons (Sub.cons (Sub.cons (Sub.cons (Sub.cons (Sub.cons (Sub.nil _) rfl) rfl) rfl) rfl) rfl) rfl) rfl rfl
      rintro ⟨r13, i13, y13_0, a13_0, a13_1, h13⟩ ⟨hr13, e13, w13, hF, f13_0⟩ ih13
      rcases r13 with _ | ⟨z13, r13⟩
      ·
        have hi13 := drop_nil hr13
        rw [F_ref06_Apply_L1.eq_1] at hF
        refine go_seq ?_
        refine go_seq ?_
        refine go_region ?_
        refine gM rfl rfl ?_
        refine gM rfl rfl ?_
        refine gr rfl (r_len rfl (os1 (ot rfl) os0) (fun _ _ => ln_39)) ?_
        refine gr rfl (r_bin (ot rfl) (ot rfl) rfl) ?_
        refine go_cast (.bool false) (congrArg Value.bool (decide_eq_false hi13)) ?_
        refine go_nil ?_
        refine g_cond (b := false) (ot rfl) (fun hc14 => ?_) (fun hc14 => ?_)
        · cases hc14
        refine go_exit rfl ?_
        obtain rfl := someI hF
        exact Goes.weak (J6 (a13_0, a13_1) _ e13 w13 f13_0) (Sub.cons (Sub.cons (Sub.cons (Sub.cons (Sub.nil _) rfl) rfl) rfl) rfl)
      ·
        obtain ⟨hi13, hx13, hr13⟩ := drop_cons hr13
        have hb13 := (f4_0.ext e13.kn).1
        rw [F_ref06_Apply_L1.eq_2] at hF
        refine go_seq ?_
        refine go_seq ?_
        refine go_region ?_
        refine gM rfl rfl ?_
        refine gM rfl rfl ?_
        refine gr rfl (r_len rfl (os1 (ot rfl) os0) (fun _ _ => ln_39)) ?_
        refine gr rfl (r_bin (ot rfl) (ot rfl) rfl) ?_
        refine go_cast (.bool true) (congrArg Value.bool (decide_eq_true (Int.ofNat_lt.mpr hi13))) ?_
        refine go_nil ?_
        refine g_cond (b := true) (ot rfl) (fun hc15 => ?_) (fun hc15 => ?_)
        rotate_left
        · cases hc15
        refine go_skip ?_
        refine go_seq ?_
        refine go_block ?_
        refine go_seq ?_
        refine go_regA1 (L := [(0, []), (1, []), (2, []), (3, []), (4, []), (5, []), (6, []), (7, []), (8, []), (9, []), (10, []), (11, []), (12, []), (13, []), (14, []), (15, []), (16, [])]) (by kernel_rfl) (by kernel_rfl) (fun _ => rfl) ?_; intro b9_16
        refine go_sop rfl rfl ?_
        refine gr rfl (r_fa (ot rfl) (fa_36_0 _ _)) ?_
        refine go_nil ?_
        refine go_sop rfl rfl ?_
        refine gr rfl (r_load (ot rfl) (lm_s (mem_seg 3 rfl) ag_34 rfl)) ?_
        refine go_nil ?_
        refine go_sop rfl rfl ?_
        refine gr rfl (r_len rfl (os1 (ot rfl) os0) (fun _ _ => ln_34)) ?_
        refine go_nil ?_
        refine go_sop rfl rfl ?_
        refine gr rfl (r_bin (ot rfl) (oc rfl) rfl) ?_
        refine go_nil ?_
        refine go_sop rfl rfl ?_
        refine gM rfl rfl ?_
        refine go_nil ?_
        refine go_sop rfl rfl ?_
        refine gM rfl rfl ?_
        refine go_nil ?_
        refine go_sop rfl rfl ?_
        obtain ⟨q17, row17, i17, cl17, rc17, sp17⟩ := ix (ik := .i64) (cap := c4_0) (E := EE) (f4_0.ext e13.kn) ((getI_nat _ _).trans hx13) ut_39 sz_45 rfl
        obtain rfl := rc17
        refine gr rfl (r_ia (ot rfl) (ot rfl) i17) ?_
        refine go_nil ?_
        refine go_sop rfl rfl ?_
        refine gr rfl (r_fa (ot rfl) (fs_45_0 sp17)) ?_
        refine go_nil ?_
        refine go_sop rfl rfl ?_
        refine gr rfl (r_load (ot rfl) (v := .string z13.Key) (lo_e (fun hf kn => ld_field (r := [.string z13.Key, .string z13.Val, .bool z13.Del]) ag_9 (kn.cellsAt cl17) rfl))) ?_
        refine go_nil ?_
        refine go_sop rfl rfl ?_
        refine gM rfl rfl ?_
        refine go_nil ?_
        refine go_sop rfl rfl ?_
        refine gM rfl rfl ?_
        refine go_nil ?_
        refine go_sop rfl rfl ?_
        obtain ⟨q18, row18, i18, cl18, rc18, sp18⟩ := ix (ik := .i64) (cap := c4_0) (E := EE) (f4_0.ext e13.kn) ((getI_nat _ _).trans hx13) ut_39 sz_45 rfl
        obtain rfl := rc18
        refine gr rfl (r_ia (ot rfl) (ot rfl) i18) ?_
        refine go_nil ?_
        refine go_sop rfl rfl ?_
        refine gr rfl (r_fa (ot rfl) (fs_45_2 sp18)) ?_
        refine go_nil ?_
        refine go_sop rfl rfl ?_
        refine gr rfl (r_load (ot rfl) (v := .bool z13.Del) (lo_e (fun hf kn => ld_field (r := [.string z13.Key, .string z13.Val, .bool z13.Del]) ag_4 (kn.cellsAt cl18) rfl))) ?_
        refine go_nil ?_
        refine go_sop rfl rfl ?_
        refine gr rfl (r_build (op1 (ot rfl) (op1 (ot rfl) (op1 (ot rfl) op0))) rfl) ?_
        refine go_nil ?_
        refine go_salloc rfl rfl rfl zo_108 rfl .z ?_
        refine go_sop rfl rfl ?_
        refine gs_store (ot rfl) (ot rfl) sz_108 rfl rfl rfl rfl rfl .z ?_
        refine go_nil ?_
        refine go_snil ?_
        refine go_seq ?_
        refine go_seq ?_
        refine go_region ?_
        refine gr rfl (r_fa (ot rfl) (fa_108_3 _ _)) ?_
        refine gr rfl (r_load (ot rfl) (lm_s (mem_seg 0 rfl) ag_4 rfl)) ?_
        refine gr rfl (r_un (ot rfl) rfl) ?_
        refine go_nil ?_
        replace hF := obind hF
        obtain ⟨s20, hF, hK20⟩ := hF
        refine go_joinc (β := Unit) (fun s h' => True) (fun s => [(2, true, .pointer (some ⟨b2_1, 0, none⟩)), (4, true, .pointer (some ⟨b4_2, 0, none⟩)), (5, true, .slice none 0 0), (6, true, .slice a4_0 x4.length c4_0), (7, true, .slice a13_0 y13_0.length y13_0.length), (8, true, .int .i64 (i13 : Int)), (9, true, .pointer (some ⟨b9_16, 0, none⟩)), (22, true, .int .i64 (i13 : Int)), (23, true, .slice a4_0 x4.length c4_0), (24, true, .int .i64 (x4.length : Int)), (25, true, .bool true), (28, true, .pointer (some ⟨b2_1, 0, none⟩)), (29, true, .slice a0_0 p0.Rows.length c0_0), (30, true, .int .i64 (p0.Rows.length : Int)), (31, true, .int .i64 (IntKind.i64.wrap ((p0.Rows.length : Int) + 1))), (32, true, .slice a4_0 x4.length c4_0), (33, true, .int .i64 (i13 : Int)), (34, true, .pointer (some q17)), (35, true, .pointer (some ⟨q17.block, q17.off + 0, q17.spot⟩)), (36, true, .string z13.Key), (37, true, .slice a4_0 x4.length c4_0), (38, true, .int .i64 (i13 : Int)), (39, true, .pointer (some q18)), (40, true, .pointer (some ⟨q18.block, q18.off + 2, q18.spot⟩)), (41, true, .bool z13.Del), (42, true, .agg #[.int .i64 (IntKind.i64.wrap ((p0.Rows.length : Int) + 1)), .string z13.Key, .string ByteArray.empty, .bool z13.Del]), (43, true, .pointer (some ⟨b9_16, 3, none⟩)), (44, true, .bool z13.Del), (45, true, .bool (!z13.Del))]) (fun s => (List.flatten [[⟨b9_16, .cells [.int .i64 (IntKind.i64.wrap ((p0.Rows.length : Int) + 1)), .string z13.Key, .string s20, .bool z13.Del] 108⟩], a13_1, [⟨b4_2, .cells [.slice none 0 0, .int .i64 0] 36⟩], [⟨b2_1, .cells [.slice a0_0 p0.Rows.length c0_0, .int .i64 p0.Hor] 36⟩]] : List Blk)) ?_ (fun J20 => ?_)
        ·
          rintro _ h20 e20 w20 _
          replace hF := hK20
          refine go_region ?_
          refine gM rfl rfl ?_
          refine gr rfl (r_load (ot rfl) (lm_w (mem_seg 0 rfl) ag_108 sz_108 rfl)) ?_
          refine gs_bslice (cs := [.int .i64 (IntKind.i64.wrap ((p0.Rows.length : Int) + 1)), .string z13.Key, .string s20, .bool z13.Del]) rfl (op1 (ot rfl) op0) ut_50 sz_108 zo_108 rfl rfl ?_; intro b54_21
          replace hF := obind hF
          obtain ⟨x22, hx22, hF⟩ := hF
          obtain ⟨hr22, hz22_⟩ := appL_some hx22; subst x22
          refine gs_front (.s (.s (.z))) ?_
          refine gs_app (rows2 := [[.int .i64 (IntKind.i64.wrap ((p0.Rows.length : Int) + 1)), .string z13.Key, .string s20, .bool z13.Del]]) (R := R_TEvent) rfl (os1 (ot rfl) (os1 (ot rfl) os0)) rfl ut_50 sz_108 rfl (by decide) by_108 zo_108 rfl zs_50_50 rfl rfl (first_m (mem_seg 1 rfl) rfl (by decide)) (Rws.one (x := (⟨(IntKind.i64.wrap ((p0.Rows.length : Int) + 1)), z13.Key, s20, z13.Del⟩ : TEvent)) rfl) (f13_0.ext e20.kn) hr22 (fun p22_ tl22 f22_ => ?_)
          refine gA rfl rfl ?_
          refine go_nil ?_
          refine go_endb ?_
          refine go_region ?_
          refine gM rfl rfl ?_
          refine gr rfl (r_bin (ot rfl) (oc rfl) rfl) ?_
          refine gA rfl rfl ?_
          refine go_nil ?_
          refine gs_sub (.cons_cons _ (.cons _ (.cons _ (.cons_cons _ (.cons_cons _ (.refl _)))))) ?_
          refine go_re 8 (v2 := .int .i64 ((i13 + 1 : Nat) : Int)) rfl (wrap_succ hi13 hb13) ?_
          exact Goes.weak (ih13 (r13, i13 + 1, (y13_0 ++ ([(⟨(IntKind.i64.wrap ((p0.Rows.length : Int) + 1)), z13.Key, s20, z13.Del⟩ : TEvent)] : List TEvent)), p22_, tl22, h20) ⟨hr13, (e13.trans e20), w20, hF, f22_⟩ (Nat.lt_succ_self _)) (Sub.cons (Sub.cons (Sub.cons (Sub.cons (Sub.cons (Sub.cons (Sub.nil _) rfl) rfl) rfl) rfl) rfl) rfl)
        ·
          refine g_cond (b := (!z13.Del)) (ot rfl) (fun hc19 => ?_) (fun hc19 => ?_)
          ·
            replace hF := ifT hc19 hF
            refine go_region ?_
            refine gM rfl rfl ?_
            refine gM rfl rfl ?_
            obtain ⟨q23, row23, i23, cl23, rc23, sp23⟩ := ix (ik := .i64) (cap := c4_0) (E := EE) (f4_0.ext e13.kn) ((getI_nat _ _).trans hx13) ut_39 sz_45 rfl
            obtain rfl := rc23
            refine gr rfl (r_ia (ot rfl) (ot rfl) i23) ?_
            refine gr rfl (r_fa (ot rfl) (fs_45_1 sp23)) ?_
            refine gr rfl (r_load (ot rfl) (v := .string z13.Val) (lo_e (fun hf kn => ld_field (r := [.string z13.Key, .string z13.Val, .bool z13.Del]) ag_9 (kn.cellsAt cl23) rfl))) ?_
            refine gr rfl (r_fa (ot rfl) (fa_108_2 _ _)) ?_
            refine gs_store (ot rfl) (ot rfl) sz_9 rfl rfl rfl rfl rfl .z ?_
            refine go_nil ?_
            obtain rfl := someI hF
            exact Goes.weak (J20 () _ (HExt.refl _) w13 trivial) (Sub.cons (Sub.cons (Sub.cons (Sub.cons (Sub.cons (Sub.cons (Sub.cons (Sub.cons (Sub.cons (Sub.cons (Sub.cons (Sub.cons (Sub.cons (Sub.cons (Sub.cons (Sub.cons (Sub.cons (Sub.cons (Sub.cons (Sub.cons (Sub.cons (Sub.cons (Sub.cons (Sub.cons (Sub.cons (Sub.cons (Sub.cons (Sub.cons (Sub.cons (Sub.nil _) rfl) rfl) rfl) rfl) rfl) rfl) rfl) rfl) rfl) rfl) rfl) rfl) rfl) rfl) rfl) rfl) rfl) rfl) rfl) rfl) rfl) rfl) rfl) rfl) rfl) rfl) rfl) rfl) rfl)
          ·
            replace hF := ifF hc19 hF
            refine go_skip ?_
            obtain rfl := someI hF
            exact Goes.weak (J20 () _ (HExt.refl _) w13 trivial) (Sub.cons (Sub.cons (Sub.cons (Sub.cons (Sub.cons (Sub.cons (Sub.cons (Sub.cons (Sub.cons (Sub.cons (Sub.cons (Sub.cons (Sub.cons (Sub.cons (Sub.cons (Sub.cons (Sub.cons (Sub.cons (Sub.cons (Sub.cons (Sub.cons (Sub.cons (Sub.cons (Sub.cons (Sub.cons (Sub.cons (Sub.cons (Sub.cons (Sub.cons (Sub.nil _) rfl) rfl) rfl) rfl) rfl) rfl) rfl) rfl) rfl) rfl) rfl) rfl) rfl) rfl) rfl) rfl) rfl) rfl) rfl) rfl) rfl) rfl) rfl) rfl) rfl) rfl) rfl) rfl) rfl)
theorem s_ref06_Compact {h : Heap} (hw : Wf h) (p0 : Timpostref06_Hist) (p1 : Int) {a0_0 : Option Addr} {c0_0 : Nat} (f0_0 : RL (Rep.sl R_TEvent 50) h a0_0 c0_0 p0.Rows) {r : Timpostref06_Hist × Int} (hF : F_ref06_Compact p0 p1 = some r) :
    Ev EE 60 [.agg #[.slice a0_0 p0.Rows.length c0_0, .int .i64 p0.Hor], .int .i64 p1] h (fun v h1 => ∃ a0 c0, v = .tuple #[.agg #[.slice a0 r.1.Rows.length c0, .int .i64 r.1.Hor], .int .i64 r.2] ∧ RL (Rep.sl R_TEvent 50) h1 a0 c0 r.1.Rows) := by
  unfold F_ref06_Compact at hF
  refine ev_of hw rfl at_60 rfl rfl (go_seg0 ?_)
  refine go_seq ?_
  refine go_region ?_
  refine gs_box rfl (ot rfl) rfl ?_; intro b2_1
  refine gs_alloc rfl zo_36 rfl ?_; intro b4_2
  refine gAc rfl rfl ?_
  refine go_nil ?_
  refine go_seq ?_
  refine go_seq ?_
  refine go_region ?_
  refine gM rfl rfl ?_
  refine gr rfl (r_bin (ot rfl) (oc rfl) rfl) ?_
  refine go_nil ?_
  refine g_cond (b := (decide (p1 < 0))) (ot rfl) (fun hc3 => ?_) (fun hc3 => ?_)
  ·
    replace hF := ifT hc3 hF
    refine go_seq ?_
    refine go_region ?_
    refine gr rfl (r_load (ot rfl) (lm_w (mem_seg 1 rfl) ag_36 sz_36 rfl)) ?_
    refine gs_store (ot rfl) (ot rfl) sz_36 rfl rfl rfl rfl rfl .z ?_
    refine gAc rfl rfl ?_
    refine go_nil ?_
    obtain rfl := someI hF
    exact g_ret (rsc rfl (lm_w (mem_seg 0 rfl) ag_36 sz_36 rfl) (rst rfl rs0)) (fun h1 hf hs => ⟨hs.hext, ⟨_, _, rfl, (f0_0.ext hs.hext.kn)⟩⟩)
  ·
    replace hF := ifF hc3 hF
    refine go_skip ?_
    refine go_seq ?_
    refine go_seq ?_
    refine go_region ?_
    refine gM rfl rfl ?_
    refine gr rfl (r_fa (ot rfl) (fa_36_0 _ _)) ?_
    refine gr rfl (r_load (ot rfl) (lm_s (mem_seg 1 rfl) ag_34 rfl)) ?_
    refine gr rfl (r_len rfl (os1 (ot rfl) os0) (fun _ _ => ln_34)) ?_
    refine gr rfl (r_bin (ot rfl) (ot rfl) rfl) ?_
    refine go_nil ?_
    refine g_cond (b := (decide (p1 > (p0.Rows.length : Int)))) (ot rfl) (fun hc4 => ?_) (fun hc4 => ?_)
    ·
      replace hF := ifT hc4 hF
      refine go_seq ?_
      refine go_region ?_
      refine gr rfl (r_load (ot rfl) (lm_w (mem_seg 1 rfl) ag_36 sz_36 rfl)) ?_
      refine gs_store (ot rfl) (ot rfl) sz_36 rfl rfl rfl rfl rfl .z ?_
      refine gAc rfl rfl ?_
      refine go_nil ?_
      obtain rfl := someI hF
      exact g_ret (rsc rfl (lm_w (mem_seg 0 rfl) ag_36 sz_36 rfl) (rst rfl rs0)) (fun h1 hf hs => ⟨hs.hext, ⟨_, _, rfl, (f0_0.ext hs.hext.kn)⟩⟩)
    ·
      replace hF := ifF hc4 hF
      refine go_skip ?_
      refine go_seq ?_
      refine go_region ?_
      refine gr rfl (r_fa (ot rfl) (fa_36_0 _ _)) ?_
      refine gr rfl (r_load (ot rfl) (lm_s (mem_seg 1 rfl) ag_34 rfl)) ?_
      refine gr rfl (r_fa (ot rfl) (fa_36_1 _ _)) ?_
      refine gr rfl (r_load (ot rfl) (lm_s (mem_seg 1 rfl) ag_3 rfl)) ?_
      refine gM rfl rfl ?_
      refine gr rfl (r_max (os1 (ot rfl) (os1 (ot rfl) os0)) rfl) ?_
      refine gr rfl (r_build (op1 (ot rfl) (op1 (ot rfl) op0)) rfl) ?_
      refine gs_store (ot rfl) (ot rfl) sz_36 rfl rfl rfl rfl rfl .z ?_
      refine gAc rfl rfl ?_
      refine go_nil ?_
      obtain rfl := someI hF
      exact g_ret (rsc rfl (lm_w (mem_seg 0 rfl) ag_36 sz_36 rfl) (rst rfl rs0)) (fun h1 hf hs => ⟨hs.hext, ⟨_, _, rfl, (f0_0.ext hs.hext.kn)⟩⟩)
end Go.Proofs.Ytpfdandpmpmbiaa.V
