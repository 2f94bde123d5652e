/- Walks.
   No condition: these are laws of the clean machine and of this program. -/
import Derived.Test.YtndhbaidibioeaaGreatYb
namespace Go.Proofs.YtndhbaidibioeaaGreat.V
open Go
set_option linter.unusedVariables false
set_option linter.unusedSimpArgs false
set_option maxRecDepth 100000
set_option maxHeartbeats 4000000
theorem s_ref14_In {h : Heap} (hw : Wf h) (p0 : (List ByteArray)) (p1 : ByteArray) {a0_0 : Option Addr} {c0_0 : Nat} (f0_0 : RL (RS_ 9) h a0_0 c0_0 p0) {r : Bool} (hF : F_ref14_In p0 p1 = some r) :
 Ev EE 66 [.slice a0_0 p0.length c0_0, .string p1] h (fun v _ => v = .bool r) := by
 unfold F_ref14_In at hF
 refine ev_of hw rfl at_66 rfl rfl (go_seg0 ?_)
 refine go_seq (go_region (gAc rfl rfl (go_nil (go_seq (go_seq (go_region (gAc rfl rfl (go_nil ?_))))))))
 obtain ⟨s3, hF, hK3⟩ := obind hF
 refine go_joinc (β := (Unit)) (fun s h' => s3 = .go s) (fun s => [(4, true, .bool false)]) (fun s => (List.flatten [] : List Blk)) ?_ (fun J3 => ?_)
 ·
  rintro _ h3 e3 w3 hs3
  subst hs3
  replace hF := lpgo hK3
  refine go_seq (go_region (gAc rfl rfl (go_nil ?_)))
  obtain rfl := someI hF
  exact g_ret (rst rfl rs0) (fun h1 hf hs => ⟨(e3.trans hs.hext), rfl⟩)
 ·
  refine go_block ?_
  refine go_loop (α := (List ByteArray) × Nat × Heap) (fun a => a.1 = List.drop a.2.1 p0 ∧ HExt h a.2.2 ∧ Wf a.2.2 ∧ F_ref14_In_L1 p1 a.1 a.2.1 = some s3) (fun a => a.1.length) (fun a => [(0, true, .slice a0_0 p0.length c0_0), (1, true, .string p1), (4, true, .bool false), (5, true, .int .i64 (a.2.1 : Int))]) (fun a => (List.flatten [] : List Blk)) (fun a => a.2.2) ?_ (p0, 0, h) ⟨rfl, HExt.refl _, hw, hF⟩ (Sub.cons (Sub.cons (Sub.cons (Sub.cons (Sub.nil _) rfl) rfl) rfl) rfl) rfl rfl
  rintro ⟨r4, i4, h4⟩ ⟨hr4, e4, w4, hF⟩ ih4
  rcases r4 with _ | ⟨z4, r4⟩
  ·
   have hi4 := drop_nil hr4
   rw [F_ref14_In_L1.eq_1] at hF
   refine go_seq (go_seq (go_region (gM rfl rfl (gM rfl rfl (gr rfl (r_len rfl (os1 (ot rfl) os0) (fun _ _ => ln_65)) (gr rfl (r_bin (ot rfl) (ot rfl) rfl) (go_cast (.bool false) (congrArg Value.bool (decide_eq_false hi4)) (go_nil ?_))))))))
   refine g_cond (b := false) (ot rfl) (fun hc5 => ?_) (fun hc5 => ?_)
   ·
    cases hc5
   refine go_exit rfl ?_
   obtain rfl := someI hF
   exact Goes.weak (J3 () _ e4 w4 rfl) (Sub.cons (Sub.nil _) rfl)
  ·
   obtain ⟨hi4, hx4, hr4⟩ := drop_cons hr4
   have hb4 := (f0_0.ext e4.kn).1
   rw [F_ref14_In_L1.eq_2] at hF
   refine go_seq (go_seq (go_region (gM rfl rfl (gM rfl rfl (gr rfl (r_len rfl (os1 (ot rfl) os0) (fun _ _ => ln_65)) (gr rfl (r_bin (ot rfl) (ot rfl) rfl) (go_cast (.bool true) (congrArg Value.bool (decide_eq_true (Int.ofNat_lt.mpr hi4))) (go_nil ?_))))))))
   refine g_cond (b := true) (ot rfl) (fun hc6 => ?_) (fun hc6 => ?_)
   rotate_left
   ·
    cases hc6
   refine go_skip (go_seq (go_block (go_seq (go_region (gM rfl rfl (gM rfl rfl ?_))))))
   obtain ⟨q7, row7, i7, cl7, rc7, sp7⟩ := ix (ik := .i64) (cap := c0_0) (E := EE) (f0_0.ext e4.kn) ((getI_nat _ _).trans hx4) ut_65 sz_9 rfl
   obtain rfl := rc7
   refine gr rfl (r_ia (ot rfl) (ot rfl) i7) (gr rfl (r_load (ot rfl) (v := .string z4) (lo_e (fun hf kn => ld_one ag_9 (kn.cellsAt cl7)))) (gM rfl rfl (gr rfl (r_bin (ot rfl) (ot rfl) rfl) (go_nil ?_))))
   refine g_cond (b := (eqB z4 p1)) (ot rfl) (fun hc8 => ?_) (fun hc8 => ?_)
   ·
    replace hF := ifT hc8 hF
    refine go_seq (go_region (gAc rfl rfl (go_nil ?_)))
    obtain rfl := someI hF
    obtain rfl := someI hK3
    exact g_ret (rst rfl rs0) (fun h1 hf hs => ⟨(e4.trans hs.hext), rfl⟩)
   ·
    replace hF := ifF hc8 hF
    refine go_skip (go_endb (go_region (gM rfl rfl (gr rfl (r_bin (ot rfl) (oc rfl) rfl) (gA rfl rfl (go_nil (go_re 5 (v2 := .int .i64 ((i4 + 1 : Nat) : Int)) rfl (wrap_succ hi4 hb4) ?_)))))))
    exact Goes.weak (ih4 (r4, i4 + 1, h4) ⟨hr4, e4, w4, hF⟩ (Nat.lt_succ_self _)) (Sub.cons (Sub.cons (Sub.cons (Sub.cons (Sub.nil _) rfl) rfl) rfl) rfl)
theorem s_ref14_Do {h : Heap} (hw : Wf h) (p0 : (List ByteArray)) (p1 : Timpostref14_Call) {a0_0 : Option Addr} {c0_0 : Nat} (f0_0 : RL (RS_ 9) h a0_0 c0_0 p0) {r : (List ByteArray) × Bool} (hF : F_ref14_Do p0 p1 = some r) :
 Ev EE 32 [.slice a0_0 p0.length c0_0, .agg #[.int .i64 p1.Kind, .string p1.Key, .bool p1.Ok, .int .i64 p1.Inv, .int .i64 p1.Ret]] h (fun v h1 => ∃ a0 c0, v = .tuple #[.slice a0 r.1.length c0, .bool r.2] ∧ RL (RS_ 9) h1 a0 c0 r.1) := by
 unfold F_ref14_Do at hF
 refine ev_of hw rfl at_32 rfl rfl (go_seg0 ?_)
 refine go_seq (go_region (gs_box rfl (ot rfl) rfl (fun b3_3 => gAc rfl rfl (gAc rfl rfl (go_nil (go_seq (go_region (gM rfl rfl (gF (fa_73_1 _ _) rfl rfl (gls 0 ag_9 rfl rfl rfl rfl ?_))))))))))
 obtain ⟨x4, hx4, hF⟩ := obind hF
 refine g_callp (v := .bool x4) EE_fr rfl of (os1 (ot rfl) (os1 (ot rfl) os0)) hb_66 (fun _ => rfl) (fun hf kn w => by exact s_ref14_In w p0 p1.Key (f0_0.ext kn) hx4) (gA rfl rfl (go_nil (go_seq (go_seq (go_region (gF (fa_73_0 _ _) rfl rfl (gls 0 ag_3 rfl rfl rfl rfl (gr rfl (r_bin (ot rfl) (oc rfl) rfl) (gM rfl rfl (grt rfl rfl rfl rfl (r_fa (ot rfl) (fa_73_0 _ _)) (grt rfl rfl rfl rfl (r_load (og rfl id) (lm_s (mem_seg 0 rfl) ag_3 rfl)) (grt rfl rfl rfl rfl (r_bin (og rfl id) (oc rfl) rfl) (gr rfl (r_pickb (ot rfl) (og rfl id) (oc rfl)) (go_nil ?_))))))))))))))
 refine g_cond (b := (bif (p1.Kind != 1) then (p1.Kind != 2) else false)) (ot rfl) (fun hc5 => ?_) (fun hc5 => ?_)
 ·
  replace hF := ifT hc5 hF
  refine go_seq (go_region (gM rfl rfl (gM rfl rfl (gA rfl rfl (gA rfl rfl (go_nil ?_))))))
  obtain rfl := someI hF
  exact g_ret (rst rfl (rst rfl rs0)) (fun h1 hf hs => ⟨hs.hext, ⟨_, _, rfl, (f0_0.ext hs.hext.kn)⟩⟩)
 ·
  replace hF := ifF hc5 hF
  refine go_skip (go_seq (go_region (gAc rfl rfl (go_nil (go_seq (go_seq (go_region (gAc rfl rfl (go_nil ?_)))))))))
  obtain ⟨s6, hF, hK6⟩ := obind hF
  refine go_joinc (β := Option Addr × List Blk) (fun s h' => AccR (RS_ 9) 9 h' s.2 (.slice s.1 s6.length s6.length) s6) (fun s => [(3, true, pt b3_3), (4, true, .slice none 0 0), (5, true, .bool false), (6, true, .bool x4), (7, true, .slice s.1 s6.length s6.length)]) (fun s => (List.flatten [s.2, [⟨b3_3, .cells [.int .i64 p1.Kind, .string p1.Key, .bool p1.Ok, .int .i64 p1.Inv, .int .i64 p1.Ret] 73⟩]] : List Blk)) ?_ (fun J6 => ?_)
  ·
   rintro ⟨a6_0, a6_1⟩ h6 e6 w6 f6_0
   replace hF := hK6
   refine go_seq (go_seq (go_region (gF (fa_73_0 _ _) rfl rfl (gls 1 ag_3 rfl rfl rfl rfl (gr rfl (r_bin (ot rfl) (oc rfl) rfl) (go_nil ?_))))))
   refine g_cond (b := (p1.Kind == 2)) (ot rfl) (fun hc7 => ?_) (fun hc7 => ?_)
   ·
    replace hF := ifT hc7 hF
    refine go_seq (go_region (gM rfl rfl (gM rfl rfl (gA rfl rfl (gA rfl rfl (go_nil ?_))))))
    refine gs_accpub .z f6_0 (fun h8 e8 w8 f8_ => ?_) rfl
    obtain rfl := someI hF
    exact g_ret (rst rfl (rst rfl rs0)) (fun h1 hf hs => ⟨(e6.trans (e8.trans hs.hext)), ⟨_, _, rfl, (f8_.ext hs.hext.kn)⟩⟩)
   ·
    replace hF := ifF hc7 hF
    refine go_skip (go_seq (go_region (gM rfl rfl (gF (fa_73_1 _ _) rfl rfl (gls 1 ag_9 rfl rfl rfl rfl (gs_bslice (cs := [.string p1.Key]) rfl (op1 (ot rfl) op0) ut_65 sz_9 zo_9 rfl rfl (fun b51_9 => ?_)))))))
    obtain ⟨x10, hx10, hF⟩ := obind hF
    obtain ⟨hr10, hz10_⟩ := appL_some hx10; subst x10
    refine gs_front (.s (.z)) (gs_app (rows2 := [[.string p1.Key]]) (R := (RS_ 9)) rfl (os1 (ot rfl) (os1 (ot rfl) os0)) rfl ut_65 sz_9 rfl (by decide) by_9 zo_9 rfl zs_65_65 rfl rfl (first_m (mem_seg 1 rfl) rfl (by decide)) (Rws.one (x := p1.Key) rfl) f6_0 hr10 (fun p10_ tl10 f10_ => gA rfl rfl (go_nil (go_seq (go_region (gM rfl rfl (gM rfl rfl (gr rfl (r_un (ot rfl) rfl) (gA rfl rfl (gA rfl rfl (go_nil ?_)))))))))))
    refine gs_accpub .z f10_ (fun h11 e11 w11 f11_ => ?_) rfl
    obtain rfl := someI hF
    exact g_ret (rst rfl (rst rfl rs0)) (fun h1 hf hs => ⟨(e6.trans (e11.trans hs.hext)), ⟨_, _, rfl, (f11_.ext hs.hext.kn)⟩⟩)
  ·
   refine go_block ?_
   refine go_loop (α := (List ByteArray) × Nat × (List ByteArray) × Option Addr × List Blk × Heap) (fun a => a.1 = List.drop a.2.1 p0 ∧ HExt h a.2.2.2.2.2 ∧ Wf a.2.2.2.2.2 ∧ F_ref14_Do_L1 p1 a.1 a.2.1 a.2.2.1 = some s6 ∧ AccR (RS_ 9) 9 a.2.2.2.2.2 a.2.2.2.2.1 (.slice a.2.2.2.1 a.2.2.1.length a.2.2.1.length) a.2.2.1) (fun a => a.1.length) (fun a => [(0, true, .slice a0_0 p0.length c0_0), (3, true, pt b3_3), (4, true, .slice none 0 0), (5, true, .bool false), (6, true, .bool x4), (7, true, .slice a.2.2.2.1 a.2.2.1.length a.2.2.1.length), (8, true, .int .i64 (a.2.1 : Int))]) (fun a => (List.flatten [a.2.2.2.2.1, [⟨b3_3, .cells [.int .i64 p1.Kind, .string p1.Key, .bool p1.Ok, .int .i64 p1.Inv, .int .i64 p1.Ret] 73⟩]] : List Blk)) (fun a => a.2.2.2.2.2) ?_ (p0, 0, ([] : List ByteArray), none, [], h) ⟨rfl, HExt.refl _, hw, hF, (AccR.nil _ _ _)⟩ (Sub.cons (Sub.cons (Sub.cons (Sub.cons (Sub.cons (Sub.cons (Sub.cons (Sub.nil _) rfl) rfl) rfl) rfl) rfl) rfl) rfl) rfl rfl
   rintro ⟨r12, i12, y12_0, a12_0, a12_1, h12⟩ ⟨hr12, e12, w12, hF, f12_0⟩ ih12
   rcases r12 with _ | ⟨z12, r12⟩
   ·
    have hi12 := drop_nil hr12
    rw [F_ref14_Do_L1.eq_1] at hF
    refine go_seq (go_seq (go_region (gM rfl rfl (gM rfl rfl (gr rfl (r_len rfl (os1 (ot rfl) os0) (fun _ _ => ln_65)) (gr rfl (r_bin (ot rfl) (ot rfl) rfl) (go_cast (.bool false) (congrArg Value.bool (decide_eq_false hi12)) (go_nil ?_))))))))
    refine g_cond (b := false) (ot rfl) (fun hc13 => ?_) (fun hc13 => ?_)
    ·
     cases hc13
    refine go_exit rfl ?_
    obtain rfl := someI hF
    exact Goes.weak (J6 (a12_0, a12_1) _ e12 w12 f12_0) (Sub.cons (Sub.cons (Sub.cons (Sub.cons (Sub.cons (Sub.nil _) rfl) rfl) rfl) rfl) rfl)
   ·
    obtain ⟨hi12, hx12, hr12⟩ := drop_cons hr12
    have hb12 := (f0_0.ext e12.kn).1
    rw [F_ref14_Do_L1.eq_2] at hF
    refine go_seq (go_seq (go_region (gM rfl rfl (gM rfl rfl (gr rfl (r_len rfl (os1 (ot rfl) os0) (fun _ _ => ln_65)) (gr rfl (r_bin (ot rfl) (ot rfl) rfl) (go_cast (.bool true) (congrArg Value.bool (decide_eq_true (Int.ofNat_lt.mpr hi12))) (go_nil ?_))))))))
    refine g_cond (b := true) (ot rfl) (fun hc14 => ?_) (fun hc14 => ?_)
    rotate_left
    ·
     cases hc14
    refine go_skip (go_seq (go_block (go_seq (go_regionq (by kernel_rfl) (gM rfl rfl (gM rfl rfl ?_))))))
    obtain ⟨q15, row15, i15, cl15, rc15, sp15⟩ := ix (ik := .i64) (cap := c0_0) (E := EE) (f0_0.ext e12.kn) ((getI_nat _ _).trans hx12) ut_65 sz_9 rfl
    obtain rfl := rc15
    refine gr rfl (r_ia (ot rfl) (ot rfl) i15) (gr rfl (r_load (ot rfl) (v := .string z12) (lo_e (fun hf kn => ld_one ag_9 (kn.cellsAt cl15)))) (gF (fa_73_1 _ _) rfl rfl (gls 1 ag_9 rfl rfl rfl rfl (gr rfl (r_bin (ot rfl) (ot rfl) rfl) (go_nil ?_)))))
    obtain ⟨s17, hF, hK17⟩ := obind hF
    refine go_joinc (β := Option Addr × List Blk) (fun s h' => AccR (RS_ 9) 9 h' s.2 (.slice s.1 s17.length s17.length) s17) (fun s => [(0, true, .slice a0_0 p0.length c0_0), (3, true, pt b3_3), (4, true, .slice none 0 0), (5, true, .bool false), (6, true, .bool x4), (7, true, .slice s.1 s17.length s17.length), (8, true, .int .i64 (i12 : Int)), (23, true, .int .i64 (i12 : Int)), (24, true, .slice a0_0 p0.length c0_0), (25, true, .int .i64 (p0.length : Int)), (26, true, .bool true), (29, true, .slice a0_0 p0.length c0_0), (30, true, .int .i64 (i12 : Int)), (31, true, .pointer (some q15)), (32, true, .string z12), (33, true, .pointer (some ⟨b3_3, 1, none⟩)), (34, true, .string p1.Key), (35, true, .bool (!eqB z12 p1.Key))]) (fun s => (List.flatten [s.2, [⟨b3_3, .cells [.int .i64 p1.Kind, .string p1.Key, .bool p1.Ok, .int .i64 p1.Inv, .int .i64 p1.Ret] 73⟩]] : List Blk)) ?_ (fun J17 => ?_)
    ·
     rintro ⟨a17_0, a17_1⟩ h17 e17 w17 f17_0
     replace hF := hK17
     refine go_endb (go_region (gM rfl rfl (gr rfl (r_bin (ot rfl) (oc rfl) rfl) (gA rfl rfl (go_nil (go_re 8 (v2 := .int .i64 ((i12 + 1 : Nat) : Int)) rfl (wrap_succ hi12 hb12) ?_))))))
     exact Goes.weak (ih12 (r12, i12 + 1, s17, a17_0, a17_1, h17) ⟨hr12, (e12.trans e17), w17, hF, f17_0⟩ (Nat.lt_succ_self _)) (Sub.cons (Sub.cons (Sub.cons (Sub.cons (Sub.cons (Sub.cons (Sub.cons (Sub.nil _) rfl) rfl) rfl) rfl) rfl) rfl) rfl)
    ·
     refine g_cond (b := (!eqB z12 p1.Key)) (ot rfl) (fun hc16 => ?_) (fun hc16 => ?_)
     ·
      replace hF := ifT hc16 hF
      refine go_region (gM rfl rfl (gM rfl rfl (gM rfl rfl ?_)))
      obtain ⟨q18, row18, i18, cl18, rc18, sp18⟩ := ix (ik := .i64) (cap := c0_0) (E := EE) (f0_0.ext e12.kn) ((getI_nat _ _).trans hx12) ut_65 sz_9 rfl
      obtain rfl := rc18
      refine gr rfl (r_ia (ot rfl) (ot rfl) i18) (gr rfl (r_load (ot rfl) (v := .string z12) (lo_e (fun hf kn => ld_one ag_9 (kn.cellsAt cl18)))) (gs_bslice (cs := [.string z12]) rfl (op1 (ot rfl) op0) ut_65 sz_9 zo_9 rfl rfl (fun b41_19 => ?_)))
      obtain ⟨x20, hx20, hF⟩ := obind hF
      obtain ⟨hr20, hz20_⟩ := appL_some hx20; subst x20
      refine gs_front (.s (.z)) (gs_app (rows2 := [[.string z12]]) (R := (RS_ 9)) rfl (os1 (ot rfl) (os1 (ot rfl) os0)) rfl ut_65 sz_9 rfl (by decide) by_9 zo_9 rfl zs_65_65 rfl rfl (first_m (mem_seg 1 rfl) rfl (by decide)) (Rws.one (x := z12) rfl) f12_0 hr20 (fun p20_ tl20 f20_ => gA rfl rfl (go_nil ?_)))
      obtain rfl := someI hF
      refine gs_sub (.cons_cons _ (.cons _ (.cons_cons _ (.refl _)))) ?_
      exact Goes.weak (J17 (p20_, tl20) _ (HExt.refl _) w12 f20_) (Sub.cons (Sub.cons (Sub.cons (Sub.cons (Sub.cons (Sub.cons (Sub.cons (Sub.cons (Sub.cons (Sub.cons (Sub.cons (Sub.cons (Sub.cons (Sub.cons (Sub.cons (Sub.cons (Sub.cons (Sub.cons (Sub.nil _) rfl) rfl) rfl) rfl) rfl) rfl) rfl) rfl) rfl) rfl) rfl) rfl) rfl) rfl) rfl) rfl) rfl) rfl)
     ·
      replace hF := ifF hc16 hF
      refine go_skip ?_
      obtain rfl := someI hF
      exact Goes.weak (J17 (a12_0, a12_1) _ (HExt.refl _) w12 f12_0) (Sub.cons (Sub.cons (Sub.cons (Sub.cons (Sub.cons (Sub.cons (Sub.cons (Sub.cons (Sub.cons (Sub.cons (Sub.cons (Sub.cons (Sub.cons (Sub.cons (Sub.cons (Sub.cons (Sub.cons (Sub.cons (Sub.nil _) rfl) rfl) rfl) rfl) rfl) rfl) rfl) rfl) rfl) rfl) rfl) rfl) rfl) rfl) rfl) rfl) rfl) rfl)
theorem s_ref15_Same {h : Heap} (hw : Wf h) (p0 : (List ByteArray)) (p1 : (List ByteArray)) {a0_0 : Option Addr} {c0_0 : Nat} {a1_0 : Option Addr} {c1_0 : Nat} (f0_0 : RL (RS_ 9) h a0_0 c0_0 p0) (f1_0 : RL (RS_ 9) h a1_0 c1_0 p1) {r : Bool} (hF : F_ref15_Same p0 p1 = some r) :
 Ev EE 34 [.slice a0_0 p0.length c0_0, .slice a1_0 p1.length c1_0] h (fun v _ => v = .bool r) := by
 unfold F_ref15_Same at hF
 refine ev_of hw rfl at_34 rfl rfl (go_seg0 ?_)
 refine go_seq (go_region (gAc rfl rfl (go_nil (go_seq (go_seq (go_region (gM rfl rfl (gr rfl (r_len rfl (os1 (ot rfl) os0) (fun _ _ => ln_65)) (gM rfl rfl (gr rfl (r_len rfl (os1 (ot rfl) os0) (fun _ _ => ln_65)) (gr rfl (r_bin (ot rfl) (ot rfl) rfl) (go_nil ?_))))))))))))
 refine g_cond (b := ((p0.length : Int) != (p1.length : Int))) (ot rfl) (fun hc3 => ?_) (fun hc3 => ?_)
 ·
  replace hF := ifT hc3 hF
  refine go_seq (go_region (gAc rfl rfl (go_nil ?_)))
  obtain rfl := someI hF
  exact g_ret (rst rfl rs0) (fun h1 hf hs => ⟨hs.hext, rfl⟩)
 ·
  replace hF := ifF hc3 hF
  refine go_skip (go_seq (go_seq (go_region (gAc rfl rfl (go_nil ?_)))))
  obtain ⟨s4, hF, hK4⟩ := obind hF
  refine go_joinc (β := (Unit)) (fun s h' => s4 = .go s) (fun s => [(4, true, .bool false)]) (fun s => (List.flatten [] : List Blk)) ?_ (fun J4 => ?_)
  ·
   rintro _ h4 e4 w4 hs4
   subst hs4
   replace hF := lpgo hK4
   refine go_seq (go_region (gAc rfl rfl (go_nil ?_)))
   obtain rfl := someI hF
   exact g_ret (rst rfl rs0) (fun h1 hf hs => ⟨(e4.trans hs.hext), rfl⟩)
  ·
   refine go_block ?_
   refine go_loop (α := (List ByteArray) × Nat × Heap) (fun a => a.1 = List.drop a.2.1 p0 ∧ HExt h a.2.2 ∧ Wf a.2.2 ∧ F_ref15_Same_L1 p1 a.1 a.2.1 = some s4) (fun a => a.1.length) (fun a => [(0, true, .slice a0_0 p0.length c0_0), (1, true, .slice a1_0 p1.length c1_0), (4, true, .bool false), (5, true, .int .i64 (a.2.1 : Int))]) (fun a => (List.flatten [] : List Blk)) (fun a => a.2.2) ?_ (p0, 0, h) ⟨rfl, HExt.refl _, hw, hF⟩ (Sub.cons (Sub.cons (Sub.cons (Sub.cons (Sub.nil _) rfl) rfl) rfl) rfl) rfl rfl
   rintro ⟨r5, i5, h5⟩ ⟨hr5, e5, w5, hF⟩ ih5
   rcases r5 with _ | ⟨z5, r5⟩
   ·
    have hi5 := drop_nil hr5
    rw [F_ref15_Same_L1.eq_1] at hF
    refine go_seq (go_seq (go_region (gM rfl rfl (gM rfl rfl (gr rfl (r_len rfl (os1 (ot rfl) os0) (fun _ _ => ln_65)) (gr rfl (r_bin (ot rfl) (ot rfl) rfl) (go_cast (.bool false) (congrArg Value.bool (decide_eq_false hi5)) (go_nil ?_))))))))
    refine g_cond (b := false) (ot rfl) (fun hc6 => ?_) (fun hc6 => ?_)
    ·
     cases hc6
    refine go_exit rfl ?_
    obtain rfl := someI hF
    exact Goes.weak (J4 () _ e5 w5 rfl) (Sub.cons (Sub.nil _) rfl)
   ·
    obtain ⟨hi5, hx5, hr5⟩ := drop_cons hr5
    have hb5 := (f0_0.ext e5.kn).1
    rw [F_ref15_Same_L1.eq_2] at hF
    refine go_seq (go_seq (go_region (gM rfl rfl (gM rfl rfl (gr rfl (r_len rfl (os1 (ot rfl) os0) (fun _ _ => ln_65)) (gr rfl (r_bin (ot rfl) (ot rfl) rfl) (go_cast (.bool true) (congrArg Value.bool (decide_eq_true (Int.ofNat_lt.mpr hi5))) (go_nil ?_))))))))
    refine g_cond (b := true) (ot rfl) (fun hc7 => ?_) (fun hc7 => ?_)
    rotate_left
    ·
     cases hc7
    refine go_skip (go_seq (go_block (go_seq (go_regionq (by kernel_rfl) (gM rfl rfl (gM rfl rfl ?_))))))
    obtain ⟨q8, row8, i8, cl8, rc8, sp8⟩ := ix (ik := .i64) (cap := c0_0) (E := EE) (f0_0.ext e5.kn) ((getI_nat _ _).trans hx5) ut_65 sz_9 rfl
    obtain rfl := rc8
    refine gr rfl (r_ia (ot rfl) (ot rfl) i8) (gr rfl (r_load (ot rfl) (v := .string z5) (lo_e (fun hf kn => ld_one ag_9 (kn.cellsAt cl8)))) (gM rfl rfl (gM rfl rfl ?_)))
    obtain ⟨x9, hx9, hF⟩ := obind hF
    obtain ⟨q9, row9, i9, cl9, rc9, sp9⟩ := ix (ik := .i64) (cap := c1_0) (E := EE) (f1_0.ext e5.kn) hx9 ut_65 sz_9 rfl
    obtain rfl := rc9
    refine gr rfl (r_ia (ot rfl) (ot rfl) i9) (gr rfl (r_load (ot rfl) (v := .string x9) (lo_e (fun hf kn => ld_one ag_9 (kn.cellsAt cl9)))) (gr rfl (r_bin (ot rfl) (ot rfl) rfl) (go_nil ?_)))
    refine g_cond (b := (!eqB z5 x9)) (ot rfl) (fun hc10 => ?_) (fun hc10 => ?_)
    ·
     replace hF := ifT hc10 hF
     refine go_seq (go_region (gAc rfl rfl (go_nil ?_)))
     obtain rfl := someI hF
     obtain rfl := someI hK4
     exact g_ret (rst rfl rs0) (fun h1 hf hs => ⟨(e5.trans hs.hext), rfl⟩)
    ·
     replace hF := ifF hc10 hF
     refine go_skip (go_endb (go_region (gM rfl rfl (gr rfl (r_bin (ot rfl) (oc rfl) rfl) (gA rfl rfl (go_nil (go_re 5 (v2 := .int .i64 ((i5 + 1 : Nat) : Int)) rfl (wrap_succ hi5 hb5) ?_)))))))
     exact Goes.weak (ih5 (r5, i5 + 1, h5) ⟨hr5, e5, w5, hF⟩ (Nat.lt_succ_self _)) (Sub.cons (Sub.cons (Sub.cons (Sub.cons (Sub.nil _) rfl) rfl) rfl) rfl)
theorem s_ref15_Kept {h : Heap} (hw : Wf h) (p0 : (List ByteArray)) {a0_0 : Option Addr} {c0_0 : Nat} (f0_0 : RL (RS_ 9) h a0_0 c0_0 p0) {r : (List ByteArray)} (hF : F_ref15_Kept p0 = some r) :
 Ev EE 36 [.slice a0_0 p0.length c0_0] h (fun v h1 => ∃ a0 c0, v = .slice a0 r.length c0 ∧ RL (RS_ 9) h1 a0 c0 r) := by
 unfold F_ref15_Kept at hF
 refine ev_of hw rfl at_36 rfl rfl (go_seg0 ?_)
 refine go_seq (go_region (gAc rfl rfl (go_nil (go_seq (go_region (gAc rfl rfl (go_nil (go_seq (go_seq (go_region (gAc rfl rfl (go_nil ?_))))))))))))
 obtain ⟨s2, hF, hK2⟩ := obind hF
 refine go_joinc (β := Option Addr × List Blk) (fun s h' => AccR (RS_ 9) 9 h' s.2 (.slice s.1 s2.length s2.length) s2) (fun s => [(2, true, .slice none 0 0), (3, true, .slice s.1 s2.length s2.length)]) (fun s => (List.flatten [s.2] : List Blk)) ?_ (fun J2 => ?_)
 ·
  rintro ⟨a2_0, a2_1⟩ h2 e2 w2 f2_0
  replace hF := hK2
  refine go_seq (go_region (gM rfl rfl (gA rfl rfl (go_nil ?_))))
  refine gs_accpub .z f2_0 (fun h3 e3 w3 f3_ => ?_) rfl
  obtain rfl := someI hF
  exact g_ret (rst rfl rs0) (fun h1 hf hs => ⟨(e2.trans (e3.trans hs.hext)), ⟨_, _, rfl, (f3_.ext hs.hext.kn)⟩⟩)
 ·
  refine go_block ?_
  refine go_loop (α := (List ByteArray) × Nat × (List ByteArray) × Option Addr × List Blk × Heap) (fun a => a.1 = List.drop a.2.1 p0 ∧ HExt h a.2.2.2.2.2 ∧ Wf a.2.2.2.2.2 ∧ F_ref15_Kept_L1 a.1 a.2.1 a.2.2.1 = some s2 ∧ AccR (RS_ 9) 9 a.2.2.2.2.2 a.2.2.2.2.1 (.slice a.2.2.2.1 a.2.2.1.length a.2.2.1.length) a.2.2.1) (fun a => a.1.length) (fun a => [(0, true, .slice a0_0 p0.length c0_0), (2, true, .slice none 0 0), (3, true, .slice a.2.2.2.1 a.2.2.1.length a.2.2.1.length), (4, true, .int .i64 (a.2.1 : Int))]) (fun a => (List.flatten [a.2.2.2.2.1] : List Blk)) (fun a => a.2.2.2.2.2) ?_ (p0, 0, ([] : List ByteArray), none, [], h) ⟨rfl, HExt.refl _, hw, hF, (AccR.nil _ _ _)⟩ (Sub.cons (Sub.cons (Sub.cons (Sub.cons (Sub.nil _) rfl) rfl) rfl) rfl) rfl rfl
  rintro ⟨r4, i4, y4_0, a4_0, a4_1, h4⟩ ⟨hr4, e4, w4, hF, f4_0⟩ ih4
  rcases r4 with _ | ⟨z4, r4⟩
  ·
   have hi4 := drop_nil hr4
   rw [F_ref15_Kept_L1.eq_1] at hF
   refine go_seq (go_seq (go_region (gM rfl rfl (gM rfl rfl (gr rfl (r_len rfl (os1 (ot rfl) os0) (fun _ _ => ln_65)) (gr rfl (r_bin (ot rfl) (ot rfl) rfl) (go_cast (.bool false) (congrArg Value.bool (decide_eq_false hi4)) (go_nil ?_))))))))
   refine g_cond (b := false) (ot rfl) (fun hc5 => ?_) (fun hc5 => ?_)
   ·
    cases hc5
   refine go_exit rfl ?_
   obtain rfl := someI hF
   exact Goes.weak (J2 (a4_0, a4_1) _ e4 w4 f4_0) (Sub.cons (Sub.cons (Sub.nil _) rfl) rfl)
  ·
   obtain ⟨hi4, hx4, hr4⟩ := drop_cons hr4
   have hb4 := (f0_0.ext e4.kn).1
   rw [F_ref15_Kept_L1.eq_2] at hF
   refine go_seq (go_seq (go_region (gM rfl rfl (gM rfl rfl (gr rfl (r_len rfl (os1 (ot rfl) os0) (fun _ _ => ln_65)) (gr rfl (r_bin (ot rfl) (ot rfl) rfl) (go_cast (.bool true) (congrArg Value.bool (decide_eq_true (Int.ofNat_lt.mpr hi4))) (go_nil ?_))))))))
   refine g_cond (b := true) (ot rfl) (fun hc6 => ?_) (fun hc6 => ?_)
   rotate_left
   ·
    cases hc6
   refine go_skip (go_seq ?_)
   obtain ⟨s7, hF, hK7⟩ := obind hF
   refine go_joinc (β := Option Addr × List Blk) (fun s h' => AccR (RS_ 9) 9 h' s.2 (.slice s.1 s7.1.length s7.1.length) s7.1) (fun s => [(0, true, .slice a0_0 p0.length c0_0), (2, true, .slice none 0 0), (3, true, .slice s.1 s7.1.length s7.1.length), (4, true, .int .i64 (i4 : Int)), (5, true, .int .i64 s7.2.1), (7, true, .int .i64 (i4 : Int)), (8, true, .slice a0_0 p0.length c0_0), (9, true, .int .i64 (p0.length : Int)), (10, true, .bool true), (13, true, .int .i64 s7.2.2.1), (15, true, .int .i64 (y4_0.length : Int)), (16, true, .bool s7.2.2.2.1), (17, true, .bool s7.2.2.2.2.1), (27, true, .bool s7.2.2.2.2.2.1), (30, true, .int .i64 s7.2.2.2.2.2.2.1), (32, true, .int .i64 (y4_0.length : Int)), (33, true, .bool s7.2.2.2.2.2.2.2.1), (34, true, .bool s7.2.2.2.2.2.2.2.2.1), (44, true, .bool s7.2.2.2.2.2.2.2.2.2)]) (fun s => (List.flatten [s.2] : List Blk)) ?_ (fun J7 => ?_)
   ·
    rintro ⟨a7_0, a7_1⟩ h7 e7 w7 f7_0
    replace hF := hK7
    refine go_region (gM rfl rfl (gr rfl (r_bin (ot rfl) (oc rfl) rfl) (gA rfl rfl (go_nil (go_re 4 (v2 := .int .i64 ((i4 + 1 : Nat) : Int)) rfl (wrap_succ hi4 hb4) ?_)))))
    exact Goes.weak (ih4 (r4, i4 + 1, s7.1, a7_0, a7_1, h7) ⟨hr4, (e4.trans e7), w7, hF, f7_0⟩ (Nat.lt_succ_self _)) (Sub.cons (Sub.cons (Sub.cons (Sub.cons (Sub.nil _) rfl) rfl) rfl) rfl)
   ·
    refine go_block (go_seq (go_region (gAc rfl rfl (go_nil (go_seq ?_)))))
    obtain ⟨s8, hF, hK8⟩ := obind hF
    refine go_joinc (β := Unit) (fun s h' => True) (fun s => [(0, true, .slice a0_0 p0.length c0_0), (2, true, .slice none 0 0), (3, true, .slice a4_0 y4_0.length y4_0.length), (4, true, .int .i64 (i4 : Int)), (5, true, .int .i64 s8.1), (7, true, .int .i64 (i4 : Int)), (8, true, .slice a0_0 p0.length c0_0), (9, true, .int .i64 (p0.length : Int)), (10, true, .bool true), (13, true, .int .i64 s8.2.1), (14, true, .slice a4_0 y4_0.length y4_0.length), (15, true, .int .i64 (y4_0.length : Int)), (16, true, .bool s8.2.2.1), (17, true, .bool s8.2.2.2.1), (27, true, .bool s8.2.2.2.2)]) (fun s => (List.flatten [a4_1] : List Blk)) ?_ (fun J8 => ?_)
    ·
     rintro _ h8 e8 w8 _
     replace hF := hK8
     refine go_seq (go_seq (go_regionq (by kernel_rfl) (gM rfl rfl (gM rfl rfl (gr rfl (r_len rfl (os1 (ot rfl) os0) (fun _ _ => ln_65)) (gr rfl (r_bin (ot rfl) (ot rfl) rfl) (gM rfl rfl ?_)))))))
     obtain ⟨s10, hF, hK10⟩ := obind hF
     refine go_joinr 10 (β := Unit) (fun s h' => True) (fun s => [(0, true, .slice a0_0 p0.length c0_0), (2, true, .slice none 0 0), (3, true, .slice a4_0 y4_0.length y4_0.length), (4, true, .int .i64 (i4 : Int)), (5, true, .int .i64 s8.1), (7, true, .int .i64 (i4 : Int)), (8, true, .slice a0_0 p0.length c0_0), (9, true, .int .i64 (p0.length : Int)), (10, true, .bool true), (13, true, .int .i64 s8.2.1), (14, true, .slice a4_0 y4_0.length y4_0.length), (15, true, .int .i64 (y4_0.length : Int)), (16, true, .bool s8.2.2.1), (17, true, .bool s8.2.2.2.1), (27, true, .bool s8.2.2.2.2), (30, true, .int .i64 s8.1), (31, true, .slice a4_0 y4_0.length y4_0.length), (32, true, .int .i64 (y4_0.length : Int)), (33, true, .bool (decide (s8.1 < (y4_0.length : Int)))), (34, true, .bool s10.1), (44, true, .bool s10.2)]) (fun s => (List.flatten [a4_1] : List Blk)) ?_ (fun J10 => ?_)
     ·
      rintro _ h10 e10 w10 _
      replace hF := hK10
      refine go_nil ?_
      refine g_cond (b := s10.2) (ot rfl) (fun hc11 => ?_) (fun hc11 => ?_)
      ·
       replace hF := ifT hc11 hF
       refine go_exit rfl ?_
       obtain rfl := someI hF
       exact Goes.weak (J7 (a4_0, a4_1) _ (e8.trans e10) w10 ((f4_0.ext e8.kn).ext e10.kn)) (Sub.cons (Sub.cons (Sub.cons (Sub.cons (Sub.cons (Sub.cons (Sub.cons (Sub.cons (Sub.cons (Sub.cons (Sub.cons (Sub.cons (Sub.cons (Sub.cons (Sub.cons (Sub.cons (Sub.cons (Sub.cons (Sub.cons (Sub.nil _) rfl) rfl) rfl) rfl) rfl) rfl) rfl) rfl) rfl) rfl) rfl) rfl) rfl) rfl) rfl) rfl) rfl) rfl) rfl)
      ·
       replace hF := ifF hc11 hF
       refine go_skip (go_seq (go_region (gs_bslice (cs := []) rfl op0 ut_65 sz_9 zo_9 rfl rfl (fun b45_12 => gM rfl rfl (gM rfl rfl ?_)))))
       refine gs_accpub (.s (.z)) ((f4_0.ext e8.kn).ext e10.kn) (fun h14 e14 w14 f14_ => ?_) rfl
       obtain ⟨x13, hx13, hF⟩ := obind hF
       obtain ⟨a13_, c13_, i13⟩ := subL0_ok (E := EE) f14_ hx13 (fun e => by rw [e]; rfl) ut_65 sz_9 rfl rfl
       have f13_ := i13.rl
       refine gr rfl (r_slice (ot rfl) on (oo (ot rfl)) on (fun hf kn => i13.hi kn rfl)) ?_
       obtain ⟨x15, hx15, hF⟩ := obind hF
       obtain ⟨hr15, hz15_⟩ := appL_some hx15; subst x15
       obtain ⟨rw15, hw15, hq15⟩ := RL.first f13_ (by decide)
       refine gs_app0 (rows2 := rw15) (R := (RS_ 9)) rfl (os1 (ot rfl) (os1 (ot rfl) os0)) rfl ut_65 sz_9 rfl (by decide) by_9 zo_9 rfl zs_65_65 rfl rfl (first_e hq15 (fun h' kn => kn.firstV hq15)) hw15 (AccR.lit _ _ _ _) hr15 (fun p15_ tl15 f15_ => gA rfl rfl (go_nil (go_seq (go_region (gM rfl rfl (gM rfl rfl (gM rfl rfl ?_)))))))
       obtain ⟨q16, row16, i16, cl16, rc16, sp16⟩ := ix (ik := .i64) (cap := c0_0) (E := EE) ((((f0_0.ext e4.kn).ext e8.kn).ext e10.kn).ext e14.kn) ((getI_nat _ _).trans hx4) ut_65 sz_9 rfl
       obtain rfl := rc16
       refine gr rfl (r_ia (ot rfl) (ot rfl) i16) (gr rfl (r_load (ot rfl) (v := .string z4) (lo_e (fun hf kn => ld_one ag_9 (kn.cellsAt cl16)))) (gs_bslice (cs := [.string z4]) rfl (op1 (ot rfl) op0) ut_65 sz_9 zo_9 rfl rfl (fun b55_17 => ?_)))
       obtain ⟨x18, hx18, hF⟩ := obind hF
       obtain ⟨hr18, hz18_⟩ := appL_some hx18; subst x18
       refine gs_front (.s (.z)) (gs_app (rows2 := [[.string z4]]) (R := (RS_ 9)) rfl (os1 (ot rfl) (os1 (ot rfl) os0)) rfl ut_65 sz_9 rfl (by decide) by_9 zo_9 rfl zs_65_65 rfl rfl (first_m (mem_seg 1 rfl) rfl (by decide)) (Rws.one (x := z4) rfl) f15_ hr18 (fun p18_ tl18 f18_ => gA rfl rfl (go_nil (go_seq (go_region (gM rfl rfl (gM rfl rfl (gM rfl rfl ?_))))))))
       obtain ⟨x19, hx19, hF⟩ := obind hF
       obtain ⟨a19_, c19_, i19⟩ := subL0_ok (E := EE) f14_ hx19 (fun e => by rw [e]; rfl) ut_65 sz_9 rfl rfl
       have f19_ := i19.rl
       refine gr rfl (r_slice (ot rfl) (oo (ot rfl)) on on (fun hf kn => i19.lo kn rfl)) ?_
       obtain ⟨x20, hx20, hF⟩ := obind hF
       obtain ⟨hr20, hz20_⟩ := appL_some hx20; subst x20
       obtain ⟨rw20, hw20, hq20⟩ := RL.first f19_ (by decide)
       refine gs_app (rows2 := rw20) (R := (RS_ 9)) rfl (os1 (ot rfl) (os1 (ot rfl) os0)) rfl ut_65 sz_9 rfl (by decide) by_9 zo_9 rfl zs_65_65 rfl rfl (first_e hq20 (fun h' kn => kn.firstV hq20)) hw20 f18_ hr20 (fun p20_ tl20 f20_ => gA rfl rfl (go_nil (go_region (gM rfl rfl (gA rfl rfl (go_nil (go_endb ?_)))))))
       obtain rfl := someI hF
       refine gs_sub (.cons_cons _ (.cons _ (.cons _ (.refl _)))) ?_
       exact Goes.weak (J7 (p20_, tl20) _ (e8.trans (e10.trans e14)) w14 f20_) (Sub.cons (Sub.cons (Sub.cons (Sub.cons (Sub.cons (Sub.cons (Sub.cons (Sub.cons (Sub.cons (Sub.cons (Sub.cons (Sub.cons (Sub.cons (Sub.cons (Sub.cons (Sub.cons (Sub.cons (Sub.cons (Sub.cons (Sub.nil _) rfl) rfl) rfl) rfl) rfl) rfl) rfl) rfl) rfl) rfl) rfl) rfl) rfl) rfl) rfl) rfl) rfl) rfl) rfl)
     ·
      rcases Bool.eq_false_or_eq_true (decide (s8.1 < (y4_0.length : Int))) with hb9 | hb9
      ·
       replace hF := ifT hb9 hF
       refine go_re 34 (v2 := .bool true) rfl (congrArg Value.bool hb9) (g_do rfl rfl rfl (gM rfl rfl (g_do rfl rfl rfl (gM rfl rfl (g_do rfl rfl rfl ?_)))))
       obtain ⟨x21, hx21, hF⟩ := obind hF
       obtain ⟨bb21, rw21, row21, hp21, ht21, hR21, hw21, rc21, hz21, hi21, hd21, hb21, hl21⟩ := AccR.at_ (f4_0.ext e8.kn) hx21
       have hF21_ := hF
       subst hp21; subst ht21
       replace hF := hF21_
       obtain rfl := rc21
       refine gr rfl (r_ia (ot rfl) (ot rfl) (ia_acc (k := 1) ut_65 sz_9 hz21 hi21)) (g_do rfl rfl rfl (gr rfl (r_load (ot rfl) (lm_s (mem_seg 0 rfl) ag_9 (acc_cell (j := 0) hd21 rfl))) (g_do rfl rfl rfl (gM rfl rfl (g_do rfl rfl rfl (gM rfl rfl (g_do rfl rfl rfl ?_)))))))
       obtain ⟨q22, row22, i22, cl22, rc22, sp22⟩ := ix (ik := .i64) (cap := c0_0) (E := EE) ((f0_0.ext e4.kn).ext e8.kn) ((getI_nat _ _).trans hx4) ut_65 sz_9 rfl
       obtain rfl := rc22
       refine gr rfl (r_ia (ot rfl) (ot rfl) i22) (g_do rfl rfl rfl (gr rfl (r_load (ot rfl) (v := .string z4) (lo_e (fun hf kn => ld_one ag_9 (kn.cellsAt cl22)))) (g_do rfl rfl rfl (gr rfl (r_bin (ot rfl) (ot rfl) rfl) (gr rfl (r_pkT (ot rfl) (ot rfl)) ?_)))))
       obtain rfl := someI hF
       exact Goes.weak (J10 () _ (HExt.refl _) w8 trivial) (Sub.cons (Sub.cons (Sub.cons (Sub.cons (Sub.cons (Sub.cons (Sub.cons (Sub.cons (Sub.cons (Sub.cons (Sub.cons (Sub.cons (Sub.cons (Sub.cons (Sub.cons (Sub.cons (Sub.cons (Sub.cons (Sub.cons (Sub.cons (Sub.cons (Sub.nil _) rfl) rfl) rfl) rfl) rfl) rfl) rfl) rfl) rfl) rfl) rfl) rfl) rfl) rfl) rfl) rfl) rfl) rfl) rfl) rfl) rfl)
      ·
       replace hF := ifF hb9 hF
       refine go_re 34 (v2 := .bool false) rfl (congrArg Value.bool hb9) (g_no rfl rfl rfl rfl rfl (g_no rfl rfl rfl rfl rfl (g_no rfl rfl rfl rfl rfl (g_no rfl rfl rfl rfl rfl (g_no rfl rfl rfl rfl rfl (g_no rfl rfl rfl rfl rfl (g_no rfl rfl rfl rfl rfl (g_no rfl rfl rfl rfl rfl (g_no rfl rfl rfl rfl rfl (gr rfl (r_pkF (ot rfl) (oc rfl)) ?_))))))))))
       obtain rfl := someI hF
       exact Goes.weak (J10 () _ (HExt.refl _) w8 trivial) (Sub.cons (Sub.cons (Sub.cons (Sub.cons (Sub.cons (Sub.cons (Sub.cons (Sub.cons (Sub.cons (Sub.cons (Sub.cons (Sub.cons (Sub.cons (Sub.cons (Sub.cons (Sub.cons (Sub.cons (Sub.cons (Sub.cons (Sub.cons (Sub.cons (Sub.nil _) rfl) rfl) rfl) rfl) rfl) rfl) rfl) rfl) rfl) rfl) rfl) rfl) rfl) rfl) rfl) rfl) rfl) rfl) rfl) rfl) rfl)
    ·
     refine go_block ?_
     refine go_loop (α := (List ByteArray) × Nat × Heap) (fun a => a.1 = List.drop a.2.1 y4_0 ∧ HExt h4 a.2.2 ∧ Wf a.2.2 ∧ F_ref15_Kept_L2 z4 a.1 a.2.1 = some s8) (fun a => a.1.length) (fun a => [(0, true, .slice a0_0 p0.length c0_0), (2, true, .slice none 0 0), (3, true, .slice a4_0 y4_0.length y4_0.length), (4, true, .int .i64 (i4 : Int)), (5, true, .int .i64 (a.2.1 : Int)), (7, true, .int .i64 (i4 : Int)), (8, true, .slice a0_0 p0.length c0_0), (9, true, .int .i64 (p0.length : Int)), (10, true, .bool true)]) (fun a => (List.flatten [a4_1] : List Blk)) (fun a => a.2.2) ?_ (y4_0, 0, h4) ⟨rfl, HExt.refl _, w4, hF⟩ (Sub.cons (Sub.cons (Sub.cons (Sub.cons (Sub.cons (Sub.cons (Sub.cons (Sub.cons (Sub.cons (Sub.nil _) rfl) rfl) rfl) rfl) rfl) rfl) rfl) rfl) rfl) rfl rfl
     rintro ⟨r23, i23, h23⟩ ⟨hr23, e23, w23, hF⟩ ih23
     rcases r23 with _ | ⟨z23, r23⟩
     ·
      have hi23 := drop_nil hr23
      rw [F_ref15_Kept_L2.eq_1] at hF
      refine go_seq (go_seq (go_regionq (by kernel_rfl) (gM rfl rfl (gM rfl rfl (gr rfl (r_len rfl (os1 (ot rfl) os0) (fun _ _ => ln_65)) (gr rfl (r_bin (ot rfl) (ot rfl) rfl) (go_cast (.bool false) (congrArg Value.bool (decide_eq_false hi23)) (gM rfl rfl (g_no rfl rfl rfl rfl rfl (g_no rfl rfl rfl rfl rfl (g_no rfl rfl rfl rfl rfl (g_no rfl rfl rfl rfl rfl (g_no rfl rfl rfl rfl rfl (g_no rfl rfl rfl rfl rfl (g_no rfl rfl rfl rfl rfl (g_no rfl rfl rfl rfl rfl (g_no rfl rfl rfl rfl rfl (gr rfl (r_pkF (ot rfl) (oc rfl)) (go_nil ?_)))))))))))))))))))
      refine g_cond (b := false) (ot rfl) (fun hc24 => ?_) (fun hc24 => ?_)
      ·
       cases hc24
      refine go_exit rfl ?_
      obtain rfl := someI hF
      exact Goes.weak (J8 () _ e23 w23 trivial) (Sub.cons (Sub.cons (Sub.cons (Sub.cons (Sub.cons (Sub.cons (Sub.cons (Sub.cons (Sub.cons (Sub.cons (Sub.cons (Sub.cons (Sub.cons (Sub.cons (Sub.cons (Sub.nil _) rfl) rfl) rfl) rfl) rfl) rfl) rfl) rfl) rfl) rfl) rfl) rfl) rfl) rfl) rfl)
     ·
      obtain ⟨hi23, hx23, hr23⟩ := drop_cons hr23
      have hb23 := (f4_0.ext e23.kn).1
      rw [F_ref15_Kept_L2.eq_2] at hF
      refine go_seq (go_seq (go_regionq (by kernel_rfl) (gM rfl rfl (gM rfl rfl (gr rfl (r_len rfl (os1 (ot rfl) os0) (fun _ _ => ln_65)) (gr rfl (r_bin (ot rfl) (ot rfl) rfl) (go_cast (.bool true) (congrArg Value.bool (decide_eq_true (Int.ofNat_lt.mpr hi23))) (gM rfl rfl (g_do rfl rfl rfl (gM rfl rfl (g_do rfl rfl rfl (gM rfl rfl (g_do rfl rfl rfl ?_)))))))))))))
      obtain ⟨bb25, rw25, row25, hp25, ht25, hR25, hw25, rc25, hz25, hi25, hd25, hb25, hl25⟩ := AccR.at_ (f4_0.ext e23.kn) ((getI_nat _ _).trans hx23)
      have hF25_ := hF
      subst hp25; subst ht25
      replace hF := hF25_
      obtain rfl := rc25
      refine gr rfl (r_ia (ot rfl) (ot rfl) (ia_acc (k := 1) ut_65 sz_9 hz25 hi25)) (g_do rfl rfl rfl (gr rfl (r_load (ot rfl) (lm_s (mem_seg 0 rfl) ag_9 (acc_cell (j := 0) hd25 rfl))) (g_do rfl rfl rfl (gM rfl rfl (g_do rfl rfl rfl (gM rfl rfl (g_do rfl rfl rfl ?_)))))))
      obtain ⟨q26, row26, i26, cl26, rc26, sp26⟩ := ix (ik := .i64) (cap := c0_0) (E := EE) ((f0_0.ext e4.kn).ext e23.kn) ((getI_nat _ _).trans hx4) ut_65 sz_9 rfl
      obtain rfl := rc26
      refine gr rfl (r_ia (ot rfl) (ot rfl) i26) (g_do rfl rfl rfl (gr rfl (r_load (ot rfl) (v := .string z4) (lo_e (fun hf kn => ld_one ag_9 (kn.cellsAt cl26)))) (g_do rfl rfl rfl (gr rfl (r_bin (ot rfl) (ot rfl) rfl) (gr rfl (r_pkT (ot rfl) (ot rfl)) (go_nil ?_))))))
      refine g_cond (b := (lessB z23 z4)) (ot rfl) (fun hc27 => ?_) (fun hc27 => ?_)
      ·
       replace hF := ifT hc27 hF
       refine go_skip (go_block (go_region (gM rfl rfl (gr rfl (r_bin (ot rfl) (oc rfl) rfl) (gA rfl rfl (go_nil (go_endb (go_re 5 (v2 := .int .i64 ((i23 + 1 : Nat) : Int)) rfl (wrap_succ hi23 hb23) ?_))))))))
       exact Goes.weak (ih23 (r23, i23 + 1, h23) ⟨hr23, e23, w23, hF⟩ (Nat.lt_succ_self _)) (Sub.cons (Sub.cons (Sub.cons (Sub.cons (Sub.cons (Sub.cons (Sub.cons (Sub.cons (Sub.cons (Sub.nil _) rfl) rfl) rfl) rfl) rfl) rfl) rfl) rfl) rfl)
      ·
       replace hF := ifF hc27 hF
       refine go_exit rfl ?_
       obtain rfl := someI hF
       exact Goes.weak (J8 () _ e23 w23 trivial) (Sub.cons (Sub.cons (Sub.cons (Sub.cons (Sub.cons (Sub.cons (Sub.cons (Sub.cons (Sub.cons (Sub.cons (Sub.cons (Sub.cons (Sub.cons (Sub.cons (Sub.cons (Sub.nil _) rfl) rfl) rfl) rfl) rfl) rfl) rfl) rfl) rfl) rfl) rfl) rfl) rfl) rfl) rfl)
end Go.Proofs.YtndhbaidibioeaaGreat.V
