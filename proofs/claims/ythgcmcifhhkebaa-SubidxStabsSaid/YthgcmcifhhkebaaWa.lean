/- Walks.
   No condition: these are laws of the clean machine and of this program. -/
import Derived.Test.YthgcmcifhhkebaaPT
namespace Go.Proofs.Ythgcmcifhhkebaa.V
open Go
set_option linter.unusedVariables false
set_option linter.unusedSimpArgs false
set_option maxRecDepth 100000
theorem s_ref04_In {h : Heap} (hw : Wf h) (p0 : TRange) (p1 : ByteArray)   {r : Bool} (hF : F_ref04_In p0 p1 = some r) :
    Ev EE 20 [.agg #[.string p0.From, .string p0.To], .string p1] h (fun v _ => v = .bool r) := by
  unfold F_ref04_In at hF
  refine ev_of hw rfl at_20 rfl rfl (go_seg0 ?_)
  refine go_seq ?_
  refine go_region ?_
  refine gs_box rfl (ot rfl) rfl ?_; intro b2_1
  refine gAc rfl rfl ?_
  refine go_nil ?_
  refine go_seq ?_
  refine go_region ?_
  refine gM rfl rfl ?_
  refine gr rfl (r_fa (ot rfl) (fa_25_0 _ _)) ?_
  refine gr rfl (r_load (ot rfl) (lm_s (mem_seg 0 rfl) ag_9 rfl)) ?_
  refine gr rfl (r_bin (ot rfl) (ot rfl) rfl) ?_
  refine gM rfl rfl ?_
  refine grt rfl rfl rfl rfl (r_fa (ot rfl) (fa_25_1 _ _)) ?_
  refine grt rfl rfl rfl rfl (r_load (og rfl id) (lm_s (mem_seg 0 rfl) ag_9 rfl)) ?_
  refine grt rfl rfl rfl rfl (r_bin (og rfl id) (oc rfl) rfl) ?_
  refine grt rfl rfl rfl rfl (r_move (og rfl id)) ?_
  refine grf' rfl rfl rfl rfl (r_move (ot rfl)) ?_
  refine grf' rfl rfl rfl rfl (r_fa (ot rfl) (fa_25_1 _ _)) ?_
  refine grf' rfl rfl rfl rfl (r_load (og rfl id) (lm_s (mem_seg 0 rfl) ag_9 rfl)) ?_
  refine grf' rfl rfl rfl rfl (r_bin (og rfl id) (og rfl id) rfl) ?_
  refine grt rfl rfl rfl rfl (r_pickb (og rfl id) (oc rfl) (og rfl id)) ?_
  refine gr rfl (r_pickb (ot rfl) (og rfl id) (oc rfl)) ?_
  refine gA rfl rfl ?_
  refine go_nil ?_
  obtain rfl := someI hF
  exact g_ret (rst rfl rs0) (fun h1 hf hs => ⟨hs.hext, rfl⟩)
theorem s_ref11_Stab {h : Heap} (hw : Wf h) (p0 : (List Timpostref11_Sub)) (p1 : ByteArray) (p2 : Int) {a0_0 : Option Addr} {c0_0 : Nat} (f0_0 : RL R_Timpostref11_Sub h a0_0 c0_0 p0) {r : (List Int)} (hF : F_ref11_Stab p0 p1 p2 = some r) :
    Ev EE 18 [.slice a0_0 p0.length c0_0, .string p1, .int .i64 p2] h (fun v h1 => ∃ a0 c0, v = .slice a0 r.length c0 ∧ RL (RI_ .i64 3) h1 a0 c0 r) := by
  unfold F_ref11_Stab at hF
  refine ev_of hw rfl at_18 rfl rfl (go_seg0 ?_)
  refine go_seq ?_
  refine go_region ?_
  refine gAc rfl rfl ?_
  refine go_nil ?_
  refine go_seq ?_
  refine go_region ?_
  refine gAc rfl rfl ?_
  refine go_nil ?_
  refine go_seq ?_
  refine go_seq ?_
  refine go_region ?_
  refine gAc rfl rfl ?_
  refine go_nil ?_
  replace hF := obind hF
  obtain ⟨s1, hF, hK1⟩ := hF
  refine go_joinc (β := Option Addr × List Blk) (fun s h' => AccR (RI_ .i64 3) 3 h' s.2 (.slice s.1 s1.length s1.length) s1) (fun s => [(6, true, .slice none 0 0), (7, true, .slice s.1 s1.length s1.length)]) (fun s => (List.flatten [s.2] : List Blk)) ?_ (fun J1 => ?_)
  ·
    rintro ⟨a1_0, a1_1⟩ h1 e1 w1 f1_0
    replace hF := hK1
    refine go_seq ?_
    refine go_region ?_
    refine gM rfl rfl ?_
    refine gA rfl rfl ?_
    refine go_nil ?_
    refine gs_accpub .z f1_0 (fun h2 e2 w2 f2_ => ?_) rfl
    obtain rfl := someI hF
    exact g_ret (rst rfl rs0) (fun h1 hf hs => ⟨(e1.trans (e2.trans hs.hext)), ⟨_, _, rfl, (f2_.ext hs.hext.kn)⟩⟩)
  ·
    refine go_block ?_
    refine go_loop (α := (List Timpostref11_Sub) × Nat × (List Int) × Option Addr × List Blk × Heap) (fun a => a.1 = List.drop a.2.1 p0 ∧ HExt h a.2.2.2.2.2 ∧ Wf a.2.2.2.2.2 ∧ F_ref11_Stab_L1 p1 p2 a.1 a.2.1 a.2.2.1 = some s1 ∧ AccR (RI_ .i64 3) 3 a.2.2.2.2.2 a.2.2.2.2.1 (.slice a.2.2.2.1 a.2.2.1.length a.2.2.1.length) a.2.2.1) (fun a => a.1.length) (fun a => [(0, true, .slice a0_0 p0.length c0_0), (1, true, .string p1), (2, true, .int .i64 p2), (6, true, .slice none 0 0), (7, true, .slice a.2.2.2.1 a.2.2.1.length a.2.2.1.length), (8, true, .int .i64 (a.2.1 : Int))]) (fun a => (List.flatten [a.2.2.2.2.1] : List Blk)) (fun a => a.2.2.2.2.2) ?_ (p0, 0, ([] : List Int), none, [], h) ⟨rfl, HExt.refl _, hw, hF, (AccR.nil _ _ _)⟩ (Sub.cons (Sub.cons (Sub.cons (Sub.cons (Sub.cons (Sub.cons (Sub.nil _) rfl) rfl) rfl) rfl) rfl) rfl) rfl rfl
    rintro ⟨r3, i3, y3_0, a3_0, a3_1, h3⟩ ⟨hr3, e3, w3, hF, f3_0⟩ ih3
    rcases r3 with _ | ⟨z3, r3⟩
    ·
      have hi3 := drop_nil hr3
      rw [F_ref11_Stab_L1.eq_1] at hF
      refine go_seq ?_
      refine go_seq ?_
      refine go_region ?_
      refine gM rfl rfl ?_
      refine gM rfl rfl ?_
      refine gr rfl (r_len rfl (os1 (ot rfl) os0) (fun _ _ => ln_22)) ?_
      refine gr rfl (r_bin (ot rfl) (ot rfl) rfl) ?_
      refine go_cast (.bool false) (congrArg Value.bool (decide_eq_false hi3)) ?_
      refine go_nil ?_
      refine g_cond (b := false) (ot rfl) (fun hc4 => ?_) (fun hc4 => ?_)
      · cases hc4
      refine go_exit rfl ?_
      obtain rfl := someI hF
      exact Goes.weak (J1 (a3_0, a3_1) _ e3 w3 f3_0) (Sub.cons (Sub.cons (Sub.nil _) rfl) rfl)
    ·
      obtain ⟨hi3, hx3, hr3⟩ := drop_cons hr3
      have hb3 := (f0_0.ext e3.kn).1
      rw [F_ref11_Stab_L1.eq_2] at hF
      refine go_seq ?_
      refine go_seq ?_
      refine go_region ?_
      refine gM rfl rfl ?_
      refine gM rfl rfl ?_
      refine gr rfl (r_len rfl (os1 (ot rfl) os0) (fun _ _ => ln_22)) ?_
      refine gr rfl (r_bin (ot rfl) (ot rfl) rfl) ?_
      refine go_cast (.bool true) (congrArg Value.bool (decide_eq_true (Int.ofNat_lt.mpr hi3))) ?_
      refine go_nil ?_
      refine g_cond (b := true) (ot rfl) (fun hc5 => ?_) (fun hc5 => ?_)
      rotate_left
      · cases hc5
      refine go_skip ?_
      refine go_seq ?_
      replace hF := obind hF
      obtain ⟨s6, hF, hK6⟩ := hF
      refine go_joinc (β := Option Addr × List Blk) (fun s h' => AccR (RI_ .i64 3) 3 h' s.2 (.slice s.1 s6.1.length s6.1.length) s6.1) (fun s => [(0, true, .slice a0_0 p0.length c0_0), (1, true, .string p1), (2, true, .int .i64 p2), (6, true, .slice none 0 0), (7, true, .slice s.1 s6.1.length s6.1.length), (8, true, .int .i64 (i3 : Int)), (11, true, .int .i64 (i3 : Int)), (12, true, .slice a0_0 p0.length c0_0), (13, true, .int .i64 (p0.length : Int)), (14, true, .bool true), (17, true, .slice a0_0 p0.length c0_0), (18, true, .int .i64 (i3 : Int)), (21, true, .agg #[.string z3.R.From, .string z3.R.To]), (22, true, .string p1), (23, true, .bool s6.2.1), (24, true, .bool s6.2.2.1), (25, true, .bool s6.2.2.2.1), (33, true, .bool s6.2.2.2.2)]) (fun s => (List.flatten [s.2] : List Blk)) ?_ (fun J6 => ?_)
      ·
        rintro ⟨a6_0, a6_1⟩ h6 e6 w6 f6_0
        replace hF := hK6
        refine go_region ?_
        refine gM rfl rfl ?_
        refine gr rfl (r_bin (ot rfl) (oc rfl) rfl) ?_
        refine gA rfl rfl ?_
        refine go_nil ?_
        refine go_re 8 (v2 := .int .i64 ((i3 + 1 : Nat) : Int)) rfl (wrap_succ hi3 hb3) ?_
        exact Goes.weak (ih3 (r3, i3 + 1, s6.1, a6_0, a6_1, h6) ⟨hr3, (e3.trans e6), w6, hF, f6_0⟩ (Nat.lt_succ_self _)) (Sub.cons (Sub.cons (Sub.cons (Sub.cons (Sub.cons (Sub.cons (Sub.nil _) rfl) rfl) rfl) rfl) rfl) rfl)
      ·
        refine go_block ?_
        refine go_seq ?_
        refine go_seq ?_
        refine go_region ?_
        refine gM rfl rfl ?_
        refine gM rfl rfl ?_
        obtain ⟨q7, row7, i7, cl7, rc7, sp7⟩ := ix (ik := .i64) (cap := c0_0) (E := EE) (f0_0.ext e3.kn) ((getI_nat _ _).trans hx3) ut_22 sz_27 rfl
        obtain rfl := rc7
        refine gr rfl (r_ia (ot rfl) (ot rfl) i7) ?_
        refine gr rfl (r_fa (ot rfl) (fs_27_2 sp7)) ?_
        refine gr rfl (r_load (ot rfl) (v := .agg #[.string z3.R.From, .string z3.R.To]) (lo_e (fun hf kn => ld_part (r := [.int .i64 z3.Id, .int .i64 z3.Rev, .string z3.R.From, .string z3.R.To]) ag_25 sz_25 (kn.cellsAt cl7) (by decide) rfl))) ?_
        refine gM rfl rfl ?_
        replace hF := obind hF
        obtain ⟨x8, hx8, hF⟩ := hF
        refine g_callp (v := .bool x8) EE_fr rfl of (os1 (ot rfl) (os1 (ot rfl) os0)) hb_20 (fun _ => rfl) (fun hf kn w => by exact s_ref04_In w z3.R p1  hx8) ?_
        refine gr rfl (r_un (ot rfl) rfl) ?_
        refine gM rfl rfl ?_
        replace hF := obind hF
        obtain ⟨s10, hF, hK10⟩ := hF
        refine go_joinr 8 (β := Unit) (fun s h' => True) (fun s => [(0, true, .slice a0_0 p0.length c0_0), (1, true, .string p1), (2, true, .int .i64 p2), (6, true, .slice none 0 0), (7, true, .slice a3_0 y3_0.length y3_0.length), (8, true, .int .i64 (i3 : Int)), (11, true, .int .i64 (i3 : Int)), (12, true, .slice a0_0 p0.length c0_0), (13, true, .int .i64 (p0.length : Int)), (14, true, .bool true), (17, true, .slice a0_0 p0.length c0_0), (18, true, .int .i64 (i3 : Int)), (19, true, .pointer (some q7)), (20, true, .pointer (some ⟨q7.block, q7.off + 2, q7.spot⟩)), (21, true, .agg #[.string z3.R.From, .string z3.R.To]), (22, true, .string p1), (23, true, .bool x8), (24, true, .bool (!x8)), (25, true, .bool s10.1), (33, true, .bool s10.2)]) (fun s => (List.flatten [a3_1] : List Blk)) ?_ (fun J10 => ?_)
        ·
          rintro _ h10 e10 w10 _
          replace hF := hK10
          refine go_nil ?_
          refine g_cond (b := s10.2) (ot rfl) (fun hc11 => ?_) (fun hc11 => ?_)
          ·
            replace hF := ifT hc11 hF
            refine go_exit rfl ?_
            obtain rfl := someI hF
            exact Goes.weak (J6 (a3_0, a3_1) _ e10 w10 (f3_0.ext e10.kn)) (Sub.cons (Sub.cons (Sub.cons (Sub.cons (Sub.cons (Sub.cons (Sub.cons (Sub.cons (Sub.cons (Sub.cons (Sub.cons (Sub.cons (Sub.cons (Sub.cons (Sub.cons (Sub.cons (Sub.cons (Sub.cons (Sub.nil _) rfl) rfl) rfl) rfl) rfl) rfl) rfl) rfl) rfl) rfl) rfl) rfl) rfl) rfl) rfl) rfl) rfl) rfl)
          ·
            replace hF := ifF hc11 hF
            refine go_skip ?_
            refine go_seq ?_
            refine go_region ?_
            refine gAc rfl rfl ?_
            refine go_nil ?_
            refine go_seq ?_
            replace hF := obind hF
            obtain ⟨s12, hF, hK12⟩ := hF
            refine go_joinc (β := Unit) (fun s h' => True) (fun s => [(0, true, .slice a0_0 p0.length c0_0), (1, true, .string p1), (2, true, .int .i64 p2), (6, true, .slice none 0 0), (7, true, .slice a3_0 y3_0.length y3_0.length), (8, true, .int .i64 (i3 : Int)), (9, true, .int .i64 s12.1), (11, true, .int .i64 (i3 : Int)), (12, true, .slice a0_0 p0.length c0_0), (13, true, .int .i64 (p0.length : Int)), (14, true, .bool true), (17, true, .slice a0_0 p0.length c0_0), (18, true, .int .i64 (i3 : Int)), (19, true, .pointer (some q7)), (20, true, .pointer (some ⟨q7.block, q7.off + 2, q7.spot⟩)), (21, true, .agg #[.string z3.R.From, .string z3.R.To]), (22, true, .string p1), (23, true, .bool x8), (24, true, .bool (!x8)), (25, true, .bool s10.1), (33, true, .bool s10.2), (34, true, .int .i64 s12.2.1), (35, true, .slice a3_0 y3_0.length y3_0.length), (36, true, .int .i64 (y3_0.length : Int)), (37, true, .bool s12.2.2.1), (38, true, .bool s12.2.2.2.1), (49, true, .bool s12.2.2.2.2)]) (fun s => (List.flatten [a3_1] : List Blk)) ?_ (fun J12 => ?_)
            ·
              rintro _ h12 e12 w12 _
              replace hF := hK12
              refine go_seq ?_
              refine go_region ?_
              refine gs_bslice (cs := []) rfl op0 ut_38 sz_3 zo_3 rfl rfl ?_; intro b52_13
              refine gM rfl rfl ?_
              refine gM rfl rfl ?_
              refine gs_accpub (.s (.z)) ((f3_0.ext e10.kn).ext e12.kn) (fun h15 e15 w15 f15_ => ?_) rfl
              replace hF := obind hF
              obtain ⟨x14, hx14, hF⟩ := hF
              obtain ⟨a14_, c14_, i14⟩ := subL0_ok (E := EE) f15_ hx14 (fun e => by rw [e]; rfl) ut_38 sz_3 rfl rfl
              have f14_ := i14.rl
              refine gr rfl (r_slice (ot rfl) on (oo (ot rfl)) on (fun hf kn => i14.hi kn rfl)) ?_
              replace hF := obind hF
              obtain ⟨x16, hx16, hF⟩ := hF
              obtain ⟨hr16, rfl⟩ := appL_some hx16
              obtain ⟨rw16, hw16, hq16⟩ := RL.first f14_ (by decide)
              refine gs_app0 (rows2 := rw16) (R := (RI_ .i64 3)) rfl (os1 (ot rfl) (os1 (ot rfl) os0)) rfl ut_38 sz_3 rfl (by decide) by_3 zo_3 rfl zs_38_38 rfl rfl (first_e hq16 (fun h' kn => kn.firstV hq16)) hw16 (AccR.lit _ _ _ _) hr16 (fun p16_ tl16 f16_ => ?_)
              refine gA rfl rfl ?_
              refine go_nil ?_
              refine go_seq ?_
              refine go_region ?_
              refine gM rfl rfl ?_
              refine gM rfl rfl ?_
              refine gM rfl rfl ?_
              obtain ⟨q17, row17, i17, cl17, rc17, sp17⟩ := ix (ik := .i64) (cap := c0_0) (E := EE) ((((f0_0.ext e3.kn).ext e10.kn).ext e12.kn).ext e15.kn) ((getI_nat _ _).trans hx3) ut_22 sz_27 rfl
              obtain rfl := rc17
              refine gr rfl (r_ia (ot rfl) (ot rfl) i17) ?_
              refine gr rfl (r_fa (ot rfl) (fs_27_0 sp17)) ?_
              refine gr rfl (r_load (ot rfl) (v := .int .i64 z3.Id) (lo_e (fun hf kn => ld_field (r := [.int .i64 z3.Id, .int .i64 z3.Rev, .string z3.R.From, .string z3.R.To]) ag_3 (kn.cellsAt cl17) rfl))) ?_
              refine gs_bslice (cs := [.int .i64 z3.Id]) rfl (op1 (ot rfl) op0) ut_38 sz_3 zo_3 rfl rfl ?_; intro b63_18
              replace hF := obind hF
              obtain ⟨x19, hx19, hF⟩ := hF
              obtain ⟨hr19, rfl⟩ := appL_some hx19
              refine gs_front (.s (.z)) ?_
              refine gs_app (rows2 := [[.int .i64 z3.Id]]) (R := (RI_ .i64 3)) rfl (os1 (ot rfl) (os1 (ot rfl) os0)) rfl ut_38 sz_3 rfl (by decide) by_3 zo_3 rfl zs_38_38 rfl rfl (first_m (mem_seg 1 rfl) rfl (by decide)) (Rws.one (x := z3.Id) rfl) f16_ hr19 (fun p19_ tl19 f19_ => ?_)
              refine gA rfl rfl ?_
              refine go_nil ?_
              refine go_seq ?_
              refine go_region ?_
              refine gM rfl rfl ?_
              refine gM rfl rfl ?_
              refine gM rfl rfl ?_
              replace hF := obind hF
              obtain ⟨x20, hx20, hF⟩ := hF
              obtain ⟨a20_, c20_, i20⟩ := subL0_ok (E := EE) f15_ hx20 (fun e => by rw [e]; rfl) ut_38 sz_3 rfl rfl
              have f20_ := i20.rl
              refine gr rfl (r_slice (ot rfl) (oo (ot rfl)) on on (fun hf kn => i20.lo kn rfl)) ?_
              replace hF := obind hF
              obtain ⟨x21, hx21, hF⟩ := hF
              obtain ⟨hr21, rfl⟩ := appL_some hx21
              obtain ⟨rw21, hw21, hq21⟩ := RL.first f20_ (by decide)
              refine gs_app (rows2 := rw21) (R := (RI_ .i64 3)) rfl (os1 (ot rfl) (os1 (ot rfl) os0)) rfl ut_38 sz_3 rfl (by decide) by_3 zo_3 rfl zs_38_38 rfl rfl (first_e hq21 (fun h' kn => kn.firstV hq21)) hw21 f19_ hr21 (fun p21_ tl21 f21_ => ?_)
              refine gA rfl rfl ?_
              refine go_nil ?_
              refine go_region ?_
              refine gM rfl rfl ?_
              refine gA rfl rfl ?_
              refine go_nil ?_
              refine go_endb ?_
              obtain rfl := someI hF
              refine gs_sub (.cons_cons _ (.cons _ (.cons _ (.refl _)))) ?_
              exact Goes.weak (J6 (p21_, tl21) _ (e10.trans (e12.trans e15)) w15 f21_) (Sub.cons (Sub.cons (Sub.cons (Sub.cons (Sub.cons (Sub.cons (Sub.cons (Sub.cons (Sub.cons (Sub.cons (Sub.cons (Sub.cons (Sub.cons (Sub.cons (Sub.cons (Sub.cons (Sub.cons (Sub.cons (Sub.nil _) rfl) rfl) rfl) rfl) rfl) rfl) rfl) rfl) rfl) rfl) rfl) rfl) rfl) rfl) rfl) rfl) rfl) rfl)
            ·
              refine go_block ?_
              refine go_loop (α := (List Int) × Nat × Heap) (fun a => a.1 = List.drop a.2.1 y3_0 ∧ HExt h10 a.2.2 ∧ Wf a.2.2 ∧ F_ref11_Stab_L2 z3 a.1 a.2.1 = some s12) (fun a => a.1.length) (fun a => [(0, true, .slice a0_0 p0.length c0_0), (1, true, .string p1), (2, true, .int .i64 p2), (6, true, .slice none 0 0), (7, true, .slice a3_0 y3_0.length y3_0.length), (8, true, .int .i64 (i3 : Int)), (9, true, .int .i64 (a.2.1 : Int)), (11, true, .int .i64 (i3 : Int)), (12, true, .slice a0_0 p0.length c0_0), (13, true, .int .i64 (p0.length : Int)), (14, true, .bool true), (17, true, .slice a0_0 p0.length c0_0), (18, true, .int .i64 (i3 : Int)), (19, true, .pointer (some q7)), (20, true, .pointer (some ⟨q7.block, q7.off + 2, q7.spot⟩)), (21, true, .agg #[.string z3.R.From, .string z3.R.To]), (22, true, .string p1), (23, true, .bool x8), (24, true, .bool (!x8)), (25, true, .bool s10.1), (33, true, .bool s10.2)]) (fun a => (List.flatten [a3_1] : List Blk)) (fun a => a.2.2) ?_ (y3_0, 0, h10) ⟨rfl, HExt.refl _, w10, hF⟩ (Sub.cons (Sub.cons (Sub.cons (Sub.cons (Sub.cons (Sub.cons (Sub.cons (Sub.cons (Sub.cons (Sub.cons (Sub.cons (Sub.cons (Sub.cons (Sub.cons (Sub.cons (Sub.cons (Sub.cons (Sub.cons (Sub.cons (Sub.cons (Sub.cons (Sub.nil _) rfl) rfl) rfl) rfl) rfl) rfl) rfl) rfl) rfl) rfl) rfl) rfl) rfl) rfl) rfl) rfl) rfl) rfl) rfl) rfl) rfl) rfl rfl
              rintro ⟨r22, i22, h22⟩ ⟨hr22, e22, w22, hF⟩ ih22
              rcases r22 with _ | ⟨z22, r22⟩
              ·
                have hi22 := drop_nil hr22
                rw [F_ref11_Stab_L2.eq_1] at hF
                refine go_seq ?_
                refine go_seq ?_
                refine go_regionq (by kernel_rfl) ?_
                refine gM rfl rfl ?_
                refine gM rfl rfl ?_
                refine gr rfl (r_len rfl (os1 (ot rfl) os0) (fun _ _ => ln_38)) ?_
                refine gr rfl (r_bin (ot rfl) (ot rfl) rfl) ?_
                refine go_cast (.bool false) (congrArg Value.bool (decide_eq_false hi22)) ?_
                refine gM rfl rfl ?_
                refine g_no rfl rfl rfl rfl rfl ?_
                refine g_no rfl rfl rfl rfl rfl ?_
                refine g_no rfl rfl rfl rfl rfl ?_
                refine g_no rfl rfl rfl rfl rfl ?_
                refine g_no rfl rfl rfl rfl rfl ?_
                refine g_no rfl rfl rfl rfl rfl ?_
                refine g_no rfl rfl rfl rfl rfl ?_
                refine g_no rfl rfl rfl rfl rfl ?_
                refine g_no rfl rfl rfl rfl rfl ?_
                refine g_no rfl rfl rfl rfl rfl ?_
                refine gr rfl (r_pkF (ot rfl) (oc rfl)) ?_
                refine go_nil ?_
                refine g_cond (b := false) (ot rfl) (fun hc23 => ?_) (fun hc23 => ?_)
                · cases hc23
                refine go_exit rfl ?_
                obtain rfl := someI hF
                exact Goes.weak (J12 () _ e22 w22 trivial) (Sub.cons (Sub.cons (Sub.cons (Sub.cons (Sub.cons (Sub.cons (Sub.cons (Sub.cons (Sub.cons (Sub.cons (Sub.cons (Sub.cons (Sub.cons (Sub.cons (Sub.cons (Sub.cons (Sub.cons (Sub.cons (Sub.cons (Sub.cons (Sub.cons (Sub.cons (Sub.cons (Sub.cons (Sub.cons (Sub.cons (Sub.cons (Sub.nil _) rfl) rfl) rfl) rfl) rfl) rfl) rfl) rfl) rfl) rfl) rfl) rfl) rfl) rfl) rfl) rfl) rfl) rfl) rfl) rfl) rfl) rfl) rfl) rfl) rfl) rfl) rfl)
              ·
                obtain ⟨hi22, hx22, hr22⟩ := drop_cons hr22
                have hb22 := ((f3_0.ext e10.kn).ext e22.kn).1
                rw [F_ref11_Stab_L2.eq_2] at hF
                refine go_seq ?_
                refine go_seq ?_
                refine go_regionq (by kernel_rfl) ?_
                refine gM rfl rfl ?_
                refine gM rfl rfl ?_
                refine gr rfl (r_len rfl (os1 (ot rfl) os0) (fun _ _ => ln_38)) ?_
                refine gr rfl (r_bin (ot rfl) (ot rfl) rfl) ?_
                refine go_cast (.bool true) (congrArg Value.bool (decide_eq_true (Int.ofNat_lt.mpr hi22))) ?_
                refine gM rfl rfl ?_
                refine g_do rfl rfl rfl ?_
                refine gM rfl rfl ?_
                refine g_do rfl rfl rfl ?_
                refine gM rfl rfl ?_
                refine g_do rfl rfl rfl ?_
                obtain ⟨bb24, rw24, row24, hp24, ht24, hR24, hw24, rc24, hz24, hi24, hd24, hb24, hl24⟩ := AccR.at_ ((f3_0.ext e10.kn).ext e22.kn) ((getI_nat _ _).trans hx22)
                have hF24_ := hF
                subst hp24; subst ht24
                replace hF := hF24_
                obtain rfl := rc24
                refine gr rfl (r_ia (ot rfl) (ot rfl) (ia_acc (k := 1) ut_38 sz_3 hz24 hi24)) ?_
                refine g_do rfl rfl rfl ?_
                refine gr rfl (r_load (ot rfl) (lm_s (mem_seg 0 rfl) ag_3 (acc_cell (j := 0) hd24 rfl))) ?_
                refine g_do rfl rfl rfl ?_
                refine gM rfl rfl ?_
                refine g_do rfl rfl rfl ?_
                refine gM rfl rfl ?_
                refine g_do rfl rfl rfl ?_
                obtain ⟨q25, row25, i25, cl25, rc25, sp25⟩ := ix (ik := .i64) (cap := c0_0) (E := EE) (((f0_0.ext e3.kn).ext e10.kn).ext e22.kn) ((getI_nat _ _).trans hx3) ut_22 sz_27 rfl
                obtain rfl := rc25
                refine gr rfl (r_ia (ot rfl) (ot rfl) i25) ?_
                refine g_do rfl rfl rfl ?_
                refine gr rfl (r_fa (ot rfl) (fs_27_0 sp25)) ?_
                refine g_do rfl rfl rfl ?_
                refine gr rfl (r_load (ot rfl) (v := .int .i64 z3.Id) (lo_e (fun hf kn => ld_field (r := [.int .i64 z3.Id, .int .i64 z3.Rev, .string z3.R.From, .string z3.R.To]) ag_3 (kn.cellsAt cl25) rfl))) ?_
                refine g_do rfl rfl rfl ?_
                refine gr rfl (r_bin (ot rfl) (ot rfl) rfl) ?_
                refine gr rfl (r_pkT (ot rfl) (ot rfl)) ?_
                refine go_nil ?_
                refine g_cond (b := (decide (z22 < z3.Id))) (ot rfl) (fun hc26 => ?_) (fun hc26 => ?_)
                ·
                  replace hF := ifT hc26 hF
                  refine go_skip ?_
                  refine go_block ?_
                  refine go_region ?_
                  refine gM rfl rfl ?_
                  refine gr rfl (r_bin (ot rfl) (oc rfl) rfl) ?_
                  refine gA rfl rfl ?_
                  refine go_nil ?_
                  refine go_endb ?_
                  refine go_re 9 (v2 := .int .i64 ((i22 + 1 : Nat) : Int)) rfl (wrap_succ hi22 hb22) ?_
                  exact Goes.weak (ih22 (r22, i22 + 1, h22) ⟨hr22, e22, w22, hF⟩ (Nat.lt_succ_self _)) (Sub.cons (Sub.cons (Sub.cons (Sub.cons (Sub.cons (Sub.cons (Sub.cons (Sub.cons (Sub.cons (Sub.cons (Sub.cons (Sub.cons (Sub.cons (Sub.cons (Sub.cons (Sub.cons (Sub.cons (Sub.cons (Sub.cons (Sub.cons (Sub.cons (Sub.nil _) rfl) rfl) rfl) rfl) rfl) rfl) rfl) rfl) rfl) rfl) rfl) rfl) rfl) rfl) rfl) rfl) rfl) rfl) rfl) rfl) rfl)
                ·
                  replace hF := ifF hc26 hF
                  refine go_exit rfl ?_
                  obtain rfl := someI hF
                  exact Goes.weak (J12 () _ e22 w22 trivial) (Sub.cons (Sub.cons (Sub.cons (Sub.cons (Sub.cons (Sub.cons (Sub.cons (Sub.cons (Sub.cons (Sub.cons (Sub.cons (Sub.cons (Sub.cons (Sub.cons (Sub.cons (Sub.cons (Sub.cons (Sub.cons (Sub.cons (Sub.cons (Sub.cons (Sub.cons (Sub.cons (Sub.cons (Sub.cons (Sub.cons (Sub.cons (Sub.nil _) rfl) rfl) rfl) rfl) rfl) rfl) rfl) rfl) rfl) rfl) rfl) rfl) rfl) rfl) rfl) rfl) rfl) rfl) rfl) rfl) rfl) rfl) rfl) rfl) rfl) rfl) rfl)
        ·
          rcases Bool.eq_false_or_eq_true (!x8) with hb9 | hb9
          ·
            replace hF := ifT hb9 hF
            refine go_re 25 (v2 := .bool true) rfl (congrArg Value.bool hb9) ?_
            refine g_no rfl rfl rfl rfl rfl ?_
            refine g_no rfl rfl rfl rfl rfl ?_
            refine g_no rfl rfl rfl rfl rfl ?_
            refine g_no rfl rfl rfl rfl rfl ?_
            refine g_no rfl rfl rfl rfl rfl ?_
            refine g_no rfl rfl rfl rfl rfl ?_
            refine g_no rfl rfl rfl rfl rfl ?_
            refine gr rfl (r_pkT (ot rfl) (oc rfl)) ?_
            obtain rfl := someI hF
            exact Goes.weak (J10 () _ (HExt.refl _) w3 trivial) (Sub.cons (Sub.cons (Sub.cons (Sub.cons (Sub.cons (Sub.cons (Sub.cons (Sub.cons (Sub.cons (Sub.cons (Sub.cons (Sub.cons (Sub.cons (Sub.cons (Sub.cons (Sub.cons (Sub.cons (Sub.cons (Sub.cons (Sub.cons (Sub.nil _) rfl) rfl) rfl) rfl) rfl) rfl) rfl) rfl) rfl) rfl) rfl) rfl) rfl) rfl) rfl) rfl) rfl) rfl) rfl) rfl)
          ·
            replace hF := ifF hb9 hF
            refine go_re 25 (v2 := .bool false) rfl (congrArg Value.bool hb9) ?_
            refine g_do rfl rfl rfl ?_
            refine gM rfl rfl ?_
            refine g_do rfl rfl rfl ?_
            refine gM rfl rfl ?_
            refine g_do rfl rfl rfl ?_
            obtain ⟨q27, row27, i27, cl27, rc27, sp27⟩ := ix (ik := .i64) (cap := c0_0) (E := EE) (f0_0.ext e3.kn) ((getI_nat _ _).trans hx3) ut_22 sz_27 rfl
            obtain rfl := rc27
            refine gr rfl (r_ia (ot rfl) (ot rfl) i27) ?_
            refine g_do rfl rfl rfl ?_
            refine gr rfl (r_fa (ot rfl) (fs_27_1 sp27)) ?_
            refine g_do rfl rfl rfl ?_
            refine gr rfl (r_load (ot rfl) (v := .int .i64 z3.Rev) (lo_e (fun hf kn => ld_field (r := [.int .i64 z3.Id, .int .i64 z3.Rev, .string z3.R.From, .string z3.R.To]) ag_3 (kn.cellsAt cl27) rfl))) ?_
            refine g_do rfl rfl rfl ?_
            refine gM rfl rfl ?_
            refine g_do rfl rfl rfl ?_
            refine gr rfl (r_bin (ot rfl) (ot rfl) rfl) ?_
            refine gr rfl (r_pkF (ot rfl) (ot rfl)) ?_
            obtain rfl := someI hF
            exact Goes.weak (J10 () _ (HExt.refl _) w3 trivial) (Sub.cons (Sub.cons (Sub.cons (Sub.cons (Sub.cons (Sub.cons (Sub.cons (Sub.cons (Sub.cons (Sub.cons (Sub.cons (Sub.cons (Sub.cons (Sub.cons (Sub.cons (Sub.cons (Sub.cons (Sub.cons (Sub.cons (Sub.cons (Sub.nil _) rfl) rfl) rfl) rfl) rfl) rfl) rfl) rfl) rfl) rfl) rfl) rfl) rfl) rfl) rfl) rfl) rfl) rfl) rfl) rfl)
theorem s_ref04_Empty {h : Heap} (hw : Wf h) (p0 : TRange)   {r : Bool} (hF : F_ref04_Empty p0 = some r) :
    Ev EE 13 [.agg #[.string p0.From, .string p0.To]] h (fun v _ => v = .bool r) := by
  unfold F_ref04_Empty at hF
  refine ev_of hw rfl at_13 rfl rfl (go_seg0 ?_)
  refine go_seq ?_
  refine go_region ?_
  refine gs_box rfl (ot rfl) rfl ?_; intro b1_1
  refine gAc rfl rfl ?_
  refine go_nil ?_
  refine go_seq ?_
  refine go_region ?_
  refine gr rfl (r_fa (ot rfl) (fa_25_1 _ _)) ?_
  refine gr rfl (r_load (ot rfl) (lm_s (mem_seg 0 rfl) ag_9 rfl)) ?_
  refine gr rfl (r_bin (ot rfl) (oc rfl) rfl) ?_
  refine gM rfl rfl ?_
  refine grt rfl rfl rfl rfl (r_fa (ot rfl) (fa_25_1 _ _)) ?_
  refine grt rfl rfl rfl rfl (r_load (og rfl id) (lm_s (mem_seg 0 rfl) ag_9 rfl)) ?_
  refine grt rfl rfl rfl rfl (r_fa (ot rfl) (fa_25_0 _ _)) ?_
  refine grt rfl rfl rfl rfl (r_load (og rfl id) (lm_s (mem_seg 0 rfl) ag_9 rfl)) ?_
  refine grt rfl rfl rfl rfl (r_bin (og rfl id) (og rfl id) rfl) ?_
  refine gr rfl (r_pickb (ot rfl) (og rfl id) (oc rfl)) ?_
  refine gA rfl rfl ?_
  refine go_nil ?_
  obtain rfl := someI hF
  exact g_ret (rst rfl rs0) (fun h1 hf hs => ⟨hs.hext, rfl⟩)
theorem s_ref11_less {h : Heap} (hw : Wf h) (p0 : Timpostref11_Sub) (p1 : Timpostref11_Sub)   {r : Bool} (hF : F_ref11_less p0 p1 = some r) :
    Ev EE 44 [.agg #[.int .i64 p0.Id, .int .i64 p0.Rev, .string p0.R.From, .string p0.R.To], .agg #[.int .i64 p1.Id, .int .i64 p1.Rev, .string p1.R.From, .string p1.R.To]] h (fun v _ => v = .bool r) := by
  unfold F_ref11_less at hF
  refine ev_of hw rfl at_44 rfl rfl (go_seg0 ?_)
  refine go_seq ?_
  refine go_region ?_
  refine gs_box rfl (ot rfl) rfl ?_; intro b2_1
  refine gs_box rfl (ot rfl) rfl ?_; intro b3_2
  refine gAc rfl rfl ?_
  refine go_nil ?_
  refine go_seq ?_
  refine go_seq ?_
  refine go_region ?_
  refine gr rfl (r_fa (ot rfl) (fa_27_2 _ _)) ?_
  refine gr rfl (r_fa (ot rfl) (fa_25_0 _ _)) ?_
  refine gr rfl (r_load (ot rfl) (lm_s (mem_seg 1 rfl) ag_9 rfl)) ?_
  refine gr rfl (r_fa (ot rfl) (fa_27_2 _ _)) ?_
  refine gr rfl (r_fa (ot rfl) (fa_25_0 _ _)) ?_
  refine gr rfl (r_load (ot rfl) (lm_s (mem_seg 0 rfl) ag_9 rfl)) ?_
  refine gr rfl (r_bin (ot rfl) (ot rfl) rfl) ?_
  refine go_nil ?_
  refine g_cond (b := (!eqB p0.R.From p1.R.From)) (ot rfl) (fun hc3 => ?_) (fun hc3 => ?_)
  ·
    replace hF := ifT hc3 hF
    refine go_seq ?_
    refine go_region ?_
    refine gr rfl (r_fa (ot rfl) (fa_27_2 _ _)) ?_
    refine gr rfl (r_fa (ot rfl) (fa_25_0 _ _)) ?_
    refine gr rfl (r_load (ot rfl) (lm_s (mem_seg 1 rfl) ag_9 rfl)) ?_
    refine gr rfl (r_fa (ot rfl) (fa_27_2 _ _)) ?_
    refine gr rfl (r_fa (ot rfl) (fa_25_0 _ _)) ?_
    refine gr rfl (r_load (ot rfl) (lm_s (mem_seg 0 rfl) ag_9 rfl)) ?_
    refine gr rfl (r_bin (ot rfl) (ot rfl) rfl) ?_
    refine gA rfl rfl ?_
    refine go_nil ?_
    obtain rfl := someI hF
    exact g_ret (rst rfl rs0) (fun h1 hf hs => ⟨hs.hext, rfl⟩)
  ·
    replace hF := ifF hc3 hF
    refine go_skip ?_
    refine go_seq ?_
    refine go_region ?_
    refine gr rfl (r_fa (ot rfl) (fa_27_0 _ _)) ?_
    refine gr rfl (r_load (ot rfl) (lm_s (mem_seg 1 rfl) ag_3 rfl)) ?_
    refine gr rfl (r_fa (ot rfl) (fa_27_0 _ _)) ?_
    refine gr rfl (r_load (ot rfl) (lm_s (mem_seg 0 rfl) ag_3 rfl)) ?_
    refine gr rfl (r_bin (ot rfl) (ot rfl) rfl) ?_
    refine gA rfl rfl ?_
    refine go_nil ?_
    obtain rfl := someI hF
    exact g_ret (rst rfl rs0) (fun h1 hf hs => ⟨hs.hext, rfl⟩)
theorem s_ref11_Add {h : Heap} (hw : Wf h) (p0 : (List Timpostref11_Sub)) (p1 : Timpostref11_Sub) {a0_0 : Option Addr} {c0_0 : Nat} (f0_0 : RL R_Timpostref11_Sub h a0_0 c0_0 p0) {r : (List Timpostref11_Sub) × Int} (hF : F_ref11_Add p0 p1 = some r) :
    Ev EE 32 [.slice a0_0 p0.length c0_0, .agg #[.int .i64 p1.Id, .int .i64 p1.Rev, .string p1.R.From, .string p1.R.To]] h (fun v h1 => ∃ a0 c0, v = .tuple #[.slice a0 r.1.length c0, .int .i64 r.2] ∧ RL R_Timpostref11_Sub h1 a0 c0 r.1) := by
  unfold F_ref11_Add at hF
  refine ev_of hw rfl at_32 rfl rfl (go_seg0 ?_)
  refine go_seq ?_
  refine go_region ?_
  refine gs_box rfl (ot rfl) rfl ?_; intro b3_1
  refine gAc rfl rfl ?_
  refine gAc rfl rfl ?_
  refine go_nil ?_
  refine go_seq ?_
  refine go_seq ?_
  refine go_region ?_
  refine gr rfl (r_fa (ot rfl) (fa_27_2 _ _)) ?_
  refine gr rfl (r_load (ot rfl) (lm_a (vs := [_, _]) (mem_seg 0 rfl) ag_25 sz_25 rfl rfl)) ?_
  replace hF := obind hF
  obtain ⟨x2, hx2, hF⟩ := hF
  refine g_callp (v := .bool x2) EE_fr rfl of (os1 (ot rfl) os0) hb_13 (fun _ => rfl) (fun hf kn w => by exact s_ref04_Empty w p1.R  hx2) ?_
  refine go_nil ?_
  refine g_cond (b := x2) (ot rfl) (fun hc3 => ?_) (fun hc3 => ?_)
  ·
    replace hF := ifT hc3 hF
    refine go_seq ?_
    refine go_region ?_
    refine gM rfl rfl ?_
    refine gA rfl rfl ?_
    refine gAc rfl rfl ?_
    refine go_nil ?_
    obtain rfl := someI hF
    exact g_ret (rst rfl (rst rfl rs0)) (fun h1 hf hs => ⟨hs.hext, ⟨_, _, rfl, (f0_0.ext hs.hext.kn)⟩⟩)
  ·
    replace hF := ifF hc3 hF
    refine go_skip ?_
    refine go_seq ?_
    refine go_region ?_
    refine gAc rfl rfl ?_
    refine go_nil ?_
    refine go_seq ?_
    refine go_region ?_
    refine gAc rfl rfl ?_
    refine go_nil ?_
    refine go_seq ?_
    refine go_seq ?_
    refine go_region ?_
    refine gAc rfl rfl ?_
    refine go_nil ?_
    replace hF := obind hF
    obtain ⟨s4, hF, hK4⟩ := hF
    refine go_joinc (β := ((List Timpostref11_Sub) × Bool) × Option Addr × List Blk) (fun s h' => s4 = .go s.1 ∧ AccR R_Timpostref11_Sub 27 h' s.2.2 (.slice s.2.1 s.1.1.length s.1.1.length) s.1.1) (fun s => [(3, true, .pointer (some ⟨b3_1, 0, none⟩)), (4, true, .slice none 0 0), (5, true, .int .i64 0), (6, true, .slice s.2.1 s.1.1.length s.1.1.length), (7, true, .bool s.1.2)]) (fun s => (List.flatten [s.2.2, [⟨b3_1, .cells [.int .i64 p1.Id, .int .i64 p1.Rev, .string p1.R.From, .string p1.R.To] 27⟩]] : List Blk)) ?_ (fun J4 => ?_)
    ·
      rintro ⟨⟨x4_0, x4_1⟩, a4_0, a4_1⟩ h4 e4 w4 ⟨hs4, f4_0⟩
      subst hs4
      replace hF := lpgo hK4
      refine go_seq ?_
      refine go_seq ?_
      refine go_region ?_
      refine gM rfl rfl ?_
      refine gr rfl (r_un (ot rfl) rfl) ?_
      refine go_nil ?_
      refine g_cond (b := (!x4_1)) (ot rfl) (fun hc5 => ?_) (fun hc5 => ?_)
      ·
        replace hF := ifT hc5 hF
        refine go_region ?_
        refine gM rfl rfl ?_
        refine gr rfl (r_load (ot rfl) (lm_w (mem_seg 1 rfl) ag_27 sz_27 rfl)) ?_
        refine gs_bslice (cs := [.int .i64 p1.Id, .int .i64 p1.Rev, .string p1.R.From, .string p1.R.To]) rfl (op1 (ot rfl) op0) ut_22 sz_27 zo_27 rfl rfl ?_; intro b53_6
        replace hF := obind hF
        obtain ⟨x7, hx7, hF⟩ := hF
        obtain ⟨hr7, rfl⟩ := appL_some hx7
        refine gs_front (.s (.z)) ?_
        refine gs_app (rows2 := [[.int .i64 p1.Id, .int .i64 p1.Rev, .string p1.R.From, .string p1.R.To]]) (R := R_Timpostref11_Sub) rfl (os1 (ot rfl) (os1 (ot rfl) os0)) rfl ut_22 sz_27 rfl (by decide) by_27 zo_27 rfl zs_22_22 rfl rfl (first_m (mem_seg 1 rfl) rfl (by decide)) (Rws.one (x := p1) rfl) f4_0 hr7 (fun p7_ tl7 f7_ => ?_)
        refine gA rfl rfl ?_
        refine go_nil ?_
        refine go_seq ?_
        refine go_region ?_
        refine gM rfl rfl ?_
        refine gA rfl rfl ?_
        refine gAc rfl rfl ?_
        refine go_nil ?_
        refine gs_accpub .z f7_ (fun h8 e8 w8 f8_ => ?_) rfl
        obtain rfl := someI hF
        exact g_ret (rst rfl (rst rfl rs0)) (fun h1 hf hs => ⟨(e4.trans (e8.trans hs.hext)), ⟨_, _, rfl, (f8_.ext hs.hext.kn)⟩⟩)
      ·
        replace hF := ifF hc5 hF
        refine go_skip ?_
        refine go_seq ?_
        refine go_region ?_
        refine gM rfl rfl ?_
        refine gA rfl rfl ?_
        refine gAc rfl rfl ?_
        refine go_nil ?_
        refine gs_accpub .z f4_0 (fun h9 e9 w9 f9_ => ?_) rfl
        obtain rfl := someI hF
        exact g_ret (rst rfl (rst rfl rs0)) (fun h1 hf hs => ⟨(e4.trans (e9.trans hs.hext)), ⟨_, _, rfl, (f9_.ext hs.hext.kn)⟩⟩)
    ·
      refine go_block ?_
      refine go_loop (α := (List Timpostref11_Sub) × Nat × (List Timpostref11_Sub) × Bool × Option Addr × List Blk × Heap) (fun a => a.1 = List.drop a.2.1 p0 ∧ HExt h a.2.2.2.2.2.2 ∧ Wf a.2.2.2.2.2.2 ∧ F_ref11_Add_L1 p0 p1 a.1 a.2.1 a.2.2.1 a.2.2.2.1 = some s4 ∧ AccR R_Timpostref11_Sub 27 a.2.2.2.2.2.2 a.2.2.2.2.2.1 (.slice a.2.2.2.2.1 a.2.2.1.length a.2.2.1.length) a.2.2.1) (fun a => a.1.length) (fun a => [(0, true, .slice a0_0 p0.length c0_0), (3, true, .pointer (some ⟨b3_1, 0, none⟩)), (4, true, .slice none 0 0), (5, true, .int .i64 0), (6, true, .slice a.2.2.2.2.1 a.2.2.1.length a.2.2.1.length), (7, true, .bool a.2.2.2.1), (8, true, .int .i64 (a.2.1 : Int))]) (fun a => (List.flatten [a.2.2.2.2.2.1, [⟨b3_1, .cells [.int .i64 p1.Id, .int .i64 p1.Rev, .string p1.R.From, .string p1.R.To] 27⟩]] : List Blk)) (fun a => a.2.2.2.2.2.2) ?_ (p0, 0, ([] : List Timpostref11_Sub), false, none, [], h) ⟨rfl, HExt.refl _, hw, hF, (AccR.nil _ _ _)⟩ (Sub.cons (Sub.cons (Sub.cons (Sub.cons (Sub.cons (Sub.cons (Sub.cons (Sub.nil _) rfl) rfl) rfl) rfl) rfl) rfl) rfl) rfl rfl
      rintro ⟨r10, i10, y10_0, y10_1, a10_0, a10_1, h10⟩ ⟨hr10, e10, w10, hF, f10_0⟩ ih10
      rcases r10 with _ | ⟨z10, r10⟩
      ·
        have hi10 := drop_nil hr10
        rw [F_ref11_Add_L1.eq_1] at hF
        refine go_seq ?_
        refine go_seq ?_
        refine go_region ?_
        refine gM rfl rfl ?_
        refine gM rfl rfl ?_
        refine gr rfl (r_len rfl (os1 (ot rfl) os0) (fun _ _ => ln_22)) ?_
        refine gr rfl (r_bin (ot rfl) (ot rfl) rfl) ?_
        refine go_cast (.bool false) (congrArg Value.bool (decide_eq_false hi10)) ?_
        refine go_nil ?_
        refine g_cond (b := false) (ot rfl) (fun hc11 => ?_) (fun hc11 => ?_)
        · cases hc11
        refine go_exit rfl ?_
        obtain rfl := someI hF
        exact Goes.weak (J4 ((y10_0, y10_1), a10_0, a10_1) _ e10 w10 ⟨rfl, f10_0⟩) (Sub.cons (Sub.cons (Sub.cons (Sub.cons (Sub.cons (Sub.nil _) rfl) rfl) rfl) rfl) rfl)
      ·
        obtain ⟨hi10, hx10, hr10⟩ := drop_cons hr10
        have hb10 := (f0_0.ext e10.kn).1
        rw [F_ref11_Add_L1.eq_2] at hF
        refine go_seq ?_
        refine go_seq ?_
        refine go_region ?_
        refine gM rfl rfl ?_
        refine gM rfl rfl ?_
        refine gr rfl (r_len rfl (os1 (ot rfl) os0) (fun _ _ => ln_22)) ?_
        refine gr rfl (r_bin (ot rfl) (ot rfl) rfl) ?_
        refine go_cast (.bool true) (congrArg Value.bool (decide_eq_true (Int.ofNat_lt.mpr hi10))) ?_
        refine go_nil ?_
        refine g_cond (b := true) (ot rfl) (fun hc12 => ?_) (fun hc12 => ?_)
        rotate_left
        · cases hc12
        refine go_skip ?_
        refine go_seq ?_
        refine go_block ?_
        refine go_seq ?_
        refine go_seq ?_
        refine go_regionq (by kernel_rfl) ?_
        refine gM rfl rfl ?_
        refine gM rfl rfl ?_
        obtain ⟨q13, row13, i13, cl13, rc13, sp13⟩ := ix (ik := .i64) (cap := c0_0) (E := EE) (f0_0.ext e10.kn) ((getI_nat _ _).trans hx10) ut_22 sz_27 rfl
        obtain rfl := rc13
        refine gr rfl (r_ia (ot rfl) (ot rfl) i13) ?_
        refine gr rfl (r_fa (ot rfl) (fs_27_0 sp13)) ?_
        refine gr rfl (r_load (ot rfl) (v := .int .i64 z10.Id) (lo_e (fun hf kn => ld_field (r := [.int .i64 z10.Id, .int .i64 z10.Rev, .string z10.R.From, .string z10.R.To]) ag_3 (kn.cellsAt cl13) rfl))) ?_
        refine gr rfl (r_fa (ot rfl) (fa_27_0 _ _)) ?_
        refine gr rfl (r_load (ot rfl) (lm_s (mem_seg 1 rfl) ag_3 rfl)) ?_
        refine gr rfl (r_bin (ot rfl) (ot rfl) rfl) ?_
        refine go_nil ?_
        refine g_cond (b := (z10.Id == p1.Id)) (ot rfl) (fun hc14 => ?_) (fun hc14 => ?_)
        ·
          replace hF := ifT hc14 hF
          refine go_seq ?_
          refine go_region ?_
          refine gM rfl rfl ?_
          refine gA rfl rfl ?_
          refine gAc rfl rfl ?_
          refine go_nil ?_
          obtain rfl := someI hF
          obtain rfl := someI hK4
          exact g_ret (rst rfl (rst rfl rs0)) (fun h1 hf hs => ⟨(e10.trans hs.hext), ⟨_, _, rfl, ((f0_0.ext e10.kn).ext hs.hext.kn)⟩⟩)
        ·
          replace hF := ifF hc14 hF
          refine go_skip ?_
          refine go_seq ?_
          refine go_seq ?_
          replace hF := obind hF
          obtain ⟨s15, hF, hK15⟩ := hF
          refine go_joinc (β := Unit) (fun s h' => True) (fun s => [(0, true, .slice a0_0 p0.length c0_0), (3, true, .pointer (some ⟨b3_1, 0, none⟩)), (4, true, .slice none 0 0), (5, true, .int .i64 0), (6, true, .slice a10_0 y10_0.length y10_0.length), (7, true, .bool y10_1), (8, true, .int .i64 (i10 : Int)), (13, true, .int .i64 (i10 : Int)), (14, true, .slice a0_0 p0.length c0_0), (15, true, .int .i64 (p0.length : Int)), (16, true, .bool true), (19, true, .slice a0_0 p0.length c0_0), (20, true, .int .i64 (i10 : Int)), (21, true, .pointer (some q13)), (22, true, .pointer (some ⟨q13.block, q13.off + 0, q13.spot⟩)), (23, true, .int .i64 z10.Id), (24, true, .pointer (some ⟨b3_1, 0, none⟩)), (25, true, .int .i64 p1.Id), (26, true, .bool (z10.Id == p1.Id)), (28, true, .bool y10_1), (29, true, .bool (!y10_1)), (30, true, .bool s15.1), (37, true, .bool s15.2)]) (fun s => (List.flatten [a10_1, [⟨b3_1, .cells [.int .i64 p1.Id, .int .i64 p1.Rev, .string p1.R.From, .string p1.R.To] 27⟩]] : List Blk)) ?_ (fun J15 => ?_)
          ·
            rintro _ h15 e15 w15 _
            replace hF := hK15
            replace hF := obind hF
            obtain ⟨s17, hF, hK17⟩ := hF
            refine go_joinc (β := Option Addr × List Blk) (fun s h' => AccR R_Timpostref11_Sub 27 h' s.2 (.slice s.1 s17.1.length s17.1.length) s17.1) (fun s => [(0, true, .slice a0_0 p0.length c0_0), (3, true, .pointer (some ⟨b3_1, 0, none⟩)), (4, true, .slice none 0 0), (5, true, .int .i64 0), (6, true, .slice s.1 s17.1.length s17.1.length), (7, true, .bool s17.2), (8, true, .int .i64 (i10 : Int)), (13, true, .int .i64 (i10 : Int)), (14, true, .slice a0_0 p0.length c0_0), (15, true, .int .i64 (p0.length : Int)), (16, true, .bool true), (19, true, .slice a0_0 p0.length c0_0), (20, true, .int .i64 (i10 : Int)), (21, true, .pointer (some q13)), (22, true, .pointer (some ⟨q13.block, q13.off + 0, q13.spot⟩)), (23, true, .int .i64 z10.Id), (24, true, .pointer (some ⟨b3_1, 0, none⟩)), (25, true, .int .i64 p1.Id), (26, true, .bool (z10.Id == p1.Id)), (28, true, .bool y10_1), (29, true, .bool (!y10_1)), (30, true, .bool s15.1), (37, true, .bool s15.2)]) (fun s => (List.flatten [s.2, [⟨b3_1, .cells [.int .i64 p1.Id, .int .i64 p1.Rev, .string p1.R.From, .string p1.R.To] 27⟩]] : List Blk)) ?_ (fun J17 => ?_)
            ·
              rintro ⟨a17_0, a17_1⟩ h17 e17 w17 f17_0
              replace hF := hK17
              refine go_region ?_
              refine gM rfl rfl ?_
              refine gM rfl rfl ?_
              refine gM rfl rfl ?_
              obtain ⟨q18, row18, i18, cl18, rc18, sp18⟩ := ix (ik := .i64) (cap := c0_0) (E := EE) (((f0_0.ext e10.kn).ext e15.kn).ext e17.kn) ((getI_nat _ _).trans hx10) ut_22 sz_27 rfl
              obtain rfl := rc18
              refine gr rfl (r_ia (ot rfl) (ot rfl) i18) ?_
              refine gr rfl (r_load (ot rfl) (v := .agg #[.int .i64 z10.Id, .int .i64 z10.Rev, .string z10.R.From, .string z10.R.To]) (lo_e (fun hf kn => ld_of (r := [.int .i64 z10.Id, .int .i64 z10.Rev, .string z10.R.From, .string z10.R.To]) ag_27 sz_27 (kn.cellsAt cl18)))) ?_
              refine gs_bslice (cs := [.int .i64 z10.Id, .int .i64 z10.Rev, .string z10.R.From, .string z10.R.To]) rfl (op1 (ot rfl) op0) ut_22 sz_27 zo_27 rfl rfl ?_; intro b47_19
              replace hF := obind hF
              obtain ⟨x20, hx20, hF⟩ := hF
              obtain ⟨hr20, rfl⟩ := appL_some hx20
              refine gs_front (.s (.z)) ?_
              refine gs_app (rows2 := [[.int .i64 z10.Id, .int .i64 z10.Rev, .string z10.R.From, .string z10.R.To]]) (R := R_Timpostref11_Sub) rfl (os1 (ot rfl) (os1 (ot rfl) os0)) rfl ut_22 sz_27 rfl (by decide) by_27 zo_27 rfl zs_22_22 rfl rfl (first_m (mem_seg 1 rfl) rfl (by decide)) (Rws.one (x := z10) rfl) f17_0 hr20 (fun p20_ tl20 f20_ => ?_)
              refine gA rfl rfl ?_
              refine go_nil ?_
              refine go_endb ?_
              refine go_region ?_
              refine gM rfl rfl ?_
              refine gr rfl (r_bin (ot rfl) (oc rfl) rfl) ?_
              refine gA rfl rfl ?_
              refine go_nil ?_
              refine gs_sub (.cons_cons _ (.cons _ (.cons_cons _ (.refl _)))) ?_
              refine go_re 8 (v2 := .int .i64 ((i10 + 1 : Nat) : Int)) rfl (wrap_succ hi10 hb10) ?_
              exact Goes.weak (ih10 (r10, i10 + 1, (s17.1 ++ ([z10] : List Timpostref11_Sub)), s17.2, p20_, tl20, h17) ⟨hr10, (e10.trans (e15.trans e17)), w17, hF, f20_⟩ (Nat.lt_succ_self _)) (Sub.cons (Sub.cons (Sub.cons (Sub.cons (Sub.cons (Sub.cons (Sub.cons (Sub.nil _) rfl) rfl) rfl) rfl) rfl) rfl) rfl)
            ·
              refine g_cond (b := s15.2) (ot rfl) (fun hc16 => ?_) (fun hc16 => ?_)
              ·
                replace hF := ifT hc16 hF
                refine go_seq ?_
                refine go_region ?_
                refine gM rfl rfl ?_
                refine gr rfl (r_load (ot rfl) (lm_w (mem_seg 1 rfl) ag_27 sz_27 rfl)) ?_
                refine gs_bslice (cs := [.int .i64 p1.Id, .int .i64 p1.Rev, .string p1.R.From, .string p1.R.To]) rfl (op1 (ot rfl) op0) ut_22 sz_27 zo_27 rfl rfl ?_; intro b40_21
                replace hF := obind hF
                obtain ⟨x22, hx22, hF⟩ := hF
                obtain ⟨hr22, rfl⟩ := appL_some hx22
                refine gs_front (.s (.z)) ?_
                refine gs_app (rows2 := [[.int .i64 p1.Id, .int .i64 p1.Rev, .string p1.R.From, .string p1.R.To]]) (R := R_Timpostref11_Sub) rfl (os1 (ot rfl) (os1 (ot rfl) os0)) rfl ut_22 sz_27 rfl (by decide) by_27 zo_27 rfl zs_22_22 rfl rfl (first_m (mem_seg 1 rfl) rfl (by decide)) (Rws.one (x := p1) rfl) (f10_0.ext e15.kn) hr22 (fun p22_ tl22 f22_ => ?_)
                refine gA rfl rfl ?_
                refine go_nil ?_
                refine go_region ?_
                refine gAc rfl rfl ?_
                refine go_nil ?_
                obtain rfl := someI hF
                refine gs_sub (.cons_cons _ (.cons _ (.cons_cons _ (.refl _)))) ?_
                exact Goes.weak (J17 (p22_, tl22) _ (HExt.refl _) w15 f22_) (Sub.cons (Sub.cons (Sub.cons (Sub.cons (Sub.cons (Sub.cons (Sub.cons (Sub.cons (Sub.cons (Sub.cons (Sub.cons (Sub.cons (Sub.cons (Sub.cons (Sub.cons (Sub.cons (Sub.cons (Sub.cons (Sub.cons (Sub.cons (Sub.cons (Sub.cons (Sub.cons (Sub.nil _) rfl) rfl) rfl) rfl) rfl) rfl) rfl) rfl) rfl) rfl) rfl) rfl) rfl) rfl) rfl) rfl) rfl) rfl) rfl) rfl) rfl) rfl) rfl)
              ·
                replace hF := ifF hc16 hF
                refine go_skip ?_
                obtain rfl := someI hF
                exact Goes.weak (J17 (a10_0, a10_1) _ (HExt.refl _) w15 (f10_0.ext e15.kn)) (Sub.cons (Sub.cons (Sub.cons (Sub.cons (Sub.cons (Sub.cons (Sub.cons (Sub.cons (Sub.cons (Sub.cons (Sub.cons (Sub.cons (Sub.cons (Sub.cons (Sub.cons (Sub.cons (Sub.cons (Sub.cons (Sub.cons (Sub.cons (Sub.cons (Sub.cons (Sub.cons (Sub.nil _) rfl) rfl) rfl) rfl) rfl) rfl) rfl) rfl) rfl) rfl) rfl) rfl) rfl) rfl) rfl) rfl) rfl) rfl) rfl) rfl) rfl) rfl) rfl)
          ·
            refine go_regions (L := [(0, []), (1, []), (2, []), (3, []), (4, []), (5, []), (6, []), (7, []), (8, []), (9, [])]) (by kernel_rfl) (by kernel_rfl) (fun _ => rfl) ?_
            refine go_sop rfl rfl ?_
            refine gM rfl rfl ?_
            refine go_nil ?_
            refine go_sop rfl rfl ?_
            refine gr rfl (r_un (ot rfl) rfl) ?_
            refine go_nil ?_
            refine go_sop rfl rfl ?_
            refine gM rfl rfl ?_
            refine go_nil ?_
            rcases Bool.eq_false_or_eq_true (!y10_1) with hb23 | hb23
            ·
              replace hF := ifT hb23 hF
              refine go_re 30 (v2 := .bool true) rfl (congrArg Value.bool hb23) ?_
              refine go_sop rfl rfl ?_
              refine g_do rfl rfl rfl ?_
              refine gr rfl (r_load (ot rfl) (lm_w (mem_seg 1 rfl) ag_27 sz_27 rfl)) ?_
              refine go_nil ?_
              refine go_sop rfl rfl ?_
              refine g_do rfl rfl rfl ?_
              refine gM rfl rfl ?_
              refine go_nil ?_
              refine go_sop rfl rfl ?_
              refine g_do rfl rfl rfl ?_
              refine gM rfl rfl ?_
              refine go_nil ?_
              refine go_sop rfl rfl ?_
              refine g_do rfl rfl rfl ?_
              obtain ⟨q24, row24, i24, cl24, rc24, sp24⟩ := ix (ik := .i64) (cap := c0_0) (E := EE) (f0_0.ext e10.kn) ((getI_nat _ _).trans hx10) ut_22 sz_27 rfl
              obtain rfl := rc24
              refine gr rfl (r_ia (ot rfl) (ot rfl) i24) ?_
              refine go_nil ?_
              refine go_sop rfl rfl ?_
              refine g_do rfl rfl rfl ?_
              refine gr rfl (r_load (ot rfl) (v := .agg #[.int .i64 z10.Id, .int .i64 z10.Rev, .string z10.R.From, .string z10.R.To]) (lo_e (fun hf kn => ld_of (r := [.int .i64 z10.Id, .int .i64 z10.Rev, .string z10.R.From, .string z10.R.To]) ag_27 sz_27 (kn.cellsAt cl24)))) ?_
              refine go_nil ?_
              refine go_sop rfl rfl ?_
              refine g_do rfl rfl rfl ?_
              replace hF := obind hF
              obtain ⟨x25, hx25, hF⟩ := hF
              refine g_callp (v := .bool x25) EE_fr rfl of (os1 (ot rfl) (os1 (ot rfl) os0)) hb_44 (fun _ => rfl) (fun hf kn w => by exact s_ref11_less w p1 z10  hx25) ?_
              refine go_nil ?_
              refine go_sop rfl rfl ?_
              refine gr rfl (r_pkT (ot rfl) (ot rfl)) ?_
              refine go_nil ?_
              refine go_snil ?_
              obtain rfl := someI hF
              exact Goes.weak (J15 () _ (HExt.refl _) w10 trivial) (Sub.cons (Sub.cons (Sub.cons (Sub.cons (Sub.cons (Sub.cons (Sub.cons (Sub.cons (Sub.cons (Sub.cons (Sub.cons (Sub.cons (Sub.cons (Sub.cons (Sub.cons (Sub.cons (Sub.cons (Sub.cons (Sub.cons (Sub.cons (Sub.cons (Sub.cons (Sub.cons (Sub.nil _) rfl) rfl) rfl) rfl) rfl) rfl) rfl) rfl) rfl) rfl) rfl) rfl) rfl) rfl) rfl) rfl) rfl) rfl) rfl) rfl) rfl) rfl) rfl)
            ·
              replace hF := ifF hb23 hF
              refine go_re 30 (v2 := .bool false) rfl (congrArg Value.bool hb23) ?_
              refine go_sskip rfl (w_no rfl rfl rfl rfl rfl) ?_
              refine g_no rfl rfl rfl rfl rfl ?_
              refine go_nil ?_
              refine go_sskip rfl (w_no rfl rfl rfl rfl rfl) ?_
              refine g_no rfl rfl rfl rfl rfl ?_
              refine go_nil ?_
              refine go_sskip rfl (w_no rfl rfl rfl rfl rfl) ?_
              refine g_no rfl rfl rfl rfl rfl ?_
              refine go_nil ?_
              refine go_sskip rfl (w_no rfl rfl rfl rfl rfl) ?_
              refine g_no rfl rfl rfl rfl rfl ?_
              refine go_nil ?_
              refine go_sskip rfl (w_no rfl rfl rfl rfl rfl) ?_
              refine g_no rfl rfl rfl rfl rfl ?_
              refine go_nil ?_
              refine go_sskip rfl (w_no rfl rfl rfl rfl rfl) ?_
              refine g_no rfl rfl rfl rfl rfl ?_
              refine go_nil ?_
              refine go_sop rfl rfl ?_
              refine gr rfl (r_pkF (ot rfl) (oc rfl)) ?_
              refine go_nil ?_
              refine go_snil ?_
              obtain rfl := someI hF
              exact Goes.weak (J15 () _ (HExt.refl _) w10 trivial) (Sub.cons (Sub.cons (Sub.cons (Sub.cons (Sub.cons (Sub.cons (Sub.cons (Sub.cons (Sub.cons (Sub.cons (Sub.cons (Sub.cons (Sub.cons (Sub.cons (Sub.cons (Sub.cons (Sub.cons (Sub.cons (Sub.cons (Sub.cons (Sub.cons (Sub.cons (Sub.cons (Sub.nil _) rfl) rfl) rfl) rfl) rfl) rfl) rfl) rfl) rfl) rfl) rfl) rfl) rfl) rfl) rfl) rfl) rfl) rfl) rfl) rfl) rfl) rfl) rfl)
theorem s_ref11_Del {h : Heap} (hw : Wf h) (p0 : (List Timpostref11_Sub)) (p1 : Int) {a0_0 : Option Addr} {c0_0 : Nat} (f0_0 : RL R_Timpostref11_Sub h a0_0 c0_0 p0) {r : (List Timpostref11_Sub) × Int} (hF : F_ref11_Del p0 p1 = some r) :
    Ev EE 33 [.slice a0_0 p0.length c0_0, .int .i64 p1] h (fun v h1 => ∃ a0 c0, v = .tuple #[.slice a0 r.1.length c0, .int .i64 r.2] ∧ RL R_Timpostref11_Sub h1 a0 c0 r.1) := by
  unfold F_ref11_Del at hF
  refine ev_of hw rfl at_33 rfl rfl (go_seg0 ?_)
  refine go_seq ?_
  refine go_region ?_
  refine gAc rfl rfl ?_
  refine gAc rfl rfl ?_
  refine go_nil ?_
  refine go_seq ?_
  refine go_region ?_
  refine gAc rfl rfl ?_
  refine go_nil ?_
  refine go_seq ?_
  refine go_seq ?_
  refine go_region ?_
  refine gAc rfl rfl ?_
  refine go_nil ?_
  replace hF := obind hF
  obtain ⟨s1, hF, hK1⟩ := hF
  refine go_joinc (β := Option Addr × List Blk) (fun s h' => AccR R_Timpostref11_Sub 27 h' s.2 (.slice s.1 s1.length s1.length) s1) (fun s => [(0, true, .slice a0_0 p0.length c0_0), (4, true, .slice none 0 0), (5, true, .int .i64 0), (6, true, .slice s.1 s1.length s1.length)]) (fun s => (List.flatten [s.2] : List Blk)) ?_ (fun J1 => ?_)
  ·
    rintro ⟨a1_0, a1_1⟩ h1 e1 w1 f1_0
    replace hF := hK1
    refine go_seq ?_
    refine go_seq ?_
    refine go_region ?_
    refine gM rfl rfl ?_
    refine gr rfl (r_len rfl (os1 (ot rfl) os0) (fun _ _ => ln_22)) ?_
    refine gM rfl rfl ?_
    refine gr rfl (r_len rfl (os1 (ot rfl) os0) (fun _ _ => ln_22)) ?_
    refine gr rfl (r_bin (ot rfl) (ot rfl) rfl) ?_
    refine go_nil ?_
    refine g_cond (b := ((s1.length : Int) == (p0.length : Int))) (ot rfl) (fun hc2 => ?_) (fun hc2 => ?_)
    ·
      replace hF := ifT hc2 hF
      refine go_seq ?_
      refine go_region ?_
      refine gM rfl rfl ?_
      refine gA rfl rfl ?_
      refine gAc rfl rfl ?_
      refine go_nil ?_
      obtain rfl := someI hF
      exact g_ret (rst rfl (rst rfl rs0)) (fun h1 hf hs => ⟨(e1.trans hs.hext), ⟨_, _, rfl, ((f0_0.ext e1.kn).ext hs.hext.kn)⟩⟩)
    ·
      replace hF := ifF hc2 hF
      refine go_skip ?_
      refine go_seq ?_
      refine go_region ?_
      refine gM rfl rfl ?_
      refine gA rfl rfl ?_
      refine gAc rfl rfl ?_
      refine go_nil ?_
      refine gs_accpub .z f1_0 (fun h3 e3 w3 f3_ => ?_) rfl
      obtain rfl := someI hF
      exact g_ret (rst rfl (rst rfl rs0)) (fun h1 hf hs => ⟨(e1.trans (e3.trans hs.hext)), ⟨_, _, rfl, (f3_.ext hs.hext.kn)⟩⟩)
  ·
    refine go_block ?_
    refine go_loop (α := (List Timpostref11_Sub) × Nat × (List Timpostref11_Sub) × Option Addr × List Blk × Heap) (fun a => a.1 = List.drop a.2.1 p0 ∧ HExt h a.2.2.2.2.2 ∧ Wf a.2.2.2.2.2 ∧ F_ref11_Del_L1 p1 a.1 a.2.1 a.2.2.1 = some s1 ∧ AccR R_Timpostref11_Sub 27 a.2.2.2.2.2 a.2.2.2.2.1 (.slice a.2.2.2.1 a.2.2.1.length a.2.2.1.length) a.2.2.1) (fun a => a.1.length) (fun a => [(0, true, .slice a0_0 p0.length c0_0), (1, true, .int .i64 p1), (4, true, .slice none 0 0), (5, true, .int .i64 0), (6, true, .slice a.2.2.2.1 a.2.2.1.length a.2.2.1.length), (7, true, .int .i64 (a.2.1 : Int))]) (fun a => (List.flatten [a.2.2.2.2.1] : List Blk)) (fun a => a.2.2.2.2.2) ?_ (p0, 0, ([] : List Timpostref11_Sub), none, [], h) ⟨rfl, HExt.refl _, hw, hF, (AccR.nil _ _ _)⟩ (Sub.cons (Sub.cons (Sub.cons (Sub.cons (Sub.cons (Sub.cons (Sub.nil _) rfl) rfl) rfl) rfl) rfl) rfl) rfl rfl
    rintro ⟨r4, i4, y4_0, a4_0, a4_1, h4⟩ ⟨hr4, e4, w4, hF, f4_0⟩ ih4
    rcases r4 with _ | ⟨z4, r4⟩
    ·
      have hi4 := drop_nil hr4
      rw [F_ref11_Del_L1.eq_1] at hF
      refine go_seq ?_
      refine go_seq ?_
      refine go_region ?_
      refine gM rfl rfl ?_
      refine gM rfl rfl ?_
      refine gr rfl (r_len rfl (os1 (ot rfl) os0) (fun _ _ => ln_22)) ?_
      refine gr rfl (r_bin (ot rfl) (ot rfl) rfl) ?_
      refine go_cast (.bool false) (congrArg Value.bool (decide_eq_false hi4)) ?_
      refine go_nil ?_
      refine g_cond (b := false) (ot rfl) (fun hc5 => ?_) (fun hc5 => ?_)
      · cases hc5
      refine go_exit rfl ?_
      obtain rfl := someI hF
      exact Goes.weak (J1 (a4_0, a4_1) _ e4 w4 f4_0) (Sub.cons (Sub.cons (Sub.cons (Sub.cons (Sub.nil _) rfl) rfl) rfl) rfl)
    ·
      obtain ⟨hi4, hx4, hr4⟩ := drop_cons hr4
      have hb4 := (f0_0.ext e4.kn).1
      rw [F_ref11_Del_L1.eq_2] at hF
      refine go_seq ?_
      refine go_seq ?_
      refine go_region ?_
      refine gM rfl rfl ?_
      refine gM rfl rfl ?_
      refine gr rfl (r_len rfl (os1 (ot rfl) os0) (fun _ _ => ln_22)) ?_
      refine gr rfl (r_bin (ot rfl) (ot rfl) rfl) ?_
      refine go_cast (.bool true) (congrArg Value.bool (decide_eq_true (Int.ofNat_lt.mpr hi4))) ?_
      refine go_nil ?_
      refine g_cond (b := true) (ot rfl) (fun hc6 => ?_) (fun hc6 => ?_)
      rotate_left
      · cases hc6
      refine go_skip ?_
      refine go_seq ?_
      refine go_block ?_
      refine go_seq ?_
      refine go_region ?_
      refine gM rfl rfl ?_
      refine gM rfl rfl ?_
      obtain ⟨q7, row7, i7, cl7, rc7, sp7⟩ := ix (ik := .i64) (cap := c0_0) (E := EE) (f0_0.ext e4.kn) ((getI_nat _ _).trans hx4) ut_22 sz_27 rfl
      obtain rfl := rc7
      refine gr rfl (r_ia (ot rfl) (ot rfl) i7) ?_
      refine gr rfl (r_fa (ot rfl) (fs_27_0 sp7)) ?_
      refine gr rfl (r_load (ot rfl) (v := .int .i64 z4.Id) (lo_e (fun hf kn => ld_field (r := [.int .i64 z4.Id, .int .i64 z4.Rev, .string z4.R.From, .string z4.R.To]) ag_3 (kn.cellsAt cl7) rfl))) ?_
      refine gM rfl rfl ?_
      refine gr rfl (r_bin (ot rfl) (ot rfl) rfl) ?_
      refine go_nil ?_
      replace hF := obind hF
      obtain ⟨s9, hF, hK9⟩ := hF
      refine go_joinc (β := Option Addr × List Blk) (fun s h' => AccR R_Timpostref11_Sub 27 h' s.2 (.slice s.1 s9.length s9.length) s9) (fun s => [(0, true, .slice a0_0 p0.length c0_0), (1, true, .int .i64 p1), (4, true, .slice none 0 0), (5, true, .int .i64 0), (6, true, .slice s.1 s9.length s9.length), (7, true, .int .i64 (i4 : Int)), (8, true, .int .i64 (i4 : Int)), (9, true, .slice a0_0 p0.length c0_0), (10, true, .int .i64 (p0.length : Int)), (11, true, .bool true), (14, true, .slice a0_0 p0.length c0_0), (15, true, .int .i64 (i4 : Int)), (16, true, .pointer (some q7)), (17, true, .pointer (some ⟨q7.block, q7.off + 0, q7.spot⟩)), (18, true, .int .i64 z4.Id), (19, true, .int .i64 p1), (20, true, .bool (z4.Id != p1))]) (fun s => (List.flatten [s.2] : List Blk)) ?_ (fun J9 => ?_)
      ·
        rintro ⟨a9_0, a9_1⟩ h9 e9 w9 f9_0
        replace hF := hK9
        refine go_endb ?_
        refine go_region ?_
        refine gM rfl rfl ?_
        refine gr rfl (r_bin (ot rfl) (oc rfl) rfl) ?_
        refine gA rfl rfl ?_
        refine go_nil ?_
        refine go_re 7 (v2 := .int .i64 ((i4 + 1 : Nat) : Int)) rfl (wrap_succ hi4 hb4) ?_
        exact Goes.weak (ih4 (r4, i4 + 1, s9, a9_0, a9_1, h9) ⟨hr4, (e4.trans e9), w9, hF, f9_0⟩ (Nat.lt_succ_self _)) (Sub.cons (Sub.cons (Sub.cons (Sub.cons (Sub.cons (Sub.cons (Sub.nil _) rfl) rfl) rfl) rfl) rfl) rfl)
      ·
        refine g_cond (b := (z4.Id != p1)) (ot rfl) (fun hc8 => ?_) (fun hc8 => ?_)
        ·
          replace hF := ifT hc8 hF
          refine go_region ?_
          refine gM rfl rfl ?_
          refine gM rfl rfl ?_
          refine gM rfl rfl ?_
          obtain ⟨q10, row10, i10, cl10, rc10, sp10⟩ := ix (ik := .i64) (cap := c0_0) (E := EE) (f0_0.ext e4.kn) ((getI_nat _ _).trans hx4) ut_22 sz_27 rfl
          obtain rfl := rc10
          refine gr rfl (r_ia (ot rfl) (ot rfl) i10) ?_
          refine gr rfl (r_load (ot rfl) (v := .agg #[.int .i64 z4.Id, .int .i64 z4.Rev, .string z4.R.From, .string z4.R.To]) (lo_e (fun hf kn => ld_of (r := [.int .i64 z4.Id, .int .i64 z4.Rev, .string z4.R.From, .string z4.R.To]) ag_27 sz_27 (kn.cellsAt cl10)))) ?_
          refine gs_bslice (cs := [.int .i64 z4.Id, .int .i64 z4.Rev, .string z4.R.From, .string z4.R.To]) rfl (op1 (ot rfl) op0) ut_22 sz_27 zo_27 rfl rfl ?_; intro b26_11
          replace hF := obind hF
          obtain ⟨x12, hx12, hF⟩ := hF
          obtain ⟨hr12, rfl⟩ := appL_some hx12
          refine gs_front (.s (.z)) ?_
          refine gs_app (rows2 := [[.int .i64 z4.Id, .int .i64 z4.Rev, .string z4.R.From, .string z4.R.To]]) (R := R_Timpostref11_Sub) rfl (os1 (ot rfl) (os1 (ot rfl) os0)) rfl ut_22 sz_27 rfl (by decide) by_27 zo_27 rfl zs_22_22 rfl rfl (first_m (mem_seg 1 rfl) rfl (by decide)) (Rws.one (x := z4) rfl) f4_0 hr12 (fun p12_ tl12 f12_ => ?_)
          refine gA rfl rfl ?_
          refine go_nil ?_
          obtain rfl := someI hF
          refine gs_sub (.cons_cons _ (.cons _ (.refl _))) ?_
          exact Goes.weak (J9 (p12_, tl12) _ (HExt.refl _) w4 f12_) (Sub.cons (Sub.cons (Sub.cons (Sub.cons (Sub.cons (Sub.cons (Sub.cons (Sub.cons (Sub.cons (Sub.cons (Sub.cons (Sub.cons (Sub.cons (Sub.cons (Sub.cons (Sub.cons (Sub.cons (Sub.nil _) rfl) rfl) rfl) rfl) rfl) rfl) rfl) rfl) rfl) rfl) rfl) rfl) rfl) rfl) rfl) rfl) rfl)
        ·
          replace hF := ifF hc8 hF
          refine go_skip ?_
          obtain rfl := someI hF
          exact Goes.weak (J9 (a4_0, a4_1) _ (HExt.refl _) w4 f4_0) (Sub.cons (Sub.cons (Sub.cons (Sub.cons (Sub.cons (Sub.cons (Sub.cons (Sub.cons (Sub.cons (Sub.cons (Sub.cons (Sub.cons (Sub.cons (Sub.cons (Sub.cons (Sub.cons (Sub.cons (Sub.nil _) rfl) rfl) rfl) rfl) rfl) rfl) rfl) rfl) rfl) rfl) rfl) rfl) rfl) rfl) rfl) rfl) rfl)
theorem s_ref11_Ints {h : Heap} (hw : Wf h) (p0 : (List Int)) (p1 : (List Int)) {a0_0 : Option Addr} {c0_0 : Nat} {a1_0 : Option Addr} {c1_0 : Nat} (f0_0 : RL (RI_ .i64 3) h a0_0 c0_0 p0) (f1_0 : RL (RI_ .i64 3) h a1_0 c1_0 p1) {r : Bool} (hF : F_ref11_Ints p0 p1 = some r) :
    Ev EE 15 [.slice a0_0 p0.length c0_0, .slice a1_0 p1.length c1_0] h (fun v _ => v = .bool r) := by
  unfold F_ref11_Ints at hF
  refine ev_of hw rfl at_15 rfl rfl (go_seg0 ?_)
  refine go_seq ?_
  refine go_region ?_
  refine gAc rfl rfl ?_
  refine go_nil ?_
  refine go_seq ?_
  refine go_seq ?_
  refine go_region ?_
  refine gM rfl rfl ?_
  refine gr rfl (r_len rfl (os1 (ot rfl) os0) (fun _ _ => ln_38)) ?_
  refine gM rfl rfl ?_
  refine gr rfl (r_len rfl (os1 (ot rfl) os0) (fun _ _ => ln_38)) ?_
  refine gr rfl (r_bin (ot rfl) (ot rfl) rfl) ?_
  refine go_nil ?_
  refine g_cond (b := ((p0.length : Int) != (p1.length : Int))) (ot rfl) (fun hc1 => ?_) (fun hc1 => ?_)
  ·
    replace hF := ifT hc1 hF
    refine go_seq ?_
    refine go_region ?_
    refine gAc rfl rfl ?_
    refine go_nil ?_
    obtain rfl := someI hF
    exact g_ret (rst rfl rs0) (fun h1 hf hs => ⟨hs.hext, rfl⟩)
  ·
    replace hF := ifF hc1 hF
    refine go_skip ?_
    refine go_seq ?_
    refine go_seq ?_
    refine go_region ?_
    refine gAc rfl rfl ?_
    refine go_nil ?_
    replace hF := obind hF
    obtain ⟨s2, hF, hK2⟩ := hF
    refine go_joinc (β := (Unit)) (fun s h' => s2 = .go s) (fun s => [(4, true, .bool false)]) (fun s => (List.flatten [] : List Blk)) ?_ (fun J2 => ?_)
    ·
      rintro _ h2 e2 w2 hs2
      subst hs2
      replace hF := lpgo hK2
      refine go_seq ?_
      refine go_region ?_
      refine gAc rfl rfl ?_
      refine go_nil ?_
      obtain rfl := someI hF
      exact g_ret (rst rfl rs0) (fun h1 hf hs => ⟨(e2.trans hs.hext), rfl⟩)
    ·
      refine go_block ?_
      refine go_loop (α := (List Int) × Nat × Heap) (fun a => a.1 = List.drop a.2.1 p0 ∧ HExt h a.2.2 ∧ Wf a.2.2 ∧ F_ref11_Ints_L1 p1 a.1 a.2.1 = some s2) (fun a => a.1.length) (fun a => [(0, true, .slice a0_0 p0.length c0_0), (1, true, .slice a1_0 p1.length c1_0), (4, true, .bool false), (5, true, .int .i64 (a.2.1 : Int))]) (fun a => (List.flatten [] : List Blk)) (fun a => a.2.2) ?_ (p0, 0, h) ⟨rfl, HExt.refl _, hw, hF⟩ (Sub.cons (Sub.cons (Sub.cons (Sub.cons (Sub.nil _) rfl) rfl) rfl) rfl) rfl rfl
      rintro ⟨r3, i3, h3⟩ ⟨hr3, e3, w3, hF⟩ ih3
      rcases r3 with _ | ⟨z3, r3⟩
      ·
        have hi3 := drop_nil hr3
        rw [F_ref11_Ints_L1.eq_1] at hF
        refine go_seq ?_
        refine go_seq ?_
        refine go_region ?_
        refine gM rfl rfl ?_
        refine gM rfl rfl ?_
        refine gr rfl (r_len rfl (os1 (ot rfl) os0) (fun _ _ => ln_38)) ?_
        refine gr rfl (r_bin (ot rfl) (ot rfl) rfl) ?_
        refine go_cast (.bool false) (congrArg Value.bool (decide_eq_false hi3)) ?_
        refine go_nil ?_
        refine g_cond (b := false) (ot rfl) (fun hc4 => ?_) (fun hc4 => ?_)
        · cases hc4
        refine go_exit rfl ?_
        obtain rfl := someI hF
        exact Goes.weak (J2 () _ e3 w3 rfl) (Sub.cons (Sub.nil _) rfl)
      ·
        obtain ⟨hi3, hx3, hr3⟩ := drop_cons hr3
        have hb3 := (f0_0.ext e3.kn).1
        rw [F_ref11_Ints_L1.eq_2] at hF
        refine go_seq ?_
        refine go_seq ?_
        refine go_region ?_
        refine gM rfl rfl ?_
        refine gM rfl rfl ?_
        refine gr rfl (r_len rfl (os1 (ot rfl) os0) (fun _ _ => ln_38)) ?_
        refine gr rfl (r_bin (ot rfl) (ot rfl) rfl) ?_
        refine go_cast (.bool true) (congrArg Value.bool (decide_eq_true (Int.ofNat_lt.mpr hi3))) ?_
        refine go_nil ?_
        refine g_cond (b := true) (ot rfl) (fun hc5 => ?_) (fun hc5 => ?_)
        rotate_left
        · cases hc5
        refine go_skip ?_
        refine go_seq ?_
        refine go_block ?_
        refine go_seq ?_
        refine go_regionq (by kernel_rfl) ?_
        refine gM rfl rfl ?_
        refine gM rfl rfl ?_
        obtain ⟨q6, row6, i6, cl6, rc6, sp6⟩ := ix (ik := .i64) (cap := c0_0) (E := EE) (f0_0.ext e3.kn) ((getI_nat _ _).trans hx3) ut_38 sz_3 rfl
        obtain rfl := rc6
        refine gr rfl (r_ia (ot rfl) (ot rfl) i6) ?_
        refine gr rfl (r_load (ot rfl) (v := .int .i64 z3) (lo_e (fun hf kn => ld_one ag_3 (kn.cellsAt cl6)))) ?_
        refine gM rfl rfl ?_
        refine gM rfl rfl ?_
        replace hF := obind hF
        obtain ⟨x7, hx7, hF⟩ := hF
        obtain ⟨q7, row7, i7, cl7, rc7, sp7⟩ := ix (ik := .i64) (cap := c1_0) (E := EE) (f1_0.ext e3.kn) hx7 ut_38 sz_3 rfl
        obtain rfl := rc7
        refine gr rfl (r_ia (ot rfl) (ot rfl) i7) ?_
        refine gr rfl (r_load (ot rfl) (v := .int .i64 x7) (lo_e (fun hf kn => ld_one ag_3 (kn.cellsAt cl7)))) ?_
        refine gr rfl (r_bin (ot rfl) (ot rfl) rfl) ?_
        refine go_nil ?_
        refine g_cond (b := (z3 != x7)) (ot rfl) (fun hc8 => ?_) (fun hc8 => ?_)
        ·
          replace hF := ifT hc8 hF
          refine go_seq ?_
          refine go_region ?_
          refine gAc rfl rfl ?_
          refine go_nil ?_
          obtain rfl := someI hF
          obtain rfl := someI hK2
          exact g_ret (rst rfl rs0) (fun h1 hf hs => ⟨(e3.trans hs.hext), rfl⟩)
        ·
          replace hF := ifF hc8 hF
          refine go_skip ?_
          refine go_endb ?_
          refine go_region ?_
          refine gM rfl rfl ?_
          refine gr rfl (r_bin (ot rfl) (oc rfl) rfl) ?_
          refine gA rfl rfl ?_
          refine go_nil ?_
          refine go_re 5 (v2 := .int .i64 ((i3 + 1 : Nat) : Int)) rfl (wrap_succ hi3 hb3) ?_
          exact Goes.weak (ih3 (r3, i3 + 1, h3) ⟨hr3, e3, w3, hF⟩ (Nat.lt_succ_self _)) (Sub.cons (Sub.cons (Sub.cons (Sub.cons (Sub.nil _) rfl) rfl) rfl) rfl)
theorem s_subidx_New {h : Heap} (hw : Wf h)    {r : Osubidx_Index} (hF : F_subidx_New  = some r) :
    EvO EE 10 [] [] h (fun v S h1 => ∃ bw0 qw0_0 tw0_0, v = .pointer (some ⟨bw0, 0, none⟩) ∧ S = [[⟨bw0, .cells [.slice qw0_0 r.l.length r.l.length] 55⟩], tw0_0] ∧ AccR R_Tsubidx_node 58 h1 tw0_0 (.slice qw0_0 r.l.length r.l.length) r.l) := by
  unfold F_subidx_New at hF
  refine evo_of rfl at_10 rfl rfl ?_
  refine go_seq ?_
  refine go_region ?_
  refine gAc rfl rfl ?_
  refine go_nil ?_
  refine go_seq ?_
  refine go_region ?_
  refine gr rfl (r_build op0 rfl) ?_
  refine gs_box rfl (ot rfl) rfl ?_; intro b2_1
  refine gA rfl rfl ?_
  refine go_nil ?_
  obtain rfl := someI hF
  exact g_ret (rst rfl rs0) (fun h1 hf hs => ⟨[[⟨b2_1, .cells [.slice none 0 0] 55⟩], []], _, hf, (HExt.refl _), hw, hs, (ndb (by intro e; cases e) (nde nd0)), ⟨_, _, _, rfl, rfl, (AccR.nil _ _ _)⟩⟩)
theorem s_law11_made {h : Heap} (hw : Wf h) (p0 : Timpostref11_Sub)   {r : Tsubidx_Sub} (hF : F_law11_made p0 = some r) :
    Ev EE 12 [.agg #[.int .i64 p0.Id, .int .i64 p0.Rev, .string p0.R.From, .string p0.R.To]] h (fun v _ => v = .agg #[.int .i64 r.Id, .int .i64 r.Rev, .string r.R.From, .string r.R.To]) := by
  unfold F_law11_made at hF
  refine ev_of hw rfl at_12 rfl rfl (go_seg0 ?_)
  refine go_seq ?_
  refine go_region ?_
  refine gs_box rfl (ot rfl) rfl ?_; intro b1_1
  refine gs_alloc rfl zo_32 rfl ?_; intro b2_2
  refine go_nil ?_
  refine go_seq ?_
  refine go_region ?_
  refine gr rfl (r_fa (ot rfl) (fa_27_0 _ _)) ?_
  refine gr rfl (r_load (ot rfl) (lm_s (mem_seg 1 rfl) ag_3 rfl)) ?_
  refine gr rfl (r_fa (ot rfl) (fa_27_1 _ _)) ?_
  refine gr rfl (r_load (ot rfl) (lm_s (mem_seg 1 rfl) ag_3 rfl)) ?_
  refine gr rfl (r_fa (ot rfl) (fa_27_2 _ _)) ?_
  refine gr rfl (r_load (ot rfl) (lm_a (vs := [_, _]) (mem_seg 1 rfl) ag_25 sz_25 rfl rfl)) ?_
  refine gr rfl (r_build (op1 (ot rfl) (op1 (ot rfl) (op1 (ot rfl) op0))) rfl) ?_
  refine gs_store (ot rfl) (ot rfl) sz_32 rfl rfl rfl rfl rfl .z ?_
  refine go_nil ?_
  obtain rfl := someI hF
  exact g_ret (rsc rfl (lm_w (mem_seg 0 rfl) ag_32 sz_32 rfl) rs0) (fun h1 hf hs => ⟨hs.hext, rfl⟩)
theorem s_key_Empty {h : Heap} (hw : Wf h) (p0 : TRange)   {r : Bool} (hF : F_key_Empty p0 = some r) :
    Ev EE 22 [.agg #[.string p0.From, .string p0.To]] h (fun v _ => v = .bool r) := by
  unfold F_key_Empty at hF
  refine ev_of hw rfl at_22 rfl rfl (go_seg0 ?_)
  refine go_seq ?_
  refine go_region ?_
  refine gs_box rfl (ot rfl) rfl ?_; intro b1_1
  refine gAc rfl rfl ?_
  refine go_nil ?_
  refine go_seq ?_
  refine go_region ?_
  refine gr rfl (r_fa (ot rfl) (fa_25_1 _ _)) ?_
  refine gr rfl (r_load (ot rfl) (lm_s (mem_seg 0 rfl) ag_9 rfl)) ?_
  refine gr rfl (r_bin (ot rfl) (oc rfl) rfl) ?_
  refine gM rfl rfl ?_
  refine grt rfl rfl rfl rfl (r_load (ot rfl) (lm_w (mem_seg 0 rfl) ag_25 sz_25 rfl)) ?_
  refine grt rfl rfl rfl rfl (r_fa (ot rfl) (fa_25_0 _ _)) ?_
  refine grt rfl rfl rfl rfl (r_load (og rfl id) (lm_s (mem_seg 0 rfl) ag_9 rfl)) ?_
  refine grt rfl rfl rfl rfl (r_fa (ot rfl) (fa_25_1 _ _)) ?_
  refine grt rfl rfl rfl rfl (r_load (og rfl id) (lm_s (mem_seg 0 rfl) ag_9 rfl)) ?_
  refine grt rfl rfl rfl rfl (r_max (os1 (og rfl id) (os1 (og rfl id) os0)) rfl) ?_
  refine grt rfl rfl rfl rfl (r_fa (ot rfl) (fa_25_1 _ _)) ?_
  refine grt rfl rfl rfl rfl (r_load (og rfl id) (lm_s (mem_seg 0 rfl) ag_9 rfl)) ?_
  refine grt rfl rfl rfl rfl (r_build (op1 (og rfl id) (op1 (og rfl id) op0)) rfl) ?_
  refine grt rfl rfl rfl rfl (r_bin (og rfl id) (og rfl id) bq_25) ?_
  refine gr rfl (r_pickb (ot rfl) (og rfl id) (oc rfl)) ?_
  refine gA rfl rfl ?_
  refine go_nil ?_
  obtain rfl := someI hF
  exact g_ret (rst rfl rs0) (fun h1 hf hs => ⟨hs.hext, rfl⟩)
theorem s_subidx_Index_of_1 {h : Heap} (hw : Wf h) (p0 : Tsubidx_node) (p1 : Int) {b1 : Nat} (g1 : BK h b1 [.int .i64 p1] 3) {r : Bool} (hF : F_subidx_Index_of_1 p0 p1 = some r) :
    Ev EE 36 [.agg #[.int .i64 p0.Sub.Id, .int .i64 p0.Sub.Rev, .string p0.Sub.R.From, .string p0.Sub.R.To, .string p0.top, .bool p0.all], .pointer (some ⟨b1, 0, none⟩)] h (fun v _ => v = .bool r) := by
  unfold F_subidx_Index_of_1 at hF
  refine ev_of hw rfl at_36 rfl rfl (go_seg0 ?_)
  refine go_seq ?_
  refine go_region ?_
  refine gs_box rfl (ot rfl) rfl ?_; intro b2_1
  refine gAc rfl rfl ?_
  refine go_nil ?_
  refine go_seq ?_
  refine go_region ?_
  refine gr rfl (r_fa (ot rfl) (fa_58_0 _ _)) ?_
  refine gr rfl (r_fa (ot rfl) (fa_32_0 _ _)) ?_
  refine gr rfl (r_load (ot rfl) (lm_s (mem_seg 0 rfl) ag_3 rfl)) ?_
  refine gr rfl (r_load (ot rfl) (v := .int .i64 p1) (lo_e (fun hf kn => ld_cell ag_3 (g1.ext kn) rfl))) ?_
  refine gr rfl (r_bin (ot rfl) (ot rfl) rfl) ?_
  refine gA rfl rfl ?_
  refine go_nil ?_
  obtain rfl := someI hF
  exact g_ret (rst rfl rs0) (fun h1 hf hs => ⟨hs.hext, rfl⟩)
theorem s_slices_IndexFunc_subidx_Index_of_1 {h : Heap} (hw : Wf h) (p0 : (List Tsubidx_node)) (p1c0 : Int) {a0_0 : Option Addr} {c0_0 : Nat} {b1c0 : Nat} (f0_0 : RL R_Tsubidx_node h a0_0 c0_0 p0) (g1c0 : BK h b1c0 [.int .i64 p1c0] 3) {r : Int} (hF : F_slices_IndexFunc_subidx_Index_of_1 p0 p1c0 = some r) :
    Ev EE 35 [.slice a0_0 p0.length c0_0, .func (.func 36) #[] #[.pointer (some ⟨b1c0, 0, none⟩)]] h (fun v _ => v = .int .i64 r) := by
  unfold F_slices_IndexFunc_subidx_Index_of_1 at hF
  refine ev_of hw rfl at_35 rfl rfl (go_seg0 ?_)
  refine go_seq ?_
  refine go_region ?_
  refine gAc rfl rfl ?_
  refine go_nil ?_
  refine go_seq ?_
  refine go_seq ?_
  refine go_region ?_
  refine gM rfl rfl ?_
  refine gr rfl (r_len rfl (os1 (ot rfl) os0) (fun _ _ => ln_53)) ?_
  refine gMc rfl rfl ?_
  refine go_nil ?_
  replace hF := obind hF
  obtain ⟨s1, hF, hK1⟩ := hF
  refine go_joinc (β := (Unit)) (fun s h' => s1 = .go s) (fun s => [(4, true, .int .i64 0)]) (fun s => (List.flatten [] : List Blk)) ?_ (fun J1 => ?_)
  ·
    rintro _ h1 e1 w1 hs1
    subst hs1
    replace hF := lpgo hK1
    refine go_seq ?_
    refine go_region ?_
    refine gAc rfl rfl ?_
    refine go_nil ?_
    obtain rfl := someI hF
    exact g_ret (rst rfl rs0) (fun h1 hf hs => ⟨(e1.trans hs.hext), rfl⟩)
  ·
    refine go_block ?_
    refine go_loop (α := (List Tsubidx_node) × Nat × Heap) (fun a => a.1 = List.drop a.2.1 p0 ∧ HExt h a.2.2 ∧ Wf a.2.2 ∧ F_slices_IndexFunc_subidx_Index_of_1_L1 p1c0 a.1 a.2.1 = some s1) (fun a => a.1.length) (fun a => [(0, true, .slice a0_0 p0.length c0_0), (1, true, .func (.func 36) #[] #[.pointer (some ⟨b1c0, 0, none⟩)]), (4, true, .int .i64 0), (7, true, .int .i64 (p0.length : Int)), (8, true, .int .i64 (a.2.1 : Int))]) (fun a => (List.flatten [] : List Blk)) (fun a => a.2.2) ?_ (p0, 0, h) ⟨rfl, HExt.refl _, hw, hF⟩ (Sub.cons (Sub.cons (Sub.cons (Sub.cons (Sub.cons (Sub.nil _) rfl) rfl) rfl) rfl) rfl) rfl rfl
    rintro ⟨r2, i2, h2⟩ ⟨hr2, e2, w2, hF⟩ ih2
    rcases r2 with _ | ⟨z2, r2⟩
    ·
      have hi2 := drop_nil hr2
      rw [F_slices_IndexFunc_subidx_Index_of_1_L1.eq_1] at hF
      refine go_seq ?_
      refine go_region ?_
      refine gr rfl (r_bin (ot rfl) (ot rfl) rfl) ?_
      refine go_cast (.bool false) (congrArg Value.bool (decide_eq_false hi2)) ?_
      refine go_nil ?_
      refine go_seq ?_
      refine g_cond (b := false) (ot rfl) (fun hc3 => ?_) (fun hc3 => ?_)
      · cases hc3
      refine go_exit rfl ?_
      obtain rfl := someI hF
      exact Goes.weak (J1 () _ e2 w2 rfl) (Sub.cons (Sub.nil _) rfl)
    ·
      obtain ⟨hi2, hx2, hr2⟩ := drop_cons hr2
      have hb2 := (f0_0.ext e2.kn).1
      rw [F_slices_IndexFunc_subidx_Index_of_1_L1.eq_2] at hF
      refine go_seq ?_
      refine go_region ?_
      refine gr rfl (r_bin (ot rfl) (ot rfl) rfl) ?_
      refine go_cast (.bool true) (congrArg Value.bool (decide_eq_true (Int.ofNat_lt.mpr hi2))) ?_
      refine go_nil ?_
      refine go_seq ?_
      refine g_cond (b := true) (ot rfl) (fun hc4 => ?_) (fun hc4 => ?_)
      rotate_left
      · cases hc4
      refine go_skip ?_
      refine go_seq ?_
      refine go_block ?_
      refine go_seq ?_
      refine go_region ?_
      refine gM rfl rfl ?_
      refine gA rfl rfl ?_
      refine go_nil ?_
      refine go_seq ?_
      refine go_region ?_
      refine gM rfl rfl ?_
      refine gM rfl rfl ?_
      refine gM rfl rfl ?_
      obtain ⟨q5, row5, i5, cl5, rc5, sp5⟩ := ix (ik := .i64) (cap := c0_0) (E := EE) (f0_0.ext e2.kn) ((getI_nat _ _).trans hx2) ut_53 sz_58 rfl
      obtain rfl := rc5
      refine gr rfl (r_ia (ot rfl) (ot rfl) i5) ?_
      refine gr rfl (r_load (ot rfl) (v := .agg #[.int .i64 z2.Sub.Id, .int .i64 z2.Sub.Rev, .string z2.Sub.R.From, .string z2.Sub.R.To, .string z2.top, .bool z2.all]) (lo_e (fun hf kn => ld_of (r := [.int .i64 z2.Sub.Id, .int .i64 z2.Sub.Rev, .string z2.Sub.R.From, .string z2.Sub.R.To, .string z2.top, .bool z2.all]) ag_58 sz_58 (kn.cellsAt cl5)))) ?_
      replace hF := obind hF
      obtain ⟨x6, hx6, hF⟩ := hF
      refine g_callp (v := .bool x6) EE_fr rfl (ot rfl) (os1 (ot rfl) os0) hb_36 (fun _ => rfl) (fun hf kn w => by exact s_subidx_Index_of_1 w z2 p1c0 ((g1c0.ext e2.kn).ext kn) hx6) ?_
      refine go_nil ?_
      refine g_cond (b := x6) (ot rfl) (fun hc7 => ?_) (fun hc7 => ?_)
      ·
        replace hF := ifT hc7 hF
        refine go_seq ?_
        refine go_region ?_
        refine gM rfl rfl ?_
        refine gA rfl rfl ?_
        refine go_nil ?_
        obtain rfl := someI hF
        obtain rfl := someI hK1
        exact g_ret (rst rfl rs0) (fun h1 hf hs => ⟨(e2.trans hs.hext), rfl⟩)
      ·
        replace hF := ifF hc7 hF
        refine go_skip ?_
        refine go_endb ?_
        refine go_region ?_
        refine gr rfl (r_bin (ot rfl) (oc rfl) rfl) ?_
        refine gM rfl rfl ?_
        refine go_nil ?_
        refine go_re 8 (v2 := .int .i64 ((i2 + 1 : Nat) : Int)) rfl (wrap_succ hi2 hb2) ?_
        exact Goes.weak (ih2 (r2, i2 + 1, h2) ⟨hr2, e2, w2, hF⟩ (Nat.lt_succ_self _)) (Sub.cons (Sub.cons (Sub.cons (Sub.cons (Sub.cons (Sub.nil _) rfl) rfl) rfl) rfl) rfl)
theorem s_subidx_Index_of {h : Heap} (hw : Wf h) (p0 : Osubidx_Index) (p1 : Int) {bp0 : Nat} {q0_0 : Option Addr} {t0_0 : List Blk} (f0_0 : AccR R_Tsubidx_node 58 h t0_0 (.slice q0_0 p0.l.length p0.l.length) p0.l) {r : Int × Osubidx_Index} (hF : F_subidx_Index_of p0 p1 = some r) :
    EvO EE 23 [.pointer (some ⟨bp0, 0, none⟩), .int .i64 p1] [[⟨bp0, .cells [.slice q0_0 p0.l.length p0.l.length] 55⟩], t0_0] h (fun v S h1 => ∃ qy0_0 ty0_0, v = .int .i64 r.1 ∧ S = [[⟨bp0, .cells [.slice qy0_0 r.2.l.length r.2.l.length] 55⟩], ty0_0] ∧ AccR R_Tsubidx_node 58 h1 ty0_0 (.slice qy0_0 r.2.l.length r.2.l.length) r.2.l) := by
  unfold F_subidx_Index_of at hF
  refine evo_of rfl at_23 rfl rfl ?_
  refine go_seq ?_
  refine go_region ?_
  refine gs_box rfl (ot rfl) rfl ?_; intro b3_1
  refine gAc rfl rfl ?_
  refine go_nil ?_
  refine go_seq ?_
  refine go_region ?_
  refine gM rfl rfl ?_
  refine gr rfl (r_nilck (ot rfl)) ?_
  refine gr rfl (r_fa (ot rfl) (fa_55_0 _ _)) ?_
  refine gr rfl (r_load (ot rfl) (lm_s (mem_seg 1 rfl) ag_53 rfl)) ?_
  refine gr rfl (r_func os0 (os1 (ot rfl) os0)) ?_
  refine gs_pub .z (fun h3 e3 w3 hb3 => ?_)
  have g3_ : BK h3 b3_1 [.int .i64 p1] 3 := hb3
  replace hF := obind hF
  obtain ⟨x2, hx2, hF⟩ := hF
  refine gs_callb (v := .int .i64 x2) EE_fr rfl (.s (.z)) (f0_0.ext e3.kn) rfl of (os1 (ot rfl) (os1 (ot rfl) os0)) hb_35 (fun hf kn w fb2 => by exact s_slices_IndexFunc_subidx_Index_of_1 w p0.l p1 fb2 (g3_.ext kn) hx2) ?_
  refine gA rfl rfl ?_
  refine go_nil ?_
  obtain rfl := someI hF
  exact g_ret (rst rfl rs0) (fun h1 hf hs => ⟨[[⟨bp0, .cells [.slice q0_0 p0.l.length p0.l.length] 55⟩], t0_0], _, hf, e3, w3, hs, (ndb (by intro e; cases e) (ndt (f0_0.ext e3.kn) nd0)), ⟨_, _, rfl, rfl, (f0_0.ext e3.kn)⟩⟩)
theorem s_cmp_isNaN {h : Heap} (hw : Wf h) (p0 : ByteArray)   {r : Bool} (hF : F_cmp_isNaN p0 = some r) :
    Ev EE 45 [.string p0] h (fun v _ => v = .bool r) := by
  unfold F_cmp_isNaN at hF
  refine ev_of hw rfl at_45 rfl rfl (go_seg0 ?_)
  refine go_seq ?_
  refine go_region ?_
  refine gAc rfl rfl ?_
  refine go_nil ?_
  refine go_seq ?_
  refine go_region ?_
  refine gM rfl rfl ?_
  refine gM rfl rfl ?_
  refine gr rfl (r_bin (ot rfl) (ot rfl) rfl) ?_
  refine gA rfl rfl ?_
  refine go_nil ?_
  obtain rfl := someI hF
  exact g_ret (rst rfl rs0) (fun h1 hf hs => ⟨hs.hext, rfl⟩)
theorem s_cmp_Compare {h : Heap} (hw : Wf h) (p0 : ByteArray) (p1 : ByteArray)   {r : Int} (hF : F_cmp_Compare p0 p1 = some r) :
    Ev EE 38 [.string p0, .string p1] h (fun v _ => v = .int .i64 r) := by
  unfold F_cmp_Compare at hF
  refine ev_of hw rfl at_38 rfl rfl (go_seg0 ?_)
  refine go_seq ?_
  refine go_region ?_
  refine gAc rfl rfl ?_
  refine go_nil ?_
  refine go_seq ?_
  refine go_region ?_
  refine gM rfl rfl ?_
  replace hF := obind hF
  obtain ⟨x1, hx1, hF⟩ := hF
  refine g_callp (v := .bool x1) EE_fr rfl of (os1 (ot rfl) os0) hb_45 (fun _ => rfl) (fun hf kn w => by exact s_cmp_isNaN w p0  hx1) ?_
  refine gA rfl rfl ?_
  refine go_nil ?_
  refine go_seq ?_
  refine go_region ?_
  refine gM rfl rfl ?_
  replace hF := obind hF
  obtain ⟨x2, hx2, hF⟩ := hF
  refine g_callp (v := .bool x2) EE_fr rfl of (os1 (ot rfl) os0) hb_45 (fun _ => rfl) (fun hf kn w => by exact s_cmp_isNaN w p1  hx2) ?_
  refine gA rfl rfl ?_
  refine go_nil ?_
  refine go_seq ?_
  refine go_seq ?_
  refine go_region ?_
  refine gM rfl rfl ?_
  refine go_nil ?_
  refine g_cond (b := x1) (ot rfl) (fun hc3 => ?_) (fun hc3 => ?_)
  ·
    replace hF := ifT hc3 hF
    refine go_seq ?_
    refine go_seq ?_
    refine go_region ?_
    refine gM rfl rfl ?_
    refine go_nil ?_
    refine g_cond (b := x2) (ot rfl) (fun hc4 => ?_) (fun hc4 => ?_)
    ·
      replace hF := ifT hc4 hF
      refine go_seq ?_
      refine go_region ?_
      refine gAc rfl rfl ?_
      refine go_nil ?_
      obtain rfl := someI hF
      exact g_ret (rst rfl rs0) (fun h1 hf hs => ⟨hs.hext, rfl⟩)
    ·
      replace hF := ifF hc4 hF
      refine go_skip ?_
      refine go_seq ?_
      refine go_region ?_
      refine gAc rfl rfl ?_
      refine go_nil ?_
      obtain rfl := someI hF
      exact g_ret (rst rfl rs0) (fun h1 hf hs => ⟨hs.hext, rfl⟩)
  ·
    replace hF := ifF hc3 hF
    refine go_skip ?_
    refine go_seq ?_
    refine go_seq ?_
    refine go_region ?_
    refine gM rfl rfl ?_
    refine go_nil ?_
    refine g_cond (b := x2) (ot rfl) (fun hc5 => ?_) (fun hc5 => ?_)
    ·
      replace hF := ifT hc5 hF
      refine go_seq ?_
      refine go_region ?_
      refine gAc rfl rfl ?_
      refine go_nil ?_
      obtain rfl := someI hF
      exact g_ret (rst rfl rs0) (fun h1 hf hs => ⟨hs.hext, rfl⟩)
    ·
      replace hF := ifF hc5 hF
      refine go_skip ?_
      refine go_seq ?_
      refine go_seq ?_
      refine go_region ?_
      refine gM rfl rfl ?_
      refine gM rfl rfl ?_
      refine gr rfl (r_bin (ot rfl) (ot rfl) rfl) ?_
      refine go_nil ?_
      refine g_cond (b := (lessB p0 p1)) (ot rfl) (fun hc6 => ?_) (fun hc6 => ?_)
      ·
        replace hF := ifT hc6 hF
        refine go_seq ?_
        refine go_region ?_
        refine gAc rfl rfl ?_
        refine go_nil ?_
        obtain rfl := someI hF
        exact g_ret (rst rfl rs0) (fun h1 hf hs => ⟨hs.hext, rfl⟩)
      ·
        replace hF := ifF hc6 hF
        refine go_skip ?_
        refine go_seq ?_
        refine go_seq ?_
        refine go_region ?_
        refine gM rfl rfl ?_
        refine gM rfl rfl ?_
        refine gr rfl (r_bin (ot rfl) (ot rfl) rfl) ?_
        refine go_nil ?_
        refine g_cond (b := (!leB p0 p1)) (ot rfl) (fun hc7 => ?_) (fun hc7 => ?_)
        ·
          replace hF := ifT hc7 hF
          refine go_seq ?_
          refine go_region ?_
          refine gAc rfl rfl ?_
          refine go_nil ?_
          obtain rfl := someI hF
          exact g_ret (rst rfl rs0) (fun h1 hf hs => ⟨hs.hext, rfl⟩)
        ·
          replace hF := ifF hc7 hF
          refine go_skip ?_
          refine go_seq ?_
          refine go_region ?_
          refine gAc rfl rfl ?_
          refine go_nil ?_
          obtain rfl := someI hF
          exact g_ret (rst rfl rs0) (fun h1 hf hs => ⟨hs.hext, rfl⟩)
theorem s_cmp_isNaN_46 {h : Heap} (hw : Wf h) (p0 : Int)   {r : Bool} (hF : F_cmp_isNaN_46 p0 = some r) :
    Ev EE 46 [.int .i64 p0] h (fun v _ => v = .bool r) := by
  unfold F_cmp_isNaN_46 at hF
  refine ev_of hw rfl at_46 rfl rfl (go_seg0 ?_)
  refine go_seq ?_
  refine go_region ?_
  refine gAc rfl rfl ?_
  refine go_nil ?_
  refine go_seq ?_
  refine go_region ?_
  refine gM rfl rfl ?_
  refine gM rfl rfl ?_
  refine gr rfl (r_bin (ot rfl) (ot rfl) rfl) ?_
  refine gA rfl rfl ?_
  refine go_nil ?_
  obtain rfl := someI hF
  exact g_ret (rst rfl rs0) (fun h1 hf hs => ⟨hs.hext, rfl⟩)
theorem s_cmp_Compare_39 {h : Heap} (hw : Wf h) (p0 : Int) (p1 : Int)   {r : Int} (hF : F_cmp_Compare_39 p0 p1 = some r) :
    Ev EE 39 [.int .i64 p0, .int .i64 p1] h (fun v _ => v = .int .i64 r) := by
  unfold F_cmp_Compare_39 at hF
  refine ev_of hw rfl at_39 rfl rfl (go_seg0 ?_)
  refine go_seq ?_
  refine go_region ?_
  refine gAc rfl rfl ?_
  refine go_nil ?_
  refine go_seq ?_
  refine go_region ?_
  refine gM rfl rfl ?_
  replace hF := obind hF
  obtain ⟨x1, hx1, hF⟩ := hF
  refine g_callp (v := .bool x1) EE_fr rfl of (os1 (ot rfl) os0) hb_46 (fun _ => rfl) (fun hf kn w => by exact s_cmp_isNaN_46 w p0  hx1) ?_
  refine gA rfl rfl ?_
  refine go_nil ?_
  refine go_seq ?_
  refine go_region ?_
  refine gM rfl rfl ?_
  replace hF := obind hF
  obtain ⟨x2, hx2, hF⟩ := hF
  refine g_callp (v := .bool x2) EE_fr rfl of (os1 (ot rfl) os0) hb_46 (fun _ => rfl) (fun hf kn w => by exact s_cmp_isNaN_46 w p1  hx2) ?_
  refine gA rfl rfl ?_
  refine go_nil ?_
  refine go_seq ?_
  refine go_seq ?_
  refine go_region ?_
  refine gM rfl rfl ?_
  refine go_nil ?_
  refine g_cond (b := x1) (ot rfl) (fun hc3 => ?_) (fun hc3 => ?_)
  ·
    replace hF := ifT hc3 hF
    refine go_seq ?_
    refine go_seq ?_
    refine go_region ?_
    refine gM rfl rfl ?_
    refine go_nil ?_
    refine g_cond (b := x2) (ot rfl) (fun hc4 => ?_) (fun hc4 => ?_)
    ·
      replace hF := ifT hc4 hF
      refine go_seq ?_
      refine go_region ?_
      refine gAc rfl rfl ?_
      refine go_nil ?_
      obtain rfl := someI hF
      exact g_ret (rst rfl rs0) (fun h1 hf hs => ⟨hs.hext, rfl⟩)
    ·
      replace hF := ifF hc4 hF
      refine go_skip ?_
      refine go_seq ?_
      refine go_region ?_
      refine gAc rfl rfl ?_
      refine go_nil ?_
      obtain rfl := someI hF
      exact g_ret (rst rfl rs0) (fun h1 hf hs => ⟨hs.hext, rfl⟩)
  ·
    replace hF := ifF hc3 hF
    refine go_skip ?_
    refine go_seq ?_
    refine go_seq ?_
    refine go_region ?_
    refine gM rfl rfl ?_
    refine go_nil ?_
    refine g_cond (b := x2) (ot rfl) (fun hc5 => ?_) (fun hc5 => ?_)
    ·
      replace hF := ifT hc5 hF
      refine go_seq ?_
      refine go_region ?_
      refine gAc rfl rfl ?_
      refine go_nil ?_
      obtain rfl := someI hF
      exact g_ret (rst rfl rs0) (fun h1 hf hs => ⟨hs.hext, rfl⟩)
    ·
      replace hF := ifF hc5 hF
      refine go_skip ?_
      refine go_seq ?_
      refine go_seq ?_
      refine go_region ?_
      refine gM rfl rfl ?_
      refine gM rfl rfl ?_
      refine gr rfl (r_bin (ot rfl) (ot rfl) rfl) ?_
      refine go_nil ?_
      refine g_cond (b := (decide (p0 < p1))) (ot rfl) (fun hc6 => ?_) (fun hc6 => ?_)
      ·
        replace hF := ifT hc6 hF
        refine go_seq ?_
        refine go_region ?_
        refine gAc rfl rfl ?_
        refine go_nil ?_
        obtain rfl := someI hF
        exact g_ret (rst rfl rs0) (fun h1 hf hs => ⟨hs.hext, rfl⟩)
      ·
        replace hF := ifF hc6 hF
        refine go_skip ?_
        refine go_seq ?_
        refine go_seq ?_
        refine go_region ?_
        refine gM rfl rfl ?_
        refine gM rfl rfl ?_
        refine gr rfl (r_bin (ot rfl) (ot rfl) rfl) ?_
        refine go_nil ?_
        refine g_cond (b := (decide (p0 > p1))) (ot rfl) (fun hc7 => ?_) (fun hc7 => ?_)
        ·
          replace hF := ifT hc7 hF
          refine go_seq ?_
          refine go_region ?_
          refine gAc rfl rfl ?_
          refine go_nil ?_
          obtain rfl := someI hF
          exact g_ret (rst rfl rs0) (fun h1 hf hs => ⟨hs.hext, rfl⟩)
        ·
          replace hF := ifF hc7 hF
          refine go_skip ?_
          refine go_seq ?_
          refine go_region ?_
          refine gAc rfl rfl ?_
          refine go_nil ?_
          obtain rfl := someI hF
          exact g_ret (rst rfl rs0) (fun h1 hf hs => ⟨hs.hext, rfl⟩)
theorem s_cmp_Or {h : Heap} (hw : Wf h) (p0 : (List Int)) {a0_0 : Option Addr} {c0_0 : Nat} (f0_0 : RL (RI_ .i64 3) h a0_0 c0_0 p0) {r : Int} (hF : F_cmp_Or p0 = some r) :
    Ev EE 37 [.slice a0_0 p0.length c0_0] h (fun v _ => v = .int .i64 r) := by
  unfold F_cmp_Or at hF
  refine ev_of hw rfl at_37 rfl rfl (go_seg0 ?_)
  refine go_seq ?_
  refine go_region ?_
  refine gAc rfl rfl ?_
  refine go_nil ?_
  refine go_seq ?_
  refine go_region ?_
  refine gAc rfl rfl ?_
  refine go_nil ?_
  refine go_seq ?_
  refine go_seq ?_
  refine go_region ?_
  refine gM rfl rfl ?_
  refine gr rfl (r_len rfl (os1 (ot rfl) os0) (fun _ _ => ln_38)) ?_
  refine gMc rfl rfl ?_
  refine go_nil ?_
  replace hF := obind hF
  obtain ⟨s1, hF, hK1⟩ := hF
  refine go_joinc (β := (Unit)) (fun s h' => s1 = .go s) (fun s => [(2, true, .int .i64 0), (3, true, .int .i64 0)]) (fun s => (List.flatten [] : List Blk)) ?_ (fun J1 => ?_)
  ·
    rintro _ h1 e1 w1 hs1
    subst hs1
    replace hF := lpgo hK1
    refine go_seq ?_
    refine go_region ?_
    refine gM rfl rfl ?_
    refine gA rfl rfl ?_
    refine go_nil ?_
    obtain rfl := someI hF
    exact g_ret (rst rfl rs0) (fun h1 hf hs => ⟨(e1.trans hs.hext), rfl⟩)
  ·
    refine go_block ?_
    refine go_loop (α := (List Int) × Nat × Heap) (fun a => a.1 = List.drop a.2.1 p0 ∧ HExt h a.2.2 ∧ Wf a.2.2 ∧ F_cmp_Or_L1 a.1 a.2.1 = some s1) (fun a => a.1.length) (fun a => [(2, true, .int .i64 0), (3, true, .int .i64 0), (6, true, .slice a0_0 p0.length c0_0), (7, true, .int .i64 (p0.length : Int)), (8, true, .int .i64 (a.2.1 : Int))]) (fun a => (List.flatten [] : List Blk)) (fun a => a.2.2) ?_ (p0, 0, h) ⟨rfl, HExt.refl _, hw, hF⟩ (Sub.cons (Sub.cons (Sub.cons (Sub.cons (Sub.cons (Sub.nil _) rfl) rfl) rfl) rfl) rfl) rfl rfl
    rintro ⟨r2, i2, h2⟩ ⟨hr2, e2, w2, hF⟩ ih2
    rcases r2 with _ | ⟨z2, r2⟩
    ·
      have hi2 := drop_nil hr2
      rw [F_cmp_Or_L1.eq_1] at hF
      refine go_seq ?_
      refine go_region ?_
      refine gr rfl (r_bin (ot rfl) (ot rfl) rfl) ?_
      refine go_cast (.bool false) (congrArg Value.bool (decide_eq_false hi2)) ?_
      refine go_nil ?_
      refine go_seq ?_
      refine g_cond (b := false) (ot rfl) (fun hc3 => ?_) (fun hc3 => ?_)
      · cases hc3
      refine go_exit rfl ?_
      obtain rfl := someI hF
      exact Goes.weak (J1 () _ e2 w2 rfl) (Sub.cons (Sub.cons (Sub.nil _) rfl) rfl)
    ·
      obtain ⟨hi2, hx2, hr2⟩ := drop_cons hr2
      have hb2 := (f0_0.ext e2.kn).1
      rw [F_cmp_Or_L1.eq_2] at hF
      refine go_seq ?_
      refine go_region ?_
      refine gr rfl (r_bin (ot rfl) (ot rfl) rfl) ?_
      refine go_cast (.bool true) (congrArg Value.bool (decide_eq_true (Int.ofNat_lt.mpr hi2))) ?_
      refine go_nil ?_
      refine go_seq ?_
      refine g_cond (b := true) (ot rfl) (fun hc4 => ?_) (fun hc4 => ?_)
      rotate_left
      · cases hc4
      refine go_skip ?_
      refine go_seq ?_
      refine go_block ?_
      refine go_seq ?_
      refine go_region ?_
      obtain ⟨q5, row5, i5, cl5, rc5, sp5⟩ := ix (ik := .i64) (cap := c0_0) (E := EE) (f0_0.ext e2.kn) ((getI_nat _ _).trans hx2) ut_38 sz_3 rfl
      obtain rfl := rc5
      refine gr rfl (r_ia (ot rfl) (ot rfl) i5) ?_
      refine gr rfl (r_load (ot rfl) (v := .int .i64 z2) (lo_e (fun hf kn => ld_one ag_3 (kn.cellsAt cl5)))) ?_
      refine gA rfl rfl ?_
      refine go_nil ?_
      refine go_seq ?_
      refine go_region ?_
      refine gM rfl rfl ?_
      refine gM rfl rfl ?_
      refine gr rfl (r_bin (ot rfl) (ot rfl) rfl) ?_
      refine go_nil ?_
      refine g_cond (b := (z2 != 0)) (ot rfl) (fun hc6 => ?_) (fun hc6 => ?_)
      ·
        replace hF := ifT hc6 hF
        refine go_seq ?_
        refine go_region ?_
        refine gM rfl rfl ?_
        refine gA rfl rfl ?_
        refine go_nil ?_
        obtain rfl := someI hF
        obtain rfl := someI hK1
        exact g_ret (rst rfl rs0) (fun h1 hf hs => ⟨(e2.trans hs.hext), rfl⟩)
      ·
        replace hF := ifF hc6 hF
        refine go_skip ?_
        refine go_endb ?_
        refine go_region ?_
        refine gr rfl (r_bin (ot rfl) (oc rfl) rfl) ?_
        refine gM rfl rfl ?_
        refine go_nil ?_
        refine go_re 8 (v2 := .int .i64 ((i2 + 1 : Nat) : Int)) rfl (wrap_succ hi2 hb2) ?_
        exact Goes.weak (ih2 (r2, i2 + 1, h2) ⟨hr2, e2, w2, hF⟩ (Nat.lt_succ_self _)) (Sub.cons (Sub.cons (Sub.cons (Sub.cons (Sub.cons (Sub.nil _) rfl) rfl) rfl) rfl) rfl)
theorem s_subidx_compare {h : Heap} (hw : Wf h) (p0 : Tsubidx_node) (p1 : Tsubidx_node)   {r : Int} (hF : F_subidx_compare p0 p1 = some r) :
    Ev EE 25 [.agg #[.int .i64 p0.Sub.Id, .int .i64 p0.Sub.Rev, .string p0.Sub.R.From, .string p0.Sub.R.To, .string p0.top, .bool p0.all], .agg #[.int .i64 p1.Sub.Id, .int .i64 p1.Sub.Rev, .string p1.Sub.R.From, .string p1.Sub.R.To, .string p1.top, .bool p1.all]] h (fun v _ => v = .int .i64 r) := by
  unfold F_subidx_compare at hF
  refine ev_of hw rfl at_25 rfl rfl (go_seg0 ?_)
  refine go_seq ?_
  refine go_region ?_
  refine gs_box rfl (ot rfl) rfl ?_; intro b2_1
  refine gs_box rfl (ot rfl) rfl ?_; intro b3_2
  refine gAc rfl rfl ?_
  refine go_nil ?_
  refine go_seq ?_
  refine go_regions (L := [(0, []), (1, []), (2, []), (3, []), (4, []), (5, []), (6, []), (7, []), (9, []), (10, []), (11, []), (12, []), (13, []), (14, []), (8, [11, 14]), (15, []), (16, []), (17, []), (18, [])]) (by kernel_rfl) (by kernel_rfl) (fun _ => rfl) ?_
  refine go_sop rfl rfl ?_
  refine gr rfl (r_fa (ot rfl) (fa_58_0 _ _)) ?_
  refine go_nil ?_
  refine go_sop rfl rfl ?_
  refine gr rfl (r_fa (ot rfl) (fa_32_2 _ _)) ?_
  refine go_nil ?_
  refine go_sop rfl rfl ?_
  refine gr rfl (r_fa (ot rfl) (fa_25_0 _ _)) ?_
  refine go_nil ?_
  refine go_sop rfl rfl ?_
  refine gr rfl (r_load (ot rfl) (lm_s (mem_seg 1 rfl) ag_9 rfl)) ?_
  refine go_nil ?_
  refine go_sop rfl rfl ?_
  refine gr rfl (r_fa (ot rfl) (fa_58_0 _ _)) ?_
  refine go_nil ?_
  refine go_sop rfl rfl ?_
  refine gr rfl (r_fa (ot rfl) (fa_32_2 _ _)) ?_
  refine go_nil ?_
  refine go_sop rfl rfl ?_
  refine gr rfl (r_fa (ot rfl) (fa_25_0 _ _)) ?_
  refine go_nil ?_
  refine go_sop rfl rfl ?_
  refine gr rfl (r_load (ot rfl) (lm_s (mem_seg 0 rfl) ag_9 rfl)) ?_
  refine go_nil ?_
  refine go_sop rfl rfl ?_
  refine gr rfl (r_fa (ot rfl) (fa_58_0 _ _)) ?_
  refine go_nil ?_
  refine go_sop rfl rfl ?_
  refine gr rfl (r_fa (ot rfl) (fa_32_0 _ _)) ?_
  refine go_nil ?_
  refine go_sop rfl rfl ?_
  refine gr rfl (r_load (ot rfl) (lm_s (mem_seg 1 rfl) ag_3 rfl)) ?_
  refine go_nil ?_
  refine go_sop rfl rfl ?_
  refine gr rfl (r_fa (ot rfl) (fa_58_0 _ _)) ?_
  refine go_nil ?_
  refine go_sop rfl rfl ?_
  refine gr rfl (r_fa (ot rfl) (fa_32_0 _ _)) ?_
  refine go_nil ?_
  refine go_sop rfl rfl ?_
  refine gr rfl (r_load (ot rfl) (lm_s (mem_seg 0 rfl) ag_3 rfl)) ?_
  refine go_nil ?_
  refine go_sopc [(11, .int .i64 p0.Sub.Id), (14, .int .i64 p1.Sub.Id)] rfl rfl rfl (rc1 rfl (r_load (ot rfl) (lm_s (mem_seg 1 rfl) ag_3 rfl)) (rc1 rfl (r_load (ot rfl) (lm_s (mem_seg 0 rfl) ag_3 rfl)) rc0)) (vq1 (veq_int _ _ _) (vq1 (veq_int _ _ _) vq0)) rfl ?_
  replace hF := obind hF
  obtain ⟨x3, hx3, hF⟩ := hF
  refine g_callp (v := .int .i64 x3) EE_fr rfl of (os1 (ot rfl) (os1 (ot rfl) os0)) hb_38 (fun _ => rfl) (fun hf kn w => by exact s_cmp_Compare w p0.Sub.R.From p1.Sub.R.From  hx3) ?_
  refine go_nil ?_
  refine go_rck (rc1 rfl (r_load (ot rfl) (lm_s (mem_seg 1 rfl) ag_3 rfl)) (rc1 rfl (r_load (ot rfl) (lm_s (mem_seg 0 rfl) ag_3 rfl)) rc0)) ?_
  refine go_sop rfl rfl ?_
  replace hF := obind hF
  obtain ⟨x4, hx4, hF⟩ := hF
  refine g_callp (v := .int .i64 x4) EE_fr rfl of (os1 (ot rfl) (os1 (ot rfl) os0)) hb_39 (fun _ => rfl) (fun hf kn w => by exact s_cmp_Compare_39 w p0.Sub.Id p1.Sub.Id  hx4) ?_
  refine go_nil ?_
  refine go_sop rfl rfl ?_
  refine gs_bslice (cs := [.int .i64 x3, .int .i64 x4]) rfl (op1 (ot rfl) (op1 (ot rfl) op0)) ut_38 sz_3 zo_3 rfl rfl ?_; intro b21_5
  refine go_nil ?_
  refine go_sop rfl rfl ?_
  refine gs_pub .z (fun h7 e7 w7 hb7 => ?_)
  have f7_ : RL (RI_ .i64 3) h7 (some ⟨b21_5, 0, none⟩) 2 ([x3, x4] : List Int) := RL.of_blk (R := (RI_ .i64 3)) (rows := [[.int .i64 x3], [.int .i64 x4]]) (.inl rfl) hb7 rfl (Rws.cons (x := x3) rfl (Rws.cons (x := x4) rfl Rws.nil)) (by simp) (by simp) rfl
  replace hF := obind hF
  obtain ⟨x6, hx6, hF⟩ := hF
  refine g_callp (v := .int .i64 x6) EE_fr rfl of (os1 (ot rfl) os0) hb_37 (fun _ => rfl) (fun hf kn w => by exact s_cmp_Or w ([x3, x4] : List Int) (f7_.ext kn) hx6) ?_
  refine go_nil ?_
  refine go_sop rfl rfl ?_
  refine gA rfl rfl ?_
  refine go_nil ?_
  refine go_snil ?_
  obtain rfl := someI hF
  exact g_ret (rst rfl rs0) (fun h1 hf hs => ⟨(e7.trans hs.hext), rfl⟩)
theorem s_slices_BinarySearchFunc_subidx_compare (n : Nat) {h : Heap} (hw : Wf h) (p0 : (List Tsubidx_node)) (p1 : Tsubidx_node) {a0_0 : Option Addr} {c0_0 : Nat} (f0_0 : RL R_Tsubidx_node h a0_0 c0_0 p0) {r : Int × Bool} (hF : F_slices_BinarySearchFunc_subidx_compare n p0 p1 = some r) :
    Ev EE 24 [.slice a0_0 p0.length c0_0, .agg #[.int .i64 p1.Sub.Id, .int .i64 p1.Sub.Rev, .string p1.Sub.R.From, .string p1.Sub.R.To, .string p1.top, .bool p1.all], .func (.func 25) #[] #[]] h (fun v _ => v = .tuple #[.int .i64 r.1, .bool r.2]) := by
  unfold F_slices_BinarySearchFunc_subidx_compare at hF
  refine ev_of hw rfl at_24 rfl rfl (go_seg0 ?_)
  refine go_seq ?_
  refine go_region ?_
  refine gs_box rfl (ot rfl) rfl ?_; intro b4_1
  refine gAc rfl rfl ?_
  refine gAc rfl rfl ?_
  refine go_nil ?_
  refine go_seq ?_
  refine go_region ?_
  refine gM rfl rfl ?_
  refine gr rfl (r_len rfl (os1 (ot rfl) os0) (fun _ _ => ln_53)) ?_
  refine gA rfl rfl ?_
  refine go_nil ?_
  refine go_seq ?_
  refine go_region ?_
  refine gM rfl rfl ?_
  refine gAc rfl rfl ?_
  refine gA rfl rfl ?_
  refine go_nil ?_
  refine go_seq ?_
  replace hF := obind hF
  obtain ⟨s2, hF, hK2⟩ := hF
  refine go_joinc (β := Unit) (fun s h' => True) (fun s => [(0, true, .slice a0_0 p0.length c0_0), (2, true, .func (.func 25) #[] #[]), (4, true, .pointer (some ⟨b4_1, 0, none⟩)), (6, true, .int .i64 0), (7, true, .bool false), (8, true, .int .i64 (p0.length : Int)), (9, true, .int .i64 s2)]) (fun s => (List.flatten [[⟨b4_1, .cells [.int .i64 p1.Sub.Id, .int .i64 p1.Sub.Rev, .string p1.Sub.R.From, .string p1.Sub.R.To, .string p1.top, .bool p1.all] 58⟩]] : List Blk)) ?_ (fun J2 => ?_)
  ·
    rintro _ h2 e2 w2 _
    replace hF := hK2
    refine go_seq ?_
    refine go_regions (L := [(0, []), (1, []), (2, []), (3, []), (4, []), (5, []), (6, []), (7, []), (8, []), (9, []), (10, []), (11, []), (12, []), (13, []), (14, []), (15, [])]) (by kernel_rfl) (by kernel_rfl) (fun _ => rfl) ?_
    refine go_sop rfl rfl ?_
    refine gM rfl rfl ?_
    refine go_nil ?_
    refine go_sop rfl rfl ?_
    refine gM rfl rfl ?_
    refine go_nil ?_
    refine go_sop rfl rfl ?_
    refine gM rfl rfl ?_
    refine go_nil ?_
    refine go_sop rfl rfl ?_
    refine gr rfl (r_bin (ot rfl) (ot rfl) rfl) ?_
    refine go_nil ?_
    refine go_sop rfl rfl ?_
    refine gM rfl rfl ?_
    refine go_nil ?_
    rcases Bool.eq_false_or_eq_true (decide (s2 < (p0.length : Int))) with hb3 | hb3
    ·
      replace hF := ifT hb3 hF
      refine go_re 39 (v2 := .bool true) rfl (congrArg Value.bool hb3) ?_
      refine go_sop rfl rfl ?_
      refine g_do rfl rfl rfl ?_
      refine gM rfl rfl ?_
      refine go_nil ?_
      refine go_sop rfl rfl ?_
      refine g_do rfl rfl rfl ?_
      refine gM rfl rfl ?_
      refine go_nil ?_
      refine go_sop rfl rfl ?_
      refine g_do rfl rfl rfl ?_
      refine gM rfl rfl ?_
      refine go_nil ?_
      refine go_sop rfl rfl ?_
      refine g_do rfl rfl rfl ?_
      replace hF := obind hF
      obtain ⟨x4, hx4, hF⟩ := hF
      obtain ⟨q4, row4, i4, cl4, rc4, sp4⟩ := ix (ik := .i64) (cap := c0_0) (E := EE) (f0_0.ext e2.kn) hx4 ut_53 sz_58 rfl
      obtain rfl := rc4
      refine gr rfl (r_ia (ot rfl) (ot rfl) i4) ?_
      refine go_nil ?_
      refine go_sop rfl rfl ?_
      refine g_do rfl rfl rfl ?_
      refine gr rfl (r_load (ot rfl) (v := .agg #[.int .i64 x4.Sub.Id, .int .i64 x4.Sub.Rev, .string x4.Sub.R.From, .string x4.Sub.R.To, .string x4.top, .bool x4.all]) (lo_e (fun hf kn => ld_of (r := [.int .i64 x4.Sub.Id, .int .i64 x4.Sub.Rev, .string x4.Sub.R.From, .string x4.Sub.R.To, .string x4.top, .bool x4.all]) ag_58 sz_58 (kn.cellsAt cl4)))) ?_
      refine go_nil ?_
      refine go_sop rfl rfl ?_
      refine g_do rfl rfl rfl ?_
      refine gr rfl (r_load (ot rfl) (lm_w (mem_seg 0 rfl) ag_58 sz_58 rfl)) ?_
      refine go_nil ?_
      refine go_sop rfl rfl ?_
      refine g_do rfl rfl rfl ?_
      replace hF := obind hF
      obtain ⟨x5, hx5, hF⟩ := hF
      refine g_callp (v := .int .i64 x5) EE_fr rfl (ot rfl) (os1 (ot rfl) (os1 (ot rfl) os0)) hb_25 (fun _ => rfl) (fun hf kn w => by exact s_subidx_compare w x4 p1  hx5) ?_
      refine go_nil ?_
      refine go_sop rfl rfl ?_
      refine g_do rfl rfl rfl ?_
      refine gr rfl (r_bin (ot rfl) (oc rfl) rfl) ?_
      refine go_nil ?_
      refine go_sop rfl rfl ?_
      refine gr rfl (r_pkT (ot rfl) (ot rfl)) ?_
      refine go_nil ?_
      refine go_sop rfl rfl ?_
      refine gA rfl rfl ?_
      refine go_nil ?_
      refine go_sop rfl rfl ?_
      refine gA rfl rfl ?_
      refine go_nil ?_
      refine go_snil ?_
      obtain rfl := someI hF
      exact g_ret (rst rfl (rst rfl rs0)) (fun h1 hf hs => ⟨(e2.trans hs.hext), rfl⟩)
    ·
      replace hF := ifF hb3 hF
      refine go_re 39 (v2 := .bool false) rfl (congrArg Value.bool hb3) ?_
      refine go_sskip rfl (w_no rfl rfl rfl rfl rfl) ?_
      refine g_no rfl rfl rfl rfl rfl ?_
      refine go_nil ?_
      refine go_sskip rfl (w_no rfl rfl rfl rfl rfl) ?_
      refine g_no rfl rfl rfl rfl rfl ?_
      refine go_nil ?_
      refine go_sskip rfl (w_no rfl rfl rfl rfl rfl) ?_
      refine g_no rfl rfl rfl rfl rfl ?_
      refine go_nil ?_
      refine go_sskip rfl (w_no rfl rfl rfl rfl rfl) ?_
      refine g_no rfl rfl rfl rfl rfl ?_
      refine go_nil ?_
      refine go_sskip rfl (w_no rfl rfl rfl rfl rfl) ?_
      refine g_no rfl rfl rfl rfl rfl ?_
      refine go_nil ?_
      refine go_sskip rfl (w_no rfl rfl rfl rfl rfl) ?_
      refine g_no rfl rfl rfl rfl rfl ?_
      refine go_nil ?_
      refine go_sskip rfl (w_no rfl rfl rfl rfl rfl) ?_
      refine g_no rfl rfl rfl rfl rfl ?_
      refine go_nil ?_
      refine go_sskip rfl (w_no rfl rfl rfl rfl rfl) ?_
      refine g_no rfl rfl rfl rfl rfl ?_
      refine go_nil ?_
      refine go_sop rfl rfl ?_
      refine gr rfl (r_pkF (ot rfl) (oc rfl)) ?_
      refine go_nil ?_
      refine go_sop rfl rfl ?_
      refine gA rfl rfl ?_
      refine go_nil ?_
      refine go_sop rfl rfl ?_
      refine gA rfl rfl ?_
      refine go_nil ?_
      refine go_snil ?_
      obtain rfl := someI hF
      exact g_ret (rst rfl (rst rfl rs0)) (fun h1 hf hs => ⟨(e2.trans hs.hext), rfl⟩)
  ·
    refine go_block ?_
    refine go_loop (α := Nat × Int × Int × Heap) (fun a => HExt h a.2.2.2 ∧ Wf a.2.2.2 ∧ F_slices_BinarySearchFunc_subidx_compare_L1 p0 p1 a.1 a.2.1 a.2.2.1 = some s2) (fun a => a.1) (fun a => [(0, true, .slice a0_0 p0.length c0_0), (2, true, .func (.func 25) #[] #[]), (4, true, .pointer (some ⟨b4_1, 0, none⟩)), (6, true, .int .i64 0), (7, true, .bool false), (8, true, .int .i64 (p0.length : Int)), (9, true, .int .i64 a.2.1), (10, true, .int .i64 a.2.2.1)]) (fun a => (List.flatten [[⟨b4_1, .cells [.int .i64 p1.Sub.Id, .int .i64 p1.Sub.Rev, .string p1.Sub.R.From, .string p1.Sub.R.To, .string p1.top, .bool p1.all] 58⟩]] : List Blk)) (fun a => a.2.2.2) ?_ (n, 0, (p0.length : Int), h) ⟨HExt.refl _, hw, hF⟩ (Sub.cons (Sub.cons (Sub.cons (Sub.cons (Sub.cons (Sub.cons (Sub.cons (Sub.cons (Sub.nil _) rfl) rfl) rfl) rfl) rfl) rfl) rfl) rfl) rfl rfl
    rintro ⟨m6, y6_0, y6_1, h6⟩ ⟨e6, w6, hF⟩ ih6
    rcases m6 with _ | m6
    ·
      rw [F_slices_BinarySearchFunc_subidx_compare_L1.eq_1] at hF; cases hF
    ·
      rw [F_slices_BinarySearchFunc_subidx_compare_L1.eq_2] at hF
      refine go_seq ?_
      refine go_seq ?_
      refine go_region ?_
      refine gM rfl rfl ?_
      refine gM rfl rfl ?_
      refine gr rfl (r_bin (ot rfl) (ot rfl) rfl) ?_
      refine go_nil ?_
      refine g_cond (b := (decide (y6_0 < y6_1))) (ot rfl) (fun hc7 => ?_) (fun hc7 => ?_)
      ·
        replace hF := ifT hc7 hF
        refine go_skip ?_
        refine go_block ?_
        refine go_seq ?_
        refine go_region ?_
        refine gM rfl rfl ?_
        refine gM rfl rfl ?_
        refine gr rfl (r_bin (ot rfl) (ot rfl) rfl) ?_
        refine gr rfl (r_conv (ot rfl) rfl) ?_
        refine gr rfl (r_bin (ot rfl) (oc rfl) rfl) ?_
        refine gr rfl (r_conv (ot rfl) rfl) ?_
        refine gA rfl rfl ?_
        refine go_nil ?_
        refine go_seq ?_
        refine go_regions (L := [(0, []), (1, []), (2, []), (3, []), (4, []), (5, []), (6, []), (7, [])]) (by kernel_rfl) (by kernel_rfl) (fun _ => rfl) ?_
        refine go_sop rfl rfl ?_
        refine gM rfl rfl ?_
        refine go_nil ?_
        refine go_sop rfl rfl ?_
        refine gM rfl rfl ?_
        refine go_nil ?_
        refine go_sop rfl rfl ?_
        refine gM rfl rfl ?_
        refine go_nil ?_
        refine go_sop rfl rfl ?_
        replace hF := obind hF
        obtain ⟨x8, hx8, hF⟩ := hF
        obtain ⟨q8, row8, i8, cl8, rc8, sp8⟩ := ix (ik := .i64) (cap := c0_0) (E := EE) (f0_0.ext e6.kn) hx8 ut_53 sz_58 rfl
        obtain rfl := rc8
        refine gr rfl (r_ia (ot rfl) (ot rfl) i8) ?_
        refine go_nil ?_
        refine go_sop rfl rfl ?_
        refine gr rfl (r_load (ot rfl) (v := .agg #[.int .i64 x8.Sub.Id, .int .i64 x8.Sub.Rev, .string x8.Sub.R.From, .string x8.Sub.R.To, .string x8.top, .bool x8.all]) (lo_e (fun hf kn => ld_of (r := [.int .i64 x8.Sub.Id, .int .i64 x8.Sub.Rev, .string x8.Sub.R.From, .string x8.Sub.R.To, .string x8.top, .bool x8.all]) ag_58 sz_58 (kn.cellsAt cl8)))) ?_
        refine go_nil ?_
        refine go_sop rfl rfl ?_
        refine gr rfl (r_load (ot rfl) (lm_w (mem_seg 0 rfl) ag_58 sz_58 rfl)) ?_
        refine go_nil ?_
        refine go_sop rfl rfl ?_
        replace hF := obind hF
        obtain ⟨x9, hx9, hF⟩ := hF
        refine g_callp (v := .int .i64 x9) EE_fr rfl (ot rfl) (os1 (ot rfl) (os1 (ot rfl) os0)) hb_25 (fun _ => rfl) (fun hf kn w => by exact s_subidx_compare w x8 p1  hx9) ?_
        refine go_nil ?_
        refine go_sop rfl rfl ?_
        refine gr rfl (r_bin (ot rfl) (oc rfl) rfl) ?_
        refine go_nil ?_
        refine go_snil ?_
        refine g_cond (b := (decide (x9 < 0))) (ot rfl) (fun hc10 => ?_) (fun hc10 => ?_)
        ·
          replace hF := ifT hc10 hF
          refine go_region ?_
          refine gM rfl rfl ?_
          refine gr rfl (r_bin (ot rfl) (oc rfl) rfl) ?_
          refine gA rfl rfl ?_
          refine go_nil ?_
          refine go_endb ?_
          exact Goes.weak (ih6 (m6, (IntKind.i64.wrap ((IntKind.i64.wrap (shrI .u64 (IntKind.u64.wrap (IntKind.i64.wrap (y6_0 + y6_1))) 1)) + 1)), y6_1, h6) ⟨e6, w6, hF⟩ (Nat.lt_succ_self _)) (Sub.cons (Sub.cons (Sub.cons (Sub.cons (Sub.cons (Sub.cons (Sub.cons (Sub.cons (Sub.nil _) rfl) rfl) rfl) rfl) rfl) rfl) rfl) rfl)
        ·
          replace hF := ifF hc10 hF
          refine go_region ?_
          refine gM rfl rfl ?_
          refine gA rfl rfl ?_
          refine go_nil ?_
          refine go_endb ?_
          exact Goes.weak (ih6 (m6, y6_0, (IntKind.i64.wrap (shrI .u64 (IntKind.u64.wrap (IntKind.i64.wrap (y6_0 + y6_1))) 1)), h6) ⟨e6, w6, hF⟩ (Nat.lt_succ_self _)) (Sub.cons (Sub.cons (Sub.cons (Sub.cons (Sub.cons (Sub.cons (Sub.cons (Sub.cons (Sub.nil _) rfl) rfl) rfl) rfl) rfl) rfl) rfl) rfl)
      ·
        replace hF := ifF hc7 hF
        refine go_exit rfl ?_
        obtain rfl := someI hF
        exact Goes.weak (J2 () _ e6 w6 trivial) (Sub.cons (Sub.cons (Sub.cons (Sub.cons (Sub.cons (Sub.cons (Sub.cons (Sub.nil _) rfl) rfl) rfl) rfl) rfl) rfl) rfl)
theorem s_subidx_Index_tops (n : Nat) {h : Heap} (hw : Wf h) (p0 : Osubidx_Index) (p1 : Int) {bp0 : Nat} {q0_0 : Option Addr} {t0_0 : List Blk} (f0_0 : AccR R_Tsubidx_node 58 h t0_0 (.slice q0_0 p0.l.length p0.l.length) p0.l) {r : Osubidx_Index} (hF : F_subidx_Index_tops n p0 p1 = some r) :
    EvO EE 27 [.pointer (some ⟨bp0, 0, none⟩), .int .i64 p1] [[⟨bp0, .cells [.slice q0_0 p0.l.length p0.l.length] 55⟩], t0_0] h (fun v S h1 => ∃ qy0_0 ty0_0, v = .tuple #[] ∧ S = [[⟨bp0, .cells [.slice qy0_0 r.l.length r.l.length] 55⟩], ty0_0] ∧ AccR R_Tsubidx_node 58 h1 ty0_0 (.slice qy0_0 r.l.length r.l.length) r.l) := by
  unfold F_subidx_Index_tops at hF
  refine evo_of rfl at_27 rfl rfl ?_
  refine go_seq ?_
  refine go_region ?_
  refine gM rfl rfl ?_
  refine gA rfl rfl ?_
  refine go_nil ?_
  replace hF := obind hF
  obtain ⟨s1, hF, hK1⟩ := hF
  refine go_joinc (β := Option Addr × List Blk) (fun s h' => AccR R_Tsubidx_node 58 h' s.2 (.slice s.1 s1.length s1.length) s1) (fun s => []) (fun s => (List.flatten [[⟨bp0, .cells [.slice s.1 s1.length s1.length] 55⟩], s.2] : List Blk)) ?_ (fun J1 => ?_)
  ·
    rintro ⟨a1_0, a1_1⟩ h1 e1 w1 f1_0
    replace hF := hK1
    obtain rfl := someI hF
    exact g_end rs0 (fun h1 hf hs => ⟨[[⟨bp0, .cells [.slice a1_0 s1.length s1.length] 55⟩], a1_1], _, hf, e1, w1, hs, (ndb (by intro e; cases e) (ndt f1_0 nd0)), ⟨_, _, rfl, rfl, f1_0⟩⟩)
  ·
    refine go_block ?_
    refine go_loop (α := Nat × Int × (List Tsubidx_node) × Option Addr × List Blk × Heap) (fun a => HExt h a.2.2.2.2.2 ∧ Wf a.2.2.2.2.2 ∧ F_subidx_Index_tops_L1 a.1 a.2.1 a.2.2.1 = some s1 ∧ AccR R_Tsubidx_node 58 a.2.2.2.2.2 a.2.2.2.2.1 (.slice a.2.2.2.1 a.2.2.1.length a.2.2.1.length) a.2.2.1) (fun a => a.1) (fun a => [(0, true, .pointer (some ⟨bp0, 0, none⟩)), (4, true, .int .i64 a.2.1)]) (fun a => (List.flatten [[⟨bp0, .cells [.slice a.2.2.2.1 a.2.2.1.length a.2.2.1.length] 55⟩], a.2.2.2.2.1] : List Blk)) (fun a => a.2.2.2.2.2) ?_ (n, p1, p0.l, q0_0, t0_0, h) ⟨HExt.refl _, hw, hF, f0_0⟩ (Sub.cons (Sub.cons (Sub.nil _) rfl) rfl) rfl rfl
    rintro ⟨m2, y2_0, y2_1, a2_0, a2_1, h2⟩ ⟨e2, w2, hF, f2_1⟩ ih2
    rcases m2 with _ | m2
    ·
      rw [F_subidx_Index_tops_L1.eq_1] at hF; cases hF
    ·
      rw [F_subidx_Index_tops_L1.eq_2] at hF
      refine go_seq ?_
      refine go_seq ?_
      refine go_region ?_
      refine gM rfl rfl ?_
      refine gM rfl rfl ?_
      refine gr rfl (r_nilck (ot rfl)) ?_
      refine gr rfl (r_fa (ot rfl) (fa_55_0 _ _)) ?_
      refine gr rfl (r_load (ot rfl) (lm_s (mem_seg 0 rfl) ag_53 rfl)) ?_
      refine gr rfl (r_len rfl (os1 (ot rfl) os0) (fun _ _ => ln_53)) ?_
      refine gr rfl (r_bin (ot rfl) (ot rfl) rfl) ?_
      refine go_nil ?_
      refine g_cond (b := (decide (y2_0 < (y2_1.length : Int)))) (ot rfl) (fun hc3 => ?_) (fun hc3 => ?_)
      ·
        replace hF := ifT hc3 hF
        refine go_skip ?_
        refine go_seq ?_
        refine go_block ?_
        refine go_seq ?_
        refine go_region ?_
        refine gM rfl rfl ?_
        refine gr rfl (r_nilck (ot rfl)) ?_
        refine gr rfl (r_fa (ot rfl) (fa_55_0 _ _)) ?_
        refine gr rfl (r_load (ot rfl) (lm_s (mem_seg 0 rfl) ag_53 rfl)) ?_
        refine gM rfl rfl ?_
        replace hF := obind hF
        obtain ⟨x4, hx4, hF⟩ := hF
        obtain ⟨bb4, rw4, row4, hp4, ht4, hR4, hw4, rc4, hz4, hi4, hd4, hb4, hl4⟩ := AccR.at_ f2_1 hx4
        have hF4_ := hF
        subst hp4; subst ht4
        replace hF := hF4_
        obtain rfl := rc4
        refine gr rfl (r_ia (ot rfl) (ot rfl) (ia_acc (k := 6) ut_53 sz_58 hz4 hi4)) ?_
        refine gA rfl rfl ?_
        refine go_nil ?_
        refine go_seq ?_
        refine go_regions (L := [(0, []), (1, []), (2, []), (3, []), (4, []), (5, []), (6, []), (7, []), (8, []), (9, []), (10, []), (11, []), (12, []), (13, []), (14, []), (15, []), (16, []), (17, []), (18, []), (19, []), (20, [])]) (by kernel_rfl) (by kernel_rfl) (fun _ => rfl) ?_
        refine go_sop rfl rfl ?_
        refine gM rfl rfl ?_
        refine go_nil ?_
        refine go_sop rfl rfl ?_
        refine gM rfl rfl ?_
        refine go_nil ?_
        refine go_sop rfl rfl ?_
        refine gM rfl rfl ?_
        refine go_nil ?_
        refine go_sop rfl rfl ?_
        refine gr rfl (r_nilck (ot rfl)) ?_
        refine go_nil ?_
        refine go_sop rfl rfl ?_
        refine gr rfl (r_fa (ot rfl) (fa_58_0 _ _)) ?_
        refine go_nil ?_
        refine go_sop rfl rfl ?_
        refine gr rfl (r_fa (ot rfl) (fa_32_2 _ _)) ?_
        refine go_nil ?_
        refine go_sop rfl rfl ?_
        refine gr rfl (r_fa (ot rfl) (fa_25_1 _ _)) ?_
        refine go_nil ?_
        refine go_sop rfl rfl ?_
        refine gr rfl (r_load (ot rfl) (lm_s (mem_seg 1 rfl) ag_9 (acc_cell (j := 3) hd4 rfl))) ?_
        refine go_nil ?_
        refine go_sop rfl rfl ?_
        refine gM rfl rfl ?_
        refine go_nil ?_
        refine go_sop rfl rfl ?_
        refine gr rfl (r_nilck (ot rfl)) ?_
        refine go_nil ?_
        refine go_sop rfl rfl ?_
        refine gr rfl (r_fa (ot rfl) (fa_58_0 _ _)) ?_
        refine go_nil ?_
        refine go_sop rfl rfl ?_
        refine gr rfl (r_fa (ot rfl) (fa_32_2 _ _)) ?_
        refine go_nil ?_
        refine go_sop rfl rfl ?_
        refine gr rfl (r_fa (ot rfl) (fa_25_1 _ _)) ?_
        refine go_nil ?_
        refine go_sop rfl rfl ?_
        refine gr rfl (r_load (ot rfl) (lm_s (mem_seg 1 rfl) ag_9 (acc_cell (j := 3) hd4 rfl))) ?_
        refine go_nil ?_
        refine go_sop rfl rfl ?_
        refine gr rfl (r_bin (ot rfl) (oc rfl) rfl) ?_
        refine go_nil ?_
        refine go_sop rfl rfl ?_
        refine gr rfl (r_nilck (ot rfl)) ?_
        refine go_nil ?_
        refine go_sop rfl rfl ?_
        refine gr rfl (r_fa (ot rfl) (fa_58_1 _ _)) ?_
        refine go_nil ?_
        refine go_sop rfl rfl ?_
        have hc5 : R_Tsubidx_node.C h2 [.int .i64 x4.Sub.Id, .int .i64 x4.Sub.Rev, .string x4.Sub.R.From, .string x4.Sub.R.To, .string x4.Sub.R.To, .bool x4.all] (⟨x4.Sub, x4.Sub.R.To, x4.all⟩ : Tsubidx_node) := rfl
        have hR5 : Rws R_Tsubidx_node h2 (rw4.set y2_0.toNat [.int .i64 x4.Sub.Id, .int .i64 x4.Sub.Rev, .string x4.Sub.R.From, .string x4.Sub.R.To, .string x4.Sub.R.To, .bool x4.all]) (setI y2_1 y2_0 (⟨x4.Sub, x4.Sub.R.To, x4.all⟩ : Tsubidx_node)) := Rws.set hR4 hc5 _
        have hq5 := (List.getElem?_eq_some_iff.mp hw4).1
        have hl5 : (setI y2_1 y2_0 (⟨x4.Sub, x4.Sub.R.To, x4.all⟩ : Tsubidx_node)).length < 9223372036854775808 := by rw [setI_len]; exact hl4
        have f5_ : AccR R_Tsubidx_node 58 h2 [⟨bb4, .cells (rw4.set y2_0.toNat [.int .i64 x4.Sub.Id, .int .i64 x4.Sub.Rev, .string x4.Sub.R.From, .string x4.Sub.R.To, .string x4.Sub.R.To, .bool x4.all]).flatten 58⟩] (.slice (some ⟨bb4, 0, some 0⟩) (setI y2_1 y2_0 (⟨x4.Sub, x4.Sub.R.To, x4.all⟩ : Tsubidx_node)).length (setI y2_1 y2_0 (⟨x4.Sub, x4.Sub.R.To, x4.all⟩ : Tsubidx_node)).length) (setI y2_1 y2_0 (⟨x4.Sub, x4.Sub.R.To, x4.all⟩ : Tsubidx_node)) := AccR.set_ hl4 hR4 rfl hc5
        obtain ⟨hd5, hb5⟩ := flat_at_set (row' := [.int .i64 x4.Sub.Id, .int .i64 x4.Sub.Rev, .string x4.Sub.R.From, .string x4.Sub.R.To, .string x4.Sub.R.To, .bool x4.all]) hR4.k hq5 rfl
        have hw5 : (rw4.set y2_0.toNat [.int .i64 x4.Sub.Id, .int .i64 x4.Sub.Rev, .string x4.Sub.R.From, .string x4.Sub.R.To, .string x4.Sub.R.To, .bool x4.all])[y2_0.toNat]? = some [.int .i64 x4.Sub.Id, .int .i64 x4.Sub.Rev, .string x4.Sub.R.From, .string x4.Sub.R.To, .string x4.Sub.R.To, .bool x4.all] := List.getElem?_set_self hq5
        refine gs_store (vs := [.string x4.Sub.R.To]) (cs' := (rw4.set y2_0.toNat [.int .i64 x4.Sub.Id, .int .i64 x4.Sub.Rev, .string x4.Sub.R.From, .string x4.Sub.R.To, .string x4.Sub.R.To, .bool x4.all]).flatten) (ot rfl) (ot rfl) sz_9 rfl rfl (acc_ble (j := 4) (m := 1) hb4 (by decide)) rfl (flat_splice_part (j := 4) _ _ hR4.k hw4 (Nat.le_of_ble_eq_true rfl)) (.s (.z)) ?_
        refine go_re 11 (v2 := .slice (some ⟨bb4, 0, some 0⟩) (setI y2_1 y2_0 (⟨x4.Sub, x4.Sub.R.To, x4.all⟩ : Tsubidx_node)).length (setI y2_1 y2_0 (⟨x4.Sub, x4.Sub.R.To, x4.all⟩ : Tsubidx_node)).length) rfl (by simp only [setI_len]) ?_
        refine go_re 19 (v2 := .slice (some ⟨bb4, 0, some 0⟩) (setI y2_1 y2_0 (⟨x4.Sub, x4.Sub.R.To, x4.all⟩ : Tsubidx_node)).length (setI y2_1 y2_0 (⟨x4.Sub, x4.Sub.R.To, x4.all⟩ : Tsubidx_node)).length) rfl (by simp only [setI_len]) ?_
        refine gs_retell (segs' := [[⟨bp0, .cells [.slice (some ⟨bb4, 0, some 0⟩) (setI y2_1 y2_0 (⟨x4.Sub, x4.Sub.R.To, x4.all⟩ : Tsubidx_node)).length (setI y2_1 y2_0 (⟨x4.Sub, x4.Sub.R.To, x4.all⟩ : Tsubidx_node)).length] 55⟩], [⟨bb4, .cells (rw4.set y2_0.toNat [.int .i64 x4.Sub.Id, .int .i64 x4.Sub.Rev, .string x4.Sub.R.From, .string x4.Sub.R.To, .string x4.Sub.R.To, .bool x4.all]).flatten 58⟩]]) (by simp only [setI_len]) ?_
        refine go_nil ?_
        refine go_sop rfl rfl ?_
        refine gr rfl (r_nilck (ot rfl)) ?_
        refine go_nil ?_
        refine go_sop rfl rfl ?_
        refine gr rfl (r_fa (ot rfl) (fa_58_2 _ _)) ?_
        refine go_nil ?_
        refine go_sop rfl rfl ?_
        have hc6 : R_Tsubidx_node.C h2 [.int .i64 x4.Sub.Id, .int .i64 x4.Sub.Rev, .string x4.Sub.R.From, .string x4.Sub.R.To, .string x4.Sub.R.To, .bool (eqB x4.Sub.R.To ByteArray.empty)] (⟨x4.Sub, x4.Sub.R.To, (eqB x4.Sub.R.To ByteArray.empty)⟩ : Tsubidx_node) := rfl
        have hR6 : Rws R_Tsubidx_node h2 ((rw4.set y2_0.toNat [.int .i64 x4.Sub.Id, .int .i64 x4.Sub.Rev, .string x4.Sub.R.From, .string x4.Sub.R.To, .string x4.Sub.R.To, .bool x4.all]).set y2_0.toNat [.int .i64 x4.Sub.Id, .int .i64 x4.Sub.Rev, .string x4.Sub.R.From, .string x4.Sub.R.To, .string x4.Sub.R.To, .bool (eqB x4.Sub.R.To ByteArray.empty)]) (setI (setI y2_1 y2_0 (⟨x4.Sub, x4.Sub.R.To, x4.all⟩ : Tsubidx_node)) y2_0 (⟨x4.Sub, x4.Sub.R.To, (eqB x4.Sub.R.To ByteArray.empty)⟩ : Tsubidx_node)) := Rws.set hR5 hc6 _
        have hq6 := (List.getElem?_eq_some_iff.mp hw5).1
        have hl6 : (setI (setI y2_1 y2_0 (⟨x4.Sub, x4.Sub.R.To, x4.all⟩ : Tsubidx_node)) y2_0 (⟨x4.Sub, x4.Sub.R.To, (eqB x4.Sub.R.To ByteArray.empty)⟩ : Tsubidx_node)).length < 9223372036854775808 := by rw [setI_len]; exact hl5
        have f6_ : AccR R_Tsubidx_node 58 h2 [⟨bb4, .cells ((rw4.set y2_0.toNat [.int .i64 x4.Sub.Id, .int .i64 x4.Sub.Rev, .string x4.Sub.R.From, .string x4.Sub.R.To, .string x4.Sub.R.To, .bool x4.all]).set y2_0.toNat [.int .i64 x4.Sub.Id, .int .i64 x4.Sub.Rev, .string x4.Sub.R.From, .string x4.Sub.R.To, .string x4.Sub.R.To, .bool (eqB x4.Sub.R.To ByteArray.empty)]).flatten 58⟩] (.slice (some ⟨bb4, 0, some 0⟩) (setI (setI y2_1 y2_0 (⟨x4.Sub, x4.Sub.R.To, x4.all⟩ : Tsubidx_node)) y2_0 (⟨x4.Sub, x4.Sub.R.To, (eqB x4.Sub.R.To ByteArray.empty)⟩ : Tsubidx_node)).length (setI (setI y2_1 y2_0 (⟨x4.Sub, x4.Sub.R.To, x4.all⟩ : Tsubidx_node)) y2_0 (⟨x4.Sub, x4.Sub.R.To, (eqB x4.Sub.R.To ByteArray.empty)⟩ : Tsubidx_node)).length) (setI (setI y2_1 y2_0 (⟨x4.Sub, x4.Sub.R.To, x4.all⟩ : Tsubidx_node)) y2_0 (⟨x4.Sub, x4.Sub.R.To, (eqB x4.Sub.R.To ByteArray.empty)⟩ : Tsubidx_node)) := AccR.set_ hl5 hR5 rfl hc6
        obtain ⟨hd6, hb6⟩ := flat_at_set (row' := [.int .i64 x4.Sub.Id, .int .i64 x4.Sub.Rev, .string x4.Sub.R.From, .string x4.Sub.R.To, .string x4.Sub.R.To, .bool (eqB x4.Sub.R.To ByteArray.empty)]) hR5.k hq6 rfl
        have hw6 : ((rw4.set y2_0.toNat [.int .i64 x4.Sub.Id, .int .i64 x4.Sub.Rev, .string x4.Sub.R.From, .string x4.Sub.R.To, .string x4.Sub.R.To, .bool x4.all]).set y2_0.toNat [.int .i64 x4.Sub.Id, .int .i64 x4.Sub.Rev, .string x4.Sub.R.From, .string x4.Sub.R.To, .string x4.Sub.R.To, .bool (eqB x4.Sub.R.To ByteArray.empty)])[y2_0.toNat]? = some [.int .i64 x4.Sub.Id, .int .i64 x4.Sub.Rev, .string x4.Sub.R.From, .string x4.Sub.R.To, .string x4.Sub.R.To, .bool (eqB x4.Sub.R.To ByteArray.empty)] := List.getElem?_set_self hq6
        refine gs_store (vs := [.bool (eqB x4.Sub.R.To ByteArray.empty)]) (cs' := ((rw4.set y2_0.toNat [.int .i64 x4.Sub.Id, .int .i64 x4.Sub.Rev, .string x4.Sub.R.From, .string x4.Sub.R.To, .string x4.Sub.R.To, .bool x4.all]).set y2_0.toNat [.int .i64 x4.Sub.Id, .int .i64 x4.Sub.Rev, .string x4.Sub.R.From, .string x4.Sub.R.To, .string x4.Sub.R.To, .bool (eqB x4.Sub.R.To ByteArray.empty)]).flatten) (ot rfl) (ot rfl) sz_4 rfl rfl (acc_ble (j := 5) (m := 1) hb5 (by decide)) rfl (flat_splice_part (j := 5) _ _ hR5.k hw5 (Nat.le_of_ble_eq_true rfl)) (.s (.z)) ?_
        refine go_re 11 (v2 := .slice (some ⟨bb4, 0, some 0⟩) (setI (setI y2_1 y2_0 (⟨x4.Sub, x4.Sub.R.To, x4.all⟩ : Tsubidx_node)) y2_0 (⟨x4.Sub, x4.Sub.R.To, (eqB x4.Sub.R.To ByteArray.empty)⟩ : Tsubidx_node)).length (setI (setI y2_1 y2_0 (⟨x4.Sub, x4.Sub.R.To, x4.all⟩ : Tsubidx_node)) y2_0 (⟨x4.Sub, x4.Sub.R.To, (eqB x4.Sub.R.To ByteArray.empty)⟩ : Tsubidx_node)).length) rfl (by simp only [setI_len]) ?_
        refine go_re 19 (v2 := .slice (some ⟨bb4, 0, some 0⟩) (setI (setI y2_1 y2_0 (⟨x4.Sub, x4.Sub.R.To, x4.all⟩ : Tsubidx_node)) y2_0 (⟨x4.Sub, x4.Sub.R.To, (eqB x4.Sub.R.To ByteArray.empty)⟩ : Tsubidx_node)).length (setI (setI y2_1 y2_0 (⟨x4.Sub, x4.Sub.R.To, x4.all⟩ : Tsubidx_node)) y2_0 (⟨x4.Sub, x4.Sub.R.To, (eqB x4.Sub.R.To ByteArray.empty)⟩ : Tsubidx_node)).length) rfl (by simp only [setI_len]) ?_
        refine gs_retell (segs' := [[⟨bp0, .cells [.slice (some ⟨bb4, 0, some 0⟩) (setI (setI y2_1 y2_0 (⟨x4.Sub, x4.Sub.R.To, x4.all⟩ : Tsubidx_node)) y2_0 (⟨x4.Sub, x4.Sub.R.To, (eqB x4.Sub.R.To ByteArray.empty)⟩ : Tsubidx_node)).length (setI (setI y2_1 y2_0 (⟨x4.Sub, x4.Sub.R.To, x4.all⟩ : Tsubidx_node)) y2_0 (⟨x4.Sub, x4.Sub.R.To, (eqB x4.Sub.R.To ByteArray.empty)⟩ : Tsubidx_node)).length] 55⟩], [⟨bb4, .cells ((rw4.set y2_0.toNat [.int .i64 x4.Sub.Id, .int .i64 x4.Sub.Rev, .string x4.Sub.R.From, .string x4.Sub.R.To, .string x4.Sub.R.To, .bool x4.all]).set y2_0.toNat [.int .i64 x4.Sub.Id, .int .i64 x4.Sub.Rev, .string x4.Sub.R.From, .string x4.Sub.R.To, .string x4.Sub.R.To, .bool (eqB x4.Sub.R.To ByteArray.empty)]).flatten 58⟩]]) (by simp only [setI_len]) ?_
        refine go_nil ?_
        refine go_snil ?_
        refine go_seq ?_
        refine go_region ?_
        refine gM rfl rfl ?_
        refine gr rfl (r_bin (ot rfl) (oc rfl) rfl) ?_
        refine go_nil ?_
        replace hF := obind hF
        obtain ⟨s8, hF, hK8⟩ := hF
        refine go_joinc (β := Option Addr × List Blk) (fun s h' => AccR R_Tsubidx_node 58 h' s.2 (.slice s.1 s8.length s8.length) s8) (fun s => [(0, true, .pointer (some ⟨bp0, 0, none⟩)), (4, true, .int .i64 y2_0), (7, true, .int .i64 y2_0), (8, true, .pointer (some ⟨bp0, 0, none⟩)), (9, true, .pointer (some ⟨bp0, 0, none⟩)), (10, true, .pointer (some ⟨bp0, 0, none⟩)), (11, true, .slice s.1 s8.length s8.length), (12, true, .int .i64 (y2_1.length : Int)), (13, true, .bool (decide (y2_0 < (y2_1.length : Int)))), (16, true, .pointer (some ⟨bp0, 0, none⟩)), (17, true, .pointer (some ⟨bp0, 0, none⟩)), (18, true, .pointer (some ⟨bp0, 0, none⟩)), (19, true, .slice s.1 s8.length s8.length), (20, true, .int .i64 y2_0), (29, true, .string x4.Sub.R.To), (35, true, .string x4.Sub.R.To), (36, true, .bool (eqB x4.Sub.R.To ByteArray.empty)), (41, true, .int .i64 y2_0), (42, true, .bool (decide (y2_0 > 0)))]) (fun s => (List.flatten [[⟨bp0, .cells [.slice s.1 s8.length s8.length] 55⟩], s.2] : List Blk)) ?_ (fun J8 => ?_)
        ·
          rintro ⟨a8_0, a8_1⟩ h8 e8 w8 f8_0
          replace hF := hK8
          refine go_endb ?_
          refine go_region ?_
          refine gM rfl rfl ?_
          refine gr rfl (r_bin (ot rfl) (oc rfl) rfl) ?_
          refine gA rfl rfl ?_
          refine go_nil ?_
          exact Goes.weak (ih2 (m2, (IntKind.i64.wrap (y2_0 + 1)), s8, a8_0, a8_1, h8) ⟨(e2.trans e8), w8, hF, f8_0⟩ (Nat.lt_succ_self _)) (Sub.cons (Sub.cons (Sub.nil _) rfl) rfl)
        ·
          refine g_cond (b := (decide (y2_0 > 0))) (ot rfl) (fun hc7 => ?_) (fun hc7 => ?_)
          ·
            replace hF := ifT hc7 hF
            replace hF := obind hF
            obtain ⟨s9, hF, hK9⟩ := hF
            refine go_joinc (β := Option Addr × List Blk) (fun s h' => AccR R_Tsubidx_node 58 h' s.2 (.slice s.1 s9.1.length s9.1.length) s9.1) (fun s => [(0, true, .pointer (some ⟨bp0, 0, none⟩)), (4, true, .int .i64 y2_0), (7, true, .int .i64 y2_0), (8, true, .pointer (some ⟨bp0, 0, none⟩)), (9, true, .pointer (some ⟨bp0, 0, none⟩)), (10, true, .pointer (some ⟨bp0, 0, none⟩)), (11, true, .slice s.1 s9.1.length s9.1.length), (12, true, .int .i64 (y2_1.length : Int)), (13, true, .bool (decide (y2_0 < (y2_1.length : Int)))), (16, true, .pointer (some ⟨bp0, 0, none⟩)), (17, true, .pointer (some ⟨bp0, 0, none⟩)), (18, true, .pointer (some ⟨bp0, 0, none⟩)), (19, true, .slice s.1 s9.1.length s9.1.length), (20, true, .int .i64 y2_0), (29, true, .string x4.Sub.R.To), (35, true, .string x4.Sub.R.To), (36, true, .bool (eqB x4.Sub.R.To ByteArray.empty)), (41, true, .int .i64 y2_0), (42, true, .bool (decide (y2_0 > 0))), (48, true, .string x4.Sub.R.To), (52, true, .slice s.1 s9.1.length s9.1.length), (53, true, .int .i64 y2_0), (54, true, .int .i64 (IntKind.i64.wrap (y2_0 - 1))), (57, true, .string s9.2.1), (58, true, .string s9.2.2.1), (62, true, .bool (eqB x4.Sub.R.To ByteArray.empty)), (63, true, .bool s9.2.2.2.1), (73, true, .bool s9.2.2.2.2)]) (fun s => (List.flatten [[⟨bp0, .cells [.slice s.1 s9.1.length s9.1.length] 55⟩], s.2] : List Blk)) ?_ (fun J9 => ?_)
            ·
              rintro ⟨a9_0, a9_1⟩ h9 e9 w9 f9_0
              replace hF := hK9
              obtain rfl := someI hF
              exact Goes.weak (J8 (a9_0, a9_1) _ e9 w9 f9_0) (Sub.cons (Sub.cons (Sub.cons (Sub.cons (Sub.cons (Sub.cons (Sub.cons (Sub.cons (Sub.cons (Sub.cons (Sub.cons (Sub.cons (Sub.cons (Sub.cons (Sub.cons (Sub.cons (Sub.cons (Sub.cons (Sub.cons (Sub.nil _) rfl) rfl) rfl) rfl) rfl) rfl) rfl) rfl) rfl) rfl) rfl) rfl) rfl) rfl) rfl) rfl) rfl) rfl) rfl)
            ·
              refine go_regions (L := [(0, []), (1, []), (2, []), (3, []), (4, []), (5, []), (6, []), (7, []), (8, []), (9, []), (10, []), (11, []), (12, []), (13, []), (14, []), (15, []), (16, []), (17, []), (18, []), (19, []), (20, []), (21, []), (22, []), (23, []), (24, []), (25, []), (26, []), (27, []), (28, []), (29, []), (30, []), (31, []), (32, []), (33, []), (34, []), (35, []), (36, [])]) (by kernel_rfl) (by kernel_rfl) (fun _ => rfl) ?_
              refine go_sop rfl rfl ?_
              refine gM rfl rfl ?_
              refine go_nil ?_
              refine go_sop rfl rfl ?_
              refine gM rfl rfl ?_
              refine go_nil ?_
              refine go_sop rfl rfl ?_
              refine gM rfl rfl ?_
              refine go_nil ?_
              refine go_sop rfl rfl ?_
              refine gr rfl (r_nilck (ot rfl)) ?_
              refine go_nil ?_
              refine go_sop rfl rfl ?_
              refine gr rfl (r_fa (ot rfl) (fa_58_1 _ _)) ?_
              refine go_nil ?_
              refine go_sop rfl rfl ?_
              refine gr rfl (r_load (ot rfl) (lm_s (mem_seg 1 rfl) ag_9 (acc_cell (j := 4) hd6 rfl))) ?_
              refine go_nil ?_
              refine go_sop rfl rfl ?_
              refine gM rfl rfl ?_
              refine go_nil ?_
              refine go_sop rfl rfl ?_
              refine gr rfl (r_nilck (ot rfl)) ?_
              refine go_nil ?_
              refine go_sop rfl rfl ?_
              refine gr rfl (r_fa (ot rfl) (fa_55_0 _ _)) ?_
              refine go_nil ?_
              refine go_sop rfl rfl ?_
              refine gr rfl (r_load (ot rfl) (lm_s (mem_seg 0 rfl) ag_53 rfl)) ?_
              refine go_nil ?_
              refine go_sop rfl rfl ?_
              refine gM rfl rfl ?_
              refine go_nil ?_
              refine go_sop rfl rfl ?_
              refine gr rfl (r_bin (ot rfl) (oc rfl) rfl) ?_
              refine go_nil ?_
              refine go_sop rfl rfl ?_
              replace hF := obind hF
              obtain ⟨x10, hx10, hF⟩ := hF
              obtain ⟨row10, hw10, rc10, hz10, hi10, hd10, hb10⟩ := hR6.at2 hx10
              obtain rfl := rc10
              refine gr rfl (r_ia (ot rfl) (ot rfl) (ia_acc (k := 6) ut_53 sz_58 hz10 hi10)) ?_
              refine go_nil ?_
              refine go_sop rfl rfl ?_
              refine gr rfl (r_fa (ot rfl) (fa_58_1 _ _)) ?_
              refine go_nil ?_
              refine go_sop rfl rfl ?_
              refine gr rfl (r_load (ot rfl) (lm_s (mem_seg 1 rfl) ag_9 (acc_cell (j := 4) hd10 rfl))) ?_
              refine go_nil ?_
              refine go_sop rfl rfl ?_
              refine gr rfl (r_max (os1 (ot rfl) (os1 (ot rfl) os0)) rfl) ?_
              refine go_nil ?_
              refine go_sop rfl rfl ?_
              refine gM rfl rfl ?_
              refine go_nil ?_
              refine go_sop rfl rfl ?_
              refine gr rfl (r_nilck (ot rfl)) ?_
              refine go_nil ?_
              refine go_sop rfl rfl ?_
              refine gr rfl (r_fa (ot rfl) (fa_58_2 _ _)) ?_
              refine go_nil ?_
              refine go_sop rfl rfl ?_
              refine gr rfl (r_load (ot rfl) (lm_s (mem_seg 1 rfl) ag_4 (acc_cell (j := 5) hd6 rfl))) ?_
              refine go_nil ?_
              refine go_sop rfl rfl ?_
              refine gM rfl rfl ?_
              refine go_nil ?_
              rcases Bool.eq_false_or_eq_true (eqB x4.Sub.R.To ByteArray.empty) with hb11 | hb11
              ·
                replace hF := ifT hb11 hF
                refine go_re 63 (v2 := .bool true) rfl (congrArg Value.bool hb11) ?_
                refine go_sskip rfl (w_no rfl rfl rfl rfl rfl) ?_
                refine g_no rfl rfl rfl rfl rfl ?_
                refine go_nil ?_
                refine go_sskip rfl (w_no rfl rfl rfl rfl rfl) ?_
                refine g_no rfl rfl rfl rfl rfl ?_
                refine go_nil ?_
                refine go_sskip rfl (w_no rfl rfl rfl rfl rfl) ?_
                refine g_no rfl rfl rfl rfl rfl ?_
                refine go_nil ?_
                refine go_sskip rfl (w_no rfl rfl rfl rfl rfl) ?_
                refine g_no rfl rfl rfl rfl rfl ?_
                refine go_nil ?_
                refine go_sskip rfl (w_no rfl rfl rfl rfl rfl) ?_
                refine g_no rfl rfl rfl rfl rfl ?_
                refine go_nil ?_
                refine go_sskip rfl (w_no rfl rfl rfl rfl rfl) ?_
                refine g_no rfl rfl rfl rfl rfl ?_
                refine go_nil ?_
                refine go_sskip rfl (w_no rfl rfl rfl rfl rfl) ?_
                refine g_no rfl rfl rfl rfl rfl ?_
                refine go_nil ?_
                refine go_sskip rfl (w_no rfl rfl rfl rfl rfl) ?_
                refine g_no rfl rfl rfl rfl rfl ?_
                refine go_nil ?_
                refine go_sskip rfl (w_no rfl rfl rfl rfl rfl) ?_
                refine g_no rfl rfl rfl rfl rfl ?_
                refine go_nil ?_
                refine go_sop rfl rfl ?_
                refine gr rfl (r_pkT (ot rfl) (oc rfl)) ?_
                refine go_nil ?_
                refine go_sop rfl rfl ?_
                refine gr rfl (r_nilck (ot rfl)) ?_
                refine go_nil ?_
                refine go_sop rfl rfl ?_
                refine gr rfl (r_fa (ot rfl) (fa_58_1 _ _)) ?_
                refine go_nil ?_
                refine go_sop rfl rfl ?_
                have hc12 : R_Tsubidx_node.C h2 [.int .i64 x4.Sub.Id, .int .i64 x4.Sub.Rev, .string x4.Sub.R.From, .string x4.Sub.R.To, .string (maxS x4.Sub.R.To x10.top), .bool (eqB x4.Sub.R.To ByteArray.empty)] (⟨x4.Sub, (maxS x4.Sub.R.To x10.top), (eqB x4.Sub.R.To ByteArray.empty)⟩ : Tsubidx_node) := rfl
                have hR12 : Rws R_Tsubidx_node h2 (((rw4.set y2_0.toNat [.int .i64 x4.Sub.Id, .int .i64 x4.Sub.Rev, .string x4.Sub.R.From, .string x4.Sub.R.To, .string x4.Sub.R.To, .bool x4.all]).set y2_0.toNat [.int .i64 x4.Sub.Id, .int .i64 x4.Sub.Rev, .string x4.Sub.R.From, .string x4.Sub.R.To, .string x4.Sub.R.To, .bool (eqB x4.Sub.R.To ByteArray.empty)]).set y2_0.toNat [.int .i64 x4.Sub.Id, .int .i64 x4.Sub.Rev, .string x4.Sub.R.From, .string x4.Sub.R.To, .string (maxS x4.Sub.R.To x10.top), .bool (eqB x4.Sub.R.To ByteArray.empty)]) (setI (setI (setI y2_1 y2_0 (⟨x4.Sub, x4.Sub.R.To, x4.all⟩ : Tsubidx_node)) y2_0 (⟨x4.Sub, x4.Sub.R.To, (eqB x4.Sub.R.To ByteArray.empty)⟩ : Tsubidx_node)) y2_0 (⟨x4.Sub, (maxS x4.Sub.R.To x10.top), (eqB x4.Sub.R.To ByteArray.empty)⟩ : Tsubidx_node)) := Rws.set hR6 hc12 _
                have hq12 := (List.getElem?_eq_some_iff.mp hw6).1
                have hl12 : (setI (setI (setI y2_1 y2_0 (⟨x4.Sub, x4.Sub.R.To, x4.all⟩ : Tsubidx_node)) y2_0 (⟨x4.Sub, x4.Sub.R.To, (eqB x4.Sub.R.To ByteArray.empty)⟩ : Tsubidx_node)) y2_0 (⟨x4.Sub, (maxS x4.Sub.R.To x10.top), (eqB x4.Sub.R.To ByteArray.empty)⟩ : Tsubidx_node)).length < 9223372036854775808 := by rw [setI_len]; exact hl6
                have f12_ : AccR R_Tsubidx_node 58 h2 [⟨bb4, .cells (((rw4.set y2_0.toNat [.int .i64 x4.Sub.Id, .int .i64 x4.Sub.Rev, .string x4.Sub.R.From, .string x4.Sub.R.To, .string x4.Sub.R.To, .bool x4.all]).set y2_0.toNat [.int .i64 x4.Sub.Id, .int .i64 x4.Sub.Rev, .string x4.Sub.R.From, .string x4.Sub.R.To, .string x4.Sub.R.To, .bool (eqB x4.Sub.R.To ByteArray.empty)]).set y2_0.toNat [.int .i64 x4.Sub.Id, .int .i64 x4.Sub.Rev, .string x4.Sub.R.From, .string x4.Sub.R.To, .string (maxS x4.Sub.R.To x10.top), .bool (eqB x4.Sub.R.To ByteArray.empty)]).flatten 58⟩] (.slice (some ⟨bb4, 0, some 0⟩) (setI (setI (setI y2_1 y2_0 (⟨x4.Sub, x4.Sub.R.To, x4.all⟩ : Tsubidx_node)) y2_0 (⟨x4.Sub, x4.Sub.R.To, (eqB x4.Sub.R.To ByteArray.empty)⟩ : Tsubidx_node)) y2_0 (⟨x4.Sub, (maxS x4.Sub.R.To x10.top), (eqB x4.Sub.R.To ByteArray.empty)⟩ : Tsubidx_node)).length (setI (setI (setI y2_1 y2_0 (⟨x4.Sub, x4.Sub.R.To, x4.all⟩ : Tsubidx_node)) y2_0 (⟨x4.Sub, x4.Sub.R.To, (eqB x4.Sub.R.To ByteArray.empty)⟩ : Tsubidx_node)) y2_0 (⟨x4.Sub, (maxS x4.Sub.R.To x10.top), (eqB x4.Sub.R.To ByteArray.empty)⟩ : Tsubidx_node)).length) (setI (setI (setI y2_1 y2_0 (⟨x4.Sub, x4.Sub.R.To, x4.all⟩ : Tsubidx_node)) y2_0 (⟨x4.Sub, x4.Sub.R.To, (eqB x4.Sub.R.To ByteArray.empty)⟩ : Tsubidx_node)) y2_0 (⟨x4.Sub, (maxS x4.Sub.R.To x10.top), (eqB x4.Sub.R.To ByteArray.empty)⟩ : Tsubidx_node)) := AccR.set_ hl6 hR6 rfl hc12
                obtain ⟨hd12, hb12⟩ := flat_at_set (row' := [.int .i64 x4.Sub.Id, .int .i64 x4.Sub.Rev, .string x4.Sub.R.From, .string x4.Sub.R.To, .string (maxS x4.Sub.R.To x10.top), .bool (eqB x4.Sub.R.To ByteArray.empty)]) hR6.k hq12 rfl
                have hw12 : (((rw4.set y2_0.toNat [.int .i64 x4.Sub.Id, .int .i64 x4.Sub.Rev, .string x4.Sub.R.From, .string x4.Sub.R.To, .string x4.Sub.R.To, .bool x4.all]).set y2_0.toNat [.int .i64 x4.Sub.Id, .int .i64 x4.Sub.Rev, .string x4.Sub.R.From, .string x4.Sub.R.To, .string x4.Sub.R.To, .bool (eqB x4.Sub.R.To ByteArray.empty)]).set y2_0.toNat [.int .i64 x4.Sub.Id, .int .i64 x4.Sub.Rev, .string x4.Sub.R.From, .string x4.Sub.R.To, .string (maxS x4.Sub.R.To x10.top), .bool (eqB x4.Sub.R.To ByteArray.empty)])[y2_0.toNat]? = some [.int .i64 x4.Sub.Id, .int .i64 x4.Sub.Rev, .string x4.Sub.R.From, .string x4.Sub.R.To, .string (maxS x4.Sub.R.To x10.top), .bool (eqB x4.Sub.R.To ByteArray.empty)] := List.getElem?_set_self hq12
                refine gs_store (vs := [.string (maxS x4.Sub.R.To x10.top)]) (cs' := (((rw4.set y2_0.toNat [.int .i64 x4.Sub.Id, .int .i64 x4.Sub.Rev, .string x4.Sub.R.From, .string x4.Sub.R.To, .string x4.Sub.R.To, .bool x4.all]).set y2_0.toNat [.int .i64 x4.Sub.Id, .int .i64 x4.Sub.Rev, .string x4.Sub.R.From, .string x4.Sub.R.To, .string x4.Sub.R.To, .bool (eqB x4.Sub.R.To ByteArray.empty)]).set y2_0.toNat [.int .i64 x4.Sub.Id, .int .i64 x4.Sub.Rev, .string x4.Sub.R.From, .string x4.Sub.R.To, .string (maxS x4.Sub.R.To x10.top), .bool (eqB x4.Sub.R.To ByteArray.empty)]).flatten) (ot rfl) (ot rfl) sz_9 rfl rfl (acc_ble (j := 4) (m := 1) hb6 (by decide)) rfl (flat_splice_part (j := 4) _ _ hR6.k hw6 (Nat.le_of_ble_eq_true rfl)) (.s (.z)) ?_
                refine go_re 11 (v2 := .slice (some ⟨bb4, 0, some 0⟩) (setI (setI (setI y2_1 y2_0 (⟨x4.Sub, x4.Sub.R.To, x4.all⟩ : Tsubidx_node)) y2_0 (⟨x4.Sub, x4.Sub.R.To, (eqB x4.Sub.R.To ByteArray.empty)⟩ : Tsubidx_node)) y2_0 (⟨x4.Sub, (maxS x4.Sub.R.To x10.top), (eqB x4.Sub.R.To ByteArray.empty)⟩ : Tsubidx_node)).length (setI (setI (setI y2_1 y2_0 (⟨x4.Sub, x4.Sub.R.To, x4.all⟩ : Tsubidx_node)) y2_0 (⟨x4.Sub, x4.Sub.R.To, (eqB x4.Sub.R.To ByteArray.empty)⟩ : Tsubidx_node)) y2_0 (⟨x4.Sub, (maxS x4.Sub.R.To x10.top), (eqB x4.Sub.R.To ByteArray.empty)⟩ : Tsubidx_node)).length) rfl (by simp only [setI_len]) ?_
                refine go_re 19 (v2 := .slice (some ⟨bb4, 0, some 0⟩) (setI (setI (setI y2_1 y2_0 (⟨x4.Sub, x4.Sub.R.To, x4.all⟩ : Tsubidx_node)) y2_0 (⟨x4.Sub, x4.Sub.R.To, (eqB x4.Sub.R.To ByteArray.empty)⟩ : Tsubidx_node)) y2_0 (⟨x4.Sub, (maxS x4.Sub.R.To x10.top), (eqB x4.Sub.R.To ByteArray.empty)⟩ : Tsubidx_node)).length (setI (setI (setI y2_1 y2_0 (⟨x4.Sub, x4.Sub.R.To, x4.all⟩ : Tsubidx_node)) y2_0 (⟨x4.Sub, x4.Sub.R.To, (eqB x4.Sub.R.To ByteArray.empty)⟩ : Tsubidx_node)) y2_0 (⟨x4.Sub, (maxS x4.Sub.R.To x10.top), (eqB x4.Sub.R.To ByteArray.empty)⟩ : Tsubidx_node)).length) rfl (by simp only [setI_len]) ?_
                refine go_re 52 (v2 := .slice (some ⟨bb4, 0, some 0⟩) (setI (setI (setI y2_1 y2_0 (⟨x4.Sub, x4.Sub.R.To, x4.all⟩ : Tsubidx_node)) y2_0 (⟨x4.Sub, x4.Sub.R.To, (eqB x4.Sub.R.To ByteArray.empty)⟩ : Tsubidx_node)) y2_0 (⟨x4.Sub, (maxS x4.Sub.R.To x10.top), (eqB x4.Sub.R.To ByteArray.empty)⟩ : Tsubidx_node)).length (setI (setI (setI y2_1 y2_0 (⟨x4.Sub, x4.Sub.R.To, x4.all⟩ : Tsubidx_node)) y2_0 (⟨x4.Sub, x4.Sub.R.To, (eqB x4.Sub.R.To ByteArray.empty)⟩ : Tsubidx_node)) y2_0 (⟨x4.Sub, (maxS x4.Sub.R.To x10.top), (eqB x4.Sub.R.To ByteArray.empty)⟩ : Tsubidx_node)).length) rfl (by simp only [setI_len]) ?_
                refine gs_retell (segs' := [[⟨bp0, .cells [.slice (some ⟨bb4, 0, some 0⟩) (setI (setI (setI y2_1 y2_0 (⟨x4.Sub, x4.Sub.R.To, x4.all⟩ : Tsubidx_node)) y2_0 (⟨x4.Sub, x4.Sub.R.To, (eqB x4.Sub.R.To ByteArray.empty)⟩ : Tsubidx_node)) y2_0 (⟨x4.Sub, (maxS x4.Sub.R.To x10.top), (eqB x4.Sub.R.To ByteArray.empty)⟩ : Tsubidx_node)).length (setI (setI (setI y2_1 y2_0 (⟨x4.Sub, x4.Sub.R.To, x4.all⟩ : Tsubidx_node)) y2_0 (⟨x4.Sub, x4.Sub.R.To, (eqB x4.Sub.R.To ByteArray.empty)⟩ : Tsubidx_node)) y2_0 (⟨x4.Sub, (maxS x4.Sub.R.To x10.top), (eqB x4.Sub.R.To ByteArray.empty)⟩ : Tsubidx_node)).length] 55⟩], [⟨bb4, .cells (((rw4.set y2_0.toNat [.int .i64 x4.Sub.Id, .int .i64 x4.Sub.Rev, .string x4.Sub.R.From, .string x4.Sub.R.To, .string x4.Sub.R.To, .bool x4.all]).set y2_0.toNat [.int .i64 x4.Sub.Id, .int .i64 x4.Sub.Rev, .string x4.Sub.R.From, .string x4.Sub.R.To, .string x4.Sub.R.To, .bool (eqB x4.Sub.R.To ByteArray.empty)]).set y2_0.toNat [.int .i64 x4.Sub.Id, .int .i64 x4.Sub.Rev, .string x4.Sub.R.From, .string x4.Sub.R.To, .string (maxS x4.Sub.R.To x10.top), .bool (eqB x4.Sub.R.To ByteArray.empty)]).flatten 58⟩]]) (by simp only [setI_len]) ?_
                refine go_nil ?_
                refine go_sop rfl rfl ?_
                refine gr rfl (r_nilck (ot rfl)) ?_
                refine go_nil ?_
                refine go_sop rfl rfl ?_
                refine gr rfl (r_fa (ot rfl) (fa_58_2 _ _)) ?_
                refine go_nil ?_
                refine go_sop rfl rfl ?_
                have hc13 : R_Tsubidx_node.C h2 [.int .i64 x4.Sub.Id, .int .i64 x4.Sub.Rev, .string x4.Sub.R.From, .string x4.Sub.R.To, .string (maxS x4.Sub.R.To x10.top), .bool true] (⟨x4.Sub, (maxS x4.Sub.R.To x10.top), true⟩ : Tsubidx_node) := rfl
                have hR13 : Rws R_Tsubidx_node h2 ((((rw4.set y2_0.toNat [.int .i64 x4.Sub.Id, .int .i64 x4.Sub.Rev, .string x4.Sub.R.From, .string x4.Sub.R.To, .string x4.Sub.R.To, .bool x4.all]).set y2_0.toNat [.int .i64 x4.Sub.Id, .int .i64 x4.Sub.Rev, .string x4.Sub.R.From, .string x4.Sub.R.To, .string x4.Sub.R.To, .bool (eqB x4.Sub.R.To ByteArray.empty)]).set y2_0.toNat [.int .i64 x4.Sub.Id, .int .i64 x4.Sub.Rev, .string x4.Sub.R.From, .string x4.Sub.R.To, .string (maxS x4.Sub.R.To x10.top), .bool (eqB x4.Sub.R.To ByteArray.empty)]).set y2_0.toNat [.int .i64 x4.Sub.Id, .int .i64 x4.Sub.Rev, .string x4.Sub.R.From, .string x4.Sub.R.To, .string (maxS x4.Sub.R.To x10.top), .bool true]) (setI (setI (setI (setI y2_1 y2_0 (⟨x4.Sub, x4.Sub.R.To, x4.all⟩ : Tsubidx_node)) y2_0 (⟨x4.Sub, x4.Sub.R.To, (eqB x4.Sub.R.To ByteArray.empty)⟩ : Tsubidx_node)) y2_0 (⟨x4.Sub, (maxS x4.Sub.R.To x10.top), (eqB x4.Sub.R.To ByteArray.empty)⟩ : Tsubidx_node)) y2_0 (⟨x4.Sub, (maxS x4.Sub.R.To x10.top), true⟩ : Tsubidx_node)) := Rws.set hR12 hc13 _
                have hq13 := (List.getElem?_eq_some_iff.mp hw12).1
                have hl13 : (setI (setI (setI (setI y2_1 y2_0 (⟨x4.Sub, x4.Sub.R.To, x4.all⟩ : Tsubidx_node)) y2_0 (⟨x4.Sub, x4.Sub.R.To, (eqB x4.Sub.R.To ByteArray.empty)⟩ : Tsubidx_node)) y2_0 (⟨x4.Sub, (maxS x4.Sub.R.To x10.top), (eqB x4.Sub.R.To ByteArray.empty)⟩ : Tsubidx_node)) y2_0 (⟨x4.Sub, (maxS x4.Sub.R.To x10.top), true⟩ : Tsubidx_node)).length < 9223372036854775808 := by rw [setI_len]; exact hl12
                have f13_ : AccR R_Tsubidx_node 58 h2 [⟨bb4, .cells ((((rw4.set y2_0.toNat [.int .i64 x4.Sub.Id, .int .i64 x4.Sub.Rev, .string x4.Sub.R.From, .string x4.Sub.R.To, .string x4.Sub.R.To, .bool x4.all]).set y2_0.toNat [.int .i64 x4.Sub.Id, .int .i64 x4.Sub.Rev, .string x4.Sub.R.From, .string x4.Sub.R.To, .string x4.Sub.R.To, .bool (eqB x4.Sub.R.To ByteArray.empty)]).set y2_0.toNat [.int .i64 x4.Sub.Id, .int .i64 x4.Sub.Rev, .string x4.Sub.R.From, .string x4.Sub.R.To, .string (maxS x4.Sub.R.To x10.top), .bool (eqB x4.Sub.R.To ByteArray.empty)]).set y2_0.toNat [.int .i64 x4.Sub.Id, .int .i64 x4.Sub.Rev, .string x4.Sub.R.From, .string x4.Sub.R.To, .string (maxS x4.Sub.R.To x10.top), .bool true]).flatten 58⟩] (.slice (some ⟨bb4, 0, some 0⟩) (setI (setI (setI (setI y2_1 y2_0 (⟨x4.Sub, x4.Sub.R.To, x4.all⟩ : Tsubidx_node)) y2_0 (⟨x4.Sub, x4.Sub.R.To, (eqB x4.Sub.R.To ByteArray.empty)⟩ : Tsubidx_node)) y2_0 (⟨x4.Sub, (maxS x4.Sub.R.To x10.top), (eqB x4.Sub.R.To ByteArray.empty)⟩ : Tsubidx_node)) y2_0 (⟨x4.Sub, (maxS x4.Sub.R.To x10.top), true⟩ : Tsubidx_node)).length (setI (setI (setI (setI y2_1 y2_0 (⟨x4.Sub, x4.Sub.R.To, x4.all⟩ : Tsubidx_node)) y2_0 (⟨x4.Sub, x4.Sub.R.To, (eqB x4.Sub.R.To ByteArray.empty)⟩ : Tsubidx_node)) y2_0 (⟨x4.Sub, (maxS x4.Sub.R.To x10.top), (eqB x4.Sub.R.To ByteArray.empty)⟩ : Tsubidx_node)) y2_0 (⟨x4.Sub, (maxS x4.Sub.R.To x10.top), true⟩ : Tsubidx_node)).length) (setI (setI (setI (setI y2_1 y2_0 (⟨x4.Sub, x4.Sub.R.To, x4.all⟩ : Tsubidx_node)) y2_0 (⟨x4.Sub, x4.Sub.R.To, (eqB x4.Sub.R.To ByteArray.empty)⟩ : Tsubidx_node)) y2_0 (⟨x4.Sub, (maxS x4.Sub.R.To x10.top), (eqB x4.Sub.R.To ByteArray.empty)⟩ : Tsubidx_node)) y2_0 (⟨x4.Sub, (maxS x4.Sub.R.To x10.top), true⟩ : Tsubidx_node)) := AccR.set_ hl12 hR12 rfl hc13
                obtain ⟨hd13, hb13⟩ := flat_at_set (row' := [.int .i64 x4.Sub.Id, .int .i64 x4.Sub.Rev, .string x4.Sub.R.From, .string x4.Sub.R.To, .string (maxS x4.Sub.R.To x10.top), .bool true]) hR12.k hq13 rfl
                have hw13 : ((((rw4.set y2_0.toNat [.int .i64 x4.Sub.Id, .int .i64 x4.Sub.Rev, .string x4.Sub.R.From, .string x4.Sub.R.To, .string x4.Sub.R.To, .bool x4.all]).set y2_0.toNat [.int .i64 x4.Sub.Id, .int .i64 x4.Sub.Rev, .string x4.Sub.R.From, .string x4.Sub.R.To, .string x4.Sub.R.To, .bool (eqB x4.Sub.R.To ByteArray.empty)]).set y2_0.toNat [.int .i64 x4.Sub.Id, .int .i64 x4.Sub.Rev, .string x4.Sub.R.From, .string x4.Sub.R.To, .string (maxS x4.Sub.R.To x10.top), .bool (eqB x4.Sub.R.To ByteArray.empty)]).set y2_0.toNat [.int .i64 x4.Sub.Id, .int .i64 x4.Sub.Rev, .string x4.Sub.R.From, .string x4.Sub.R.To, .string (maxS x4.Sub.R.To x10.top), .bool true])[y2_0.toNat]? = some [.int .i64 x4.Sub.Id, .int .i64 x4.Sub.Rev, .string x4.Sub.R.From, .string x4.Sub.R.To, .string (maxS x4.Sub.R.To x10.top), .bool true] := List.getElem?_set_self hq13
                refine gs_store (vs := [.bool true]) (cs' := ((((rw4.set y2_0.toNat [.int .i64 x4.Sub.Id, .int .i64 x4.Sub.Rev, .string x4.Sub.R.From, .string x4.Sub.R.To, .string x4.Sub.R.To, .bool x4.all]).set y2_0.toNat [.int .i64 x4.Sub.Id, .int .i64 x4.Sub.Rev, .string x4.Sub.R.From, .string x4.Sub.R.To, .string x4.Sub.R.To, .bool (eqB x4.Sub.R.To ByteArray.empty)]).set y2_0.toNat [.int .i64 x4.Sub.Id, .int .i64 x4.Sub.Rev, .string x4.Sub.R.From, .string x4.Sub.R.To, .string (maxS x4.Sub.R.To x10.top), .bool (eqB x4.Sub.R.To ByteArray.empty)]).set y2_0.toNat [.int .i64 x4.Sub.Id, .int .i64 x4.Sub.Rev, .string x4.Sub.R.From, .string x4.Sub.R.To, .string (maxS x4.Sub.R.To x10.top), .bool true]).flatten) (ot rfl) (ot rfl) sz_4 rfl rfl (acc_ble (j := 5) (m := 1) hb12 (by decide)) rfl (flat_splice_part (j := 5) _ _ hR12.k hw12 (Nat.le_of_ble_eq_true rfl)) (.s (.z)) ?_
                refine go_re 11 (v2 := .slice (some ⟨bb4, 0, some 0⟩) (setI (setI (setI (setI y2_1 y2_0 (⟨x4.Sub, x4.Sub.R.To, x4.all⟩ : Tsubidx_node)) y2_0 (⟨x4.Sub, x4.Sub.R.To, (eqB x4.Sub.R.To ByteArray.empty)⟩ : Tsubidx_node)) y2_0 (⟨x4.Sub, (maxS x4.Sub.R.To x10.top), (eqB x4.Sub.R.To ByteArray.empty)⟩ : Tsubidx_node)) y2_0 (⟨x4.Sub, (maxS x4.Sub.R.To x10.top), true⟩ : Tsubidx_node)).length (setI (setI (setI (setI y2_1 y2_0 (⟨x4.Sub, x4.Sub.R.To, x4.all⟩ : Tsubidx_node)) y2_0 (⟨x4.Sub, x4.Sub.R.To, (eqB x4.Sub.R.To ByteArray.empty)⟩ : Tsubidx_node)) y2_0 (⟨x4.Sub, (maxS x4.Sub.R.To x10.top), (eqB x4.Sub.R.To ByteArray.empty)⟩ : Tsubidx_node)) y2_0 (⟨x4.Sub, (maxS x4.Sub.R.To x10.top), true⟩ : Tsubidx_node)).length) rfl (by simp only [setI_len]) ?_
                refine go_re 19 (v2 := .slice (some ⟨bb4, 0, some 0⟩) (setI (setI (setI (setI y2_1 y2_0 (⟨x4.Sub, x4.Sub.R.To, x4.all⟩ : Tsubidx_node)) y2_0 (⟨x4.Sub, x4.Sub.R.To, (eqB x4.Sub.R.To ByteArray.empty)⟩ : Tsubidx_node)) y2_0 (⟨x4.Sub, (maxS x4.Sub.R.To x10.top), (eqB x4.Sub.R.To ByteArray.empty)⟩ : Tsubidx_node)) y2_0 (⟨x4.Sub, (maxS x4.Sub.R.To x10.top), true⟩ : Tsubidx_node)).length (setI (setI (setI (setI y2_1 y2_0 (⟨x4.Sub, x4.Sub.R.To, x4.all⟩ : Tsubidx_node)) y2_0 (⟨x4.Sub, x4.Sub.R.To, (eqB x4.Sub.R.To ByteArray.empty)⟩ : Tsubidx_node)) y2_0 (⟨x4.Sub, (maxS x4.Sub.R.To x10.top), (eqB x4.Sub.R.To ByteArray.empty)⟩ : Tsubidx_node)) y2_0 (⟨x4.Sub, (maxS x4.Sub.R.To x10.top), true⟩ : Tsubidx_node)).length) rfl (by simp only [setI_len]) ?_
                refine go_re 52 (v2 := .slice (some ⟨bb4, 0, some 0⟩) (setI (setI (setI (setI y2_1 y2_0 (⟨x4.Sub, x4.Sub.R.To, x4.all⟩ : Tsubidx_node)) y2_0 (⟨x4.Sub, x4.Sub.R.To, (eqB x4.Sub.R.To ByteArray.empty)⟩ : Tsubidx_node)) y2_0 (⟨x4.Sub, (maxS x4.Sub.R.To x10.top), (eqB x4.Sub.R.To ByteArray.empty)⟩ : Tsubidx_node)) y2_0 (⟨x4.Sub, (maxS x4.Sub.R.To x10.top), true⟩ : Tsubidx_node)).length (setI (setI (setI (setI y2_1 y2_0 (⟨x4.Sub, x4.Sub.R.To, x4.all⟩ : Tsubidx_node)) y2_0 (⟨x4.Sub, x4.Sub.R.To, (eqB x4.Sub.R.To ByteArray.empty)⟩ : Tsubidx_node)) y2_0 (⟨x4.Sub, (maxS x4.Sub.R.To x10.top), (eqB x4.Sub.R.To ByteArray.empty)⟩ : Tsubidx_node)) y2_0 (⟨x4.Sub, (maxS x4.Sub.R.To x10.top), true⟩ : Tsubidx_node)).length) rfl (by simp only [setI_len]) ?_
                refine gs_retell (segs' := [[⟨bp0, .cells [.slice (some ⟨bb4, 0, some 0⟩) (setI (setI (setI (setI y2_1 y2_0 (⟨x4.Sub, x4.Sub.R.To, x4.all⟩ : Tsubidx_node)) y2_0 (⟨x4.Sub, x4.Sub.R.To, (eqB x4.Sub.R.To ByteArray.empty)⟩ : Tsubidx_node)) y2_0 (⟨x4.Sub, (maxS x4.Sub.R.To x10.top), (eqB x4.Sub.R.To ByteArray.empty)⟩ : Tsubidx_node)) y2_0 (⟨x4.Sub, (maxS x4.Sub.R.To x10.top), true⟩ : Tsubidx_node)).length (setI (setI (setI (setI y2_1 y2_0 (⟨x4.Sub, x4.Sub.R.To, x4.all⟩ : Tsubidx_node)) y2_0 (⟨x4.Sub, x4.Sub.R.To, (eqB x4.Sub.R.To ByteArray.empty)⟩ : Tsubidx_node)) y2_0 (⟨x4.Sub, (maxS x4.Sub.R.To x10.top), (eqB x4.Sub.R.To ByteArray.empty)⟩ : Tsubidx_node)) y2_0 (⟨x4.Sub, (maxS x4.Sub.R.To x10.top), true⟩ : Tsubidx_node)).length] 55⟩], [⟨bb4, .cells ((((rw4.set y2_0.toNat [.int .i64 x4.Sub.Id, .int .i64 x4.Sub.Rev, .string x4.Sub.R.From, .string x4.Sub.R.To, .string x4.Sub.R.To, .bool x4.all]).set y2_0.toNat [.int .i64 x4.Sub.Id, .int .i64 x4.Sub.Rev, .string x4.Sub.R.From, .string x4.Sub.R.To, .string x4.Sub.R.To, .bool (eqB x4.Sub.R.To ByteArray.empty)]).set y2_0.toNat [.int .i64 x4.Sub.Id, .int .i64 x4.Sub.Rev, .string x4.Sub.R.From, .string x4.Sub.R.To, .string (maxS x4.Sub.R.To x10.top), .bool (eqB x4.Sub.R.To ByteArray.empty)]).set y2_0.toNat [.int .i64 x4.Sub.Id, .int .i64 x4.Sub.Rev, .string x4.Sub.R.From, .string x4.Sub.R.To, .string (maxS x4.Sub.R.To x10.top), .bool true]).flatten 58⟩]]) (by simp only [setI_len]) ?_
                refine go_nil ?_
                refine go_snil ?_
                obtain rfl := someI hF
                exact Goes.weak (J9 ((some ⟨bb4, 0, some 0⟩), [⟨bb4, .cells ((((rw4.set y2_0.toNat [.int .i64 x4.Sub.Id, .int .i64 x4.Sub.Rev, .string x4.Sub.R.From, .string x4.Sub.R.To, .string x4.Sub.R.To, .bool x4.all]).set y2_0.toNat [.int .i64 x4.Sub.Id, .int .i64 x4.Sub.Rev, .string x4.Sub.R.From, .string x4.Sub.R.To, .string x4.Sub.R.To, .bool (eqB x4.Sub.R.To ByteArray.empty)]).set y2_0.toNat [.int .i64 x4.Sub.Id, .int .i64 x4.Sub.Rev, .string x4.Sub.R.From, .string x4.Sub.R.To, .string (maxS x4.Sub.R.To x10.top), .bool (eqB x4.Sub.R.To ByteArray.empty)]).set y2_0.toNat [.int .i64 x4.Sub.Id, .int .i64 x4.Sub.Rev, .string x4.Sub.R.From, .string x4.Sub.R.To, .string (maxS x4.Sub.R.To x10.top), .bool true]).flatten 58⟩]) _ (HExt.refl _) w2 f13_) (Sub.cons (Sub.cons (Sub.cons (Sub.cons (Sub.cons (Sub.cons (Sub.cons (Sub.cons (Sub.cons (Sub.cons (Sub.cons (Sub.cons (Sub.cons (Sub.cons (Sub.cons (Sub.cons (Sub.cons (Sub.cons (Sub.cons (Sub.cons (Sub.cons (Sub.cons (Sub.cons (Sub.cons (Sub.cons (Sub.cons (Sub.cons (Sub.cons (Sub.nil _) rfl) rfl) rfl) rfl) rfl) rfl) rfl) rfl) rfl) rfl) rfl) rfl) rfl) rfl) rfl) rfl) rfl) rfl) rfl) rfl) rfl) rfl) rfl) rfl) rfl) rfl) rfl) rfl)
              ·
                replace hF := ifF hb11 hF
                refine go_re 63 (v2 := .bool false) rfl (congrArg Value.bool hb11) ?_
                refine go_sop rfl rfl ?_
                refine g_do rfl rfl rfl ?_
                refine gM rfl rfl ?_
                refine go_nil ?_
                refine go_sop rfl rfl ?_
                refine g_do rfl rfl rfl ?_
                refine gr rfl (r_nilck (ot rfl)) ?_
                refine go_nil ?_
                refine go_sop rfl rfl ?_
                refine g_do rfl rfl rfl ?_
                refine gr rfl (r_fa (ot rfl) (fa_55_0 _ _)) ?_
                refine go_nil ?_
                refine go_sop rfl rfl ?_
                refine g_do rfl rfl rfl ?_
                refine gr rfl (r_load (ot rfl) (lm_s (mem_seg 0 rfl) ag_53 rfl)) ?_
                refine go_nil ?_
                refine go_sop rfl rfl ?_
                refine g_do rfl rfl rfl ?_
                refine gM rfl rfl ?_
                refine go_nil ?_
                refine go_sop rfl rfl ?_
                refine g_do rfl rfl rfl ?_
                refine gr rfl (r_bin (ot rfl) (oc rfl) rfl) ?_
                refine go_nil ?_
                refine go_sop rfl rfl ?_
                refine g_do rfl rfl rfl ?_
                replace hF := obind hF
                obtain ⟨x14, hx14, hF⟩ := hF
                obtain ⟨row14, hw14, rc14, hz14, hi14, hd14, hb14⟩ := hR6.at2 hx14
                obtain rfl := rc14
                refine gr rfl (r_ia (ot rfl) (ot rfl) (ia_acc (k := 6) ut_53 sz_58 hz14 hi14)) ?_
                refine go_nil ?_
                refine go_sop rfl rfl ?_
                refine g_do rfl rfl rfl ?_
                refine gr rfl (r_fa (ot rfl) (fa_58_2 _ _)) ?_
                refine go_nil ?_
                refine go_sop rfl rfl ?_
                refine g_do rfl rfl rfl ?_
                refine gr rfl (r_load (ot rfl) (lm_s (mem_seg 1 rfl) ag_4 (acc_cell (j := 5) hd14 rfl))) ?_
                refine go_nil ?_
                refine go_sop rfl rfl ?_
                refine gr rfl (r_pkF (ot rfl) (ot rfl)) ?_
                refine go_nil ?_
                refine go_sop rfl rfl ?_
                refine gr rfl (r_nilck (ot rfl)) ?_
                refine go_nil ?_
                refine go_sop rfl rfl ?_
                refine gr rfl (r_fa (ot rfl) (fa_58_1 _ _)) ?_
                refine go_nil ?_
                refine go_sop rfl rfl ?_
                have hc15 : R_Tsubidx_node.C h2 [.int .i64 x4.Sub.Id, .int .i64 x4.Sub.Rev, .string x4.Sub.R.From, .string x4.Sub.R.To, .string (maxS x4.Sub.R.To x10.top), .bool (eqB x4.Sub.R.To ByteArray.empty)] (⟨x4.Sub, (maxS x4.Sub.R.To x10.top), (eqB x4.Sub.R.To ByteArray.empty)⟩ : Tsubidx_node) := rfl
                have hR15 : Rws R_Tsubidx_node h2 (((rw4.set y2_0.toNat [.int .i64 x4.Sub.Id, .int .i64 x4.Sub.Rev, .string x4.Sub.R.From, .string x4.Sub.R.To, .string x4.Sub.R.To, .bool x4.all]).set y2_0.toNat [.int .i64 x4.Sub.Id, .int .i64 x4.Sub.Rev, .string x4.Sub.R.From, .string x4.Sub.R.To, .string x4.Sub.R.To, .bool (eqB x4.Sub.R.To ByteArray.empty)]).set y2_0.toNat [.int .i64 x4.Sub.Id, .int .i64 x4.Sub.Rev, .string x4.Sub.R.From, .string x4.Sub.R.To, .string (maxS x4.Sub.R.To x10.top), .bool (eqB x4.Sub.R.To ByteArray.empty)]) (setI (setI (setI y2_1 y2_0 (⟨x4.Sub, x4.Sub.R.To, x4.all⟩ : Tsubidx_node)) y2_0 (⟨x4.Sub, x4.Sub.R.To, (eqB x4.Sub.R.To ByteArray.empty)⟩ : Tsubidx_node)) y2_0 (⟨x4.Sub, (maxS x4.Sub.R.To x10.top), (eqB x4.Sub.R.To ByteArray.empty)⟩ : Tsubidx_node)) := Rws.set hR6 hc15 _
                have hq15 := (List.getElem?_eq_some_iff.mp hw6).1
                have hl15 : (setI (setI (setI y2_1 y2_0 (⟨x4.Sub, x4.Sub.R.To, x4.all⟩ : Tsubidx_node)) y2_0 (⟨x4.Sub, x4.Sub.R.To, (eqB x4.Sub.R.To ByteArray.empty)⟩ : Tsubidx_node)) y2_0 (⟨x4.Sub, (maxS x4.Sub.R.To x10.top), (eqB x4.Sub.R.To ByteArray.empty)⟩ : Tsubidx_node)).length < 9223372036854775808 := by rw [setI_len]; exact hl6
                have f15_ : AccR R_Tsubidx_node 58 h2 [⟨bb4, .cells (((rw4.set y2_0.toNat [.int .i64 x4.Sub.Id, .int .i64 x4.Sub.Rev, .string x4.Sub.R.From, .string x4.Sub.R.To, .string x4.Sub.R.To, .bool x4.all]).set y2_0.toNat [.int .i64 x4.Sub.Id, .int .i64 x4.Sub.Rev, .string x4.Sub.R.From, .string x4.Sub.R.To, .string x4.Sub.R.To, .bool (eqB x4.Sub.R.To ByteArray.empty)]).set y2_0.toNat [.int .i64 x4.Sub.Id, .int .i64 x4.Sub.Rev, .string x4.Sub.R.From, .string x4.Sub.R.To, .string (maxS x4.Sub.R.To x10.top), .bool (eqB x4.Sub.R.To ByteArray.empty)]).flatten 58⟩] (.slice (some ⟨bb4, 0, some 0⟩) (setI (setI (setI y2_1 y2_0 (⟨x4.Sub, x4.Sub.R.To, x4.all⟩ : Tsubidx_node)) y2_0 (⟨x4.Sub, x4.Sub.R.To, (eqB x4.Sub.R.To ByteArray.empty)⟩ : Tsubidx_node)) y2_0 (⟨x4.Sub, (maxS x4.Sub.R.To x10.top), (eqB x4.Sub.R.To ByteArray.empty)⟩ : Tsubidx_node)).length (setI (setI (setI y2_1 y2_0 (⟨x4.Sub, x4.Sub.R.To, x4.all⟩ : Tsubidx_node)) y2_0 (⟨x4.Sub, x4.Sub.R.To, (eqB x4.Sub.R.To ByteArray.empty)⟩ : Tsubidx_node)) y2_0 (⟨x4.Sub, (maxS x4.Sub.R.To x10.top), (eqB x4.Sub.R.To ByteArray.empty)⟩ : Tsubidx_node)).length) (setI (setI (setI y2_1 y2_0 (⟨x4.Sub, x4.Sub.R.To, x4.all⟩ : Tsubidx_node)) y2_0 (⟨x4.Sub, x4.Sub.R.To, (eqB x4.Sub.R.To ByteArray.empty)⟩ : Tsubidx_node)) y2_0 (⟨x4.Sub, (maxS x4.Sub.R.To x10.top), (eqB x4.Sub.R.To ByteArray.empty)⟩ : Tsubidx_node)) := AccR.set_ hl6 hR6 rfl hc15
                obtain ⟨hd15, hb15⟩ := flat_at_set (row' := [.int .i64 x4.Sub.Id, .int .i64 x4.Sub.Rev, .string x4.Sub.R.From, .string x4.Sub.R.To, .string (maxS x4.Sub.R.To x10.top), .bool (eqB x4.Sub.R.To ByteArray.empty)]) hR6.k hq15 rfl
                have hw15 : (((rw4.set y2_0.toNat [.int .i64 x4.Sub.Id, .int .i64 x4.Sub.Rev, .string x4.Sub.R.From, .string x4.Sub.R.To, .string x4.Sub.R.To, .bool x4.all]).set y2_0.toNat [.int .i64 x4.Sub.Id, .int .i64 x4.Sub.Rev, .string x4.Sub.R.From, .string x4.Sub.R.To, .string x4.Sub.R.To, .bool (eqB x4.Sub.R.To ByteArray.empty)]).set y2_0.toNat [.int .i64 x4.Sub.Id, .int .i64 x4.Sub.Rev, .string x4.Sub.R.From, .string x4.Sub.R.To, .string (maxS x4.Sub.R.To x10.top), .bool (eqB x4.Sub.R.To ByteArray.empty)])[y2_0.toNat]? = some [.int .i64 x4.Sub.Id, .int .i64 x4.Sub.Rev, .string x4.Sub.R.From, .string x4.Sub.R.To, .string (maxS x4.Sub.R.To x10.top), .bool (eqB x4.Sub.R.To ByteArray.empty)] := List.getElem?_set_self hq15
                refine gs_store (vs := [.string (maxS x4.Sub.R.To x10.top)]) (cs' := (((rw4.set y2_0.toNat [.int .i64 x4.Sub.Id, .int .i64 x4.Sub.Rev, .string x4.Sub.R.From, .string x4.Sub.R.To, .string x4.Sub.R.To, .bool x4.all]).set y2_0.toNat [.int .i64 x4.Sub.Id, .int .i64 x4.Sub.Rev, .string x4.Sub.R.From, .string x4.Sub.R.To, .string x4.Sub.R.To, .bool (eqB x4.Sub.R.To ByteArray.empty)]).set y2_0.toNat [.int .i64 x4.Sub.Id, .int .i64 x4.Sub.Rev, .string x4.Sub.R.From, .string x4.Sub.R.To, .string (maxS x4.Sub.R.To x10.top), .bool (eqB x4.Sub.R.To ByteArray.empty)]).flatten) (ot rfl) (ot rfl) sz_9 rfl rfl (acc_ble (j := 4) (m := 1) hb6 (by decide)) rfl (flat_splice_part (j := 4) _ _ hR6.k hw6 (Nat.le_of_ble_eq_true rfl)) (.s (.z)) ?_
                refine go_re 11 (v2 := .slice (some ⟨bb4, 0, some 0⟩) (setI (setI (setI y2_1 y2_0 (⟨x4.Sub, x4.Sub.R.To, x4.all⟩ : Tsubidx_node)) y2_0 (⟨x4.Sub, x4.Sub.R.To, (eqB x4.Sub.R.To ByteArray.empty)⟩ : Tsubidx_node)) y2_0 (⟨x4.Sub, (maxS x4.Sub.R.To x10.top), (eqB x4.Sub.R.To ByteArray.empty)⟩ : Tsubidx_node)).length (setI (setI (setI y2_1 y2_0 (⟨x4.Sub, x4.Sub.R.To, x4.all⟩ : Tsubidx_node)) y2_0 (⟨x4.Sub, x4.Sub.R.To, (eqB x4.Sub.R.To ByteArray.empty)⟩ : Tsubidx_node)) y2_0 (⟨x4.Sub, (maxS x4.Sub.R.To x10.top), (eqB x4.Sub.R.To ByteArray.empty)⟩ : Tsubidx_node)).length) rfl (by simp only [setI_len]) ?_
                refine go_re 19 (v2 := .slice (some ⟨bb4, 0, some 0⟩) (setI (setI (setI y2_1 y2_0 (⟨x4.Sub, x4.Sub.R.To, x4.all⟩ : Tsubidx_node)) y2_0 (⟨x4.Sub, x4.Sub.R.To, (eqB x4.Sub.R.To ByteArray.empty)⟩ : Tsubidx_node)) y2_0 (⟨x4.Sub, (maxS x4.Sub.R.To x10.top), (eqB x4.Sub.R.To ByteArray.empty)⟩ : Tsubidx_node)).length (setI (setI (setI y2_1 y2_0 (⟨x4.Sub, x4.Sub.R.To, x4.all⟩ : Tsubidx_node)) y2_0 (⟨x4.Sub, x4.Sub.R.To, (eqB x4.Sub.R.To ByteArray.empty)⟩ : Tsubidx_node)) y2_0 (⟨x4.Sub, (maxS x4.Sub.R.To x10.top), (eqB x4.Sub.R.To ByteArray.empty)⟩ : Tsubidx_node)).length) rfl (by simp only [setI_len]) ?_
                refine go_re 52 (v2 := .slice (some ⟨bb4, 0, some 0⟩) (setI (setI (setI y2_1 y2_0 (⟨x4.Sub, x4.Sub.R.To, x4.all⟩ : Tsubidx_node)) y2_0 (⟨x4.Sub, x4.Sub.R.To, (eqB x4.Sub.R.To ByteArray.empty)⟩ : Tsubidx_node)) y2_0 (⟨x4.Sub, (maxS x4.Sub.R.To x10.top), (eqB x4.Sub.R.To ByteArray.empty)⟩ : Tsubidx_node)).length (setI (setI (setI y2_1 y2_0 (⟨x4.Sub, x4.Sub.R.To, x4.all⟩ : Tsubidx_node)) y2_0 (⟨x4.Sub, x4.Sub.R.To, (eqB x4.Sub.R.To ByteArray.empty)⟩ : Tsubidx_node)) y2_0 (⟨x4.Sub, (maxS x4.Sub.R.To x10.top), (eqB x4.Sub.R.To ByteArray.empty)⟩ : Tsubidx_node)).length) rfl (by simp only [setI_len]) ?_
                refine go_re 67 (v2 := .slice (some ⟨bb4, 0, some 0⟩) (setI (setI (setI y2_1 y2_0 (⟨x4.Sub, x4.Sub.R.To, x4.all⟩ : Tsubidx_node)) y2_0 (⟨x4.Sub, x4.Sub.R.To, (eqB x4.Sub.R.To ByteArray.empty)⟩ : Tsubidx_node)) y2_0 (⟨x4.Sub, (maxS x4.Sub.R.To x10.top), (eqB x4.Sub.R.To ByteArray.empty)⟩ : Tsubidx_node)).length (setI (setI (setI y2_1 y2_0 (⟨x4.Sub, x4.Sub.R.To, x4.all⟩ : Tsubidx_node)) y2_0 (⟨x4.Sub, x4.Sub.R.To, (eqB x4.Sub.R.To ByteArray.empty)⟩ : Tsubidx_node)) y2_0 (⟨x4.Sub, (maxS x4.Sub.R.To x10.top), (eqB x4.Sub.R.To ByteArray.empty)⟩ : Tsubidx_node)).length) rfl (by simp only [setI_len]) ?_
                refine gs_retell (segs' := [[⟨bp0, .cells [.slice (some ⟨bb4, 0, some 0⟩) (setI (setI (setI y2_1 y2_0 (⟨x4.Sub, x4.Sub.R.To, x4.all⟩ : Tsubidx_node)) y2_0 (⟨x4.Sub, x4.Sub.R.To, (eqB x4.Sub.R.To ByteArray.empty)⟩ : Tsubidx_node)) y2_0 (⟨x4.Sub, (maxS x4.Sub.R.To x10.top), (eqB x4.Sub.R.To ByteArray.empty)⟩ : Tsubidx_node)).length (setI (setI (setI y2_1 y2_0 (⟨x4.Sub, x4.Sub.R.To, x4.all⟩ : Tsubidx_node)) y2_0 (⟨x4.Sub, x4.Sub.R.To, (eqB x4.Sub.R.To ByteArray.empty)⟩ : Tsubidx_node)) y2_0 (⟨x4.Sub, (maxS x4.Sub.R.To x10.top), (eqB x4.Sub.R.To ByteArray.empty)⟩ : Tsubidx_node)).length] 55⟩], [⟨bb4, .cells (((rw4.set y2_0.toNat [.int .i64 x4.Sub.Id, .int .i64 x4.Sub.Rev, .string x4.Sub.R.From, .string x4.Sub.R.To, .string x4.Sub.R.To, .bool x4.all]).set y2_0.toNat [.int .i64 x4.Sub.Id, .int .i64 x4.Sub.Rev, .string x4.Sub.R.From, .string x4.Sub.R.To, .string x4.Sub.R.To, .bool (eqB x4.Sub.R.To ByteArray.empty)]).set y2_0.toNat [.int .i64 x4.Sub.Id, .int .i64 x4.Sub.Rev, .string x4.Sub.R.From, .string x4.Sub.R.To, .string (maxS x4.Sub.R.To x10.top), .bool (eqB x4.Sub.R.To ByteArray.empty)]).flatten 58⟩]]) (by simp only [setI_len]) ?_
                refine go_nil ?_
                refine go_sop rfl rfl ?_
                refine gr rfl (r_nilck (ot rfl)) ?_
                refine go_nil ?_
                refine go_sop rfl rfl ?_
                refine gr rfl (r_fa (ot rfl) (fa_58_2 _ _)) ?_
                refine go_nil ?_
                refine go_sop rfl rfl ?_
                have hc16 : R_Tsubidx_node.C h2 [.int .i64 x4.Sub.Id, .int .i64 x4.Sub.Rev, .string x4.Sub.R.From, .string x4.Sub.R.To, .string (maxS x4.Sub.R.To x10.top), .bool x14.all] (⟨x4.Sub, (maxS x4.Sub.R.To x10.top), x14.all⟩ : Tsubidx_node) := rfl
                have hR16 : Rws R_Tsubidx_node h2 ((((rw4.set y2_0.toNat [.int .i64 x4.Sub.Id, .int .i64 x4.Sub.Rev, .string x4.Sub.R.From, .string x4.Sub.R.To, .string x4.Sub.R.To, .bool x4.all]).set y2_0.toNat [.int .i64 x4.Sub.Id, .int .i64 x4.Sub.Rev, .string x4.Sub.R.From, .string x4.Sub.R.To, .string x4.Sub.R.To, .bool (eqB x4.Sub.R.To ByteArray.empty)]).set y2_0.toNat [.int .i64 x4.Sub.Id, .int .i64 x4.Sub.Rev, .string x4.Sub.R.From, .string x4.Sub.R.To, .string (maxS x4.Sub.R.To x10.top), .bool (eqB x4.Sub.R.To ByteArray.empty)]).set y2_0.toNat [.int .i64 x4.Sub.Id, .int .i64 x4.Sub.Rev, .string x4.Sub.R.From, .string x4.Sub.R.To, .string (maxS x4.Sub.R.To x10.top), .bool x14.all]) (setI (setI (setI (setI y2_1 y2_0 (⟨x4.Sub, x4.Sub.R.To, x4.all⟩ : Tsubidx_node)) y2_0 (⟨x4.Sub, x4.Sub.R.To, (eqB x4.Sub.R.To ByteArray.empty)⟩ : Tsubidx_node)) y2_0 (⟨x4.Sub, (maxS x4.Sub.R.To x10.top), (eqB x4.Sub.R.To ByteArray.empty)⟩ : Tsubidx_node)) y2_0 (⟨x4.Sub, (maxS x4.Sub.R.To x10.top), x14.all⟩ : Tsubidx_node)) := Rws.set hR15 hc16 _
                have hq16 := (List.getElem?_eq_some_iff.mp hw15).1
                have hl16 : (setI (setI (setI (setI y2_1 y2_0 (⟨x4.Sub, x4.Sub.R.To, x4.all⟩ : Tsubidx_node)) y2_0 (⟨x4.Sub, x4.Sub.R.To, (eqB x4.Sub.R.To ByteArray.empty)⟩ : Tsubidx_node)) y2_0 (⟨x4.Sub, (maxS x4.Sub.R.To x10.top), (eqB x4.Sub.R.To ByteArray.empty)⟩ : Tsubidx_node)) y2_0 (⟨x4.Sub, (maxS x4.Sub.R.To x10.top), x14.all⟩ : Tsubidx_node)).length < 9223372036854775808 := by rw [setI_len]; exact hl15
                have f16_ : AccR R_Tsubidx_node 58 h2 [⟨bb4, .cells ((((rw4.set y2_0.toNat [.int .i64 x4.Sub.Id, .int .i64 x4.Sub.Rev, .string x4.Sub.R.From, .string x4.Sub.R.To, .string x4.Sub.R.To, .bool x4.all]).set y2_0.toNat [.int .i64 x4.Sub.Id, .int .i64 x4.Sub.Rev, .string x4.Sub.R.From, .string x4.Sub.R.To, .string x4.Sub.R.To, .bool (eqB x4.Sub.R.To ByteArray.empty)]).set y2_0.toNat [.int .i64 x4.Sub.Id, .int .i64 x4.Sub.Rev, .string x4.Sub.R.From, .string x4.Sub.R.To, .string (maxS x4.Sub.R.To x10.top), .bool (eqB x4.Sub.R.To ByteArray.empty)]).set y2_0.toNat [.int .i64 x4.Sub.Id, .int .i64 x4.Sub.Rev, .string x4.Sub.R.From, .string x4.Sub.R.To, .string (maxS x4.Sub.R.To x10.top), .bool x14.all]).flatten 58⟩] (.slice (some ⟨bb4, 0, some 0⟩) (setI (setI (setI (setI y2_1 y2_0 (⟨x4.Sub, x4.Sub.R.To, x4.all⟩ : Tsubidx_node)) y2_0 (⟨x4.Sub, x4.Sub.R.To, (eqB x4.Sub.R.To ByteArray.empty)⟩ : Tsubidx_node)) y2_0 (⟨x4.Sub, (maxS x4.Sub.R.To x10.top), (eqB x4.Sub.R.To ByteArray.empty)⟩ : Tsubidx_node)) y2_0 (⟨x4.Sub, (maxS x4.Sub.R.To x10.top), x14.all⟩ : Tsubidx_node)).length (setI (setI (setI (setI y2_1 y2_0 (⟨x4.Sub, x4.Sub.R.To, x4.all⟩ : Tsubidx_node)) y2_0 (⟨x4.Sub, x4.Sub.R.To, (eqB x4.Sub.R.To ByteArray.empty)⟩ : Tsubidx_node)) y2_0 (⟨x4.Sub, (maxS x4.Sub.R.To x10.top), (eqB x4.Sub.R.To ByteArray.empty)⟩ : Tsubidx_node)) y2_0 (⟨x4.Sub, (maxS x4.Sub.R.To x10.top), x14.all⟩ : Tsubidx_node)).length) (setI (setI (setI (setI y2_1 y2_0 (⟨x4.Sub, x4.Sub.R.To, x4.all⟩ : Tsubidx_node)) y2_0 (⟨x4.Sub, x4.Sub.R.To, (eqB x4.Sub.R.To ByteArray.empty)⟩ : Tsubidx_node)) y2_0 (⟨x4.Sub, (maxS x4.Sub.R.To x10.top), (eqB x4.Sub.R.To ByteArray.empty)⟩ : Tsubidx_node)) y2_0 (⟨x4.Sub, (maxS x4.Sub.R.To x10.top), x14.all⟩ : Tsubidx_node)) := AccR.set_ hl15 hR15 rfl hc16
                obtain ⟨hd16, hb16⟩ := flat_at_set (row' := [.int .i64 x4.Sub.Id, .int .i64 x4.Sub.Rev, .string x4.Sub.R.From, .string x4.Sub.R.To, .string (maxS x4.Sub.R.To x10.top), .bool x14.all]) hR15.k hq16 rfl
                have hw16 : ((((rw4.set y2_0.toNat [.int .i64 x4.Sub.Id, .int .i64 x4.Sub.Rev, .string x4.Sub.R.From, .string x4.Sub.R.To, .string x4.Sub.R.To, .bool x4.all]).set y2_0.toNat [.int .i64 x4.Sub.Id, .int .i64 x4.Sub.Rev, .string x4.Sub.R.From, .string x4.Sub.R.To, .string x4.Sub.R.To, .bool (eqB x4.Sub.R.To ByteArray.empty)]).set y2_0.toNat [.int .i64 x4.Sub.Id, .int .i64 x4.Sub.Rev, .string x4.Sub.R.From, .string x4.Sub.R.To, .string (maxS x4.Sub.R.To x10.top), .bool (eqB x4.Sub.R.To ByteArray.empty)]).set y2_0.toNat [.int .i64 x4.Sub.Id, .int .i64 x4.Sub.Rev, .string x4.Sub.R.From, .string x4.Sub.R.To, .string (maxS x4.Sub.R.To x10.top), .bool x14.all])[y2_0.toNat]? = some [.int .i64 x4.Sub.Id, .int .i64 x4.Sub.Rev, .string x4.Sub.R.From, .string x4.Sub.R.To, .string (maxS x4.Sub.R.To x10.top), .bool x14.all] := List.getElem?_set_self hq16
                refine gs_store (vs := [.bool x14.all]) (cs' := ((((rw4.set y2_0.toNat [.int .i64 x4.Sub.Id, .int .i64 x4.Sub.Rev, .string x4.Sub.R.From, .string x4.Sub.R.To, .string x4.Sub.R.To, .bool x4.all]).set y2_0.toNat [.int .i64 x4.Sub.Id, .int .i64 x4.Sub.Rev, .string x4.Sub.R.From, .string x4.Sub.R.To, .string x4.Sub.R.To, .bool (eqB x4.Sub.R.To ByteArray.empty)]).set y2_0.toNat [.int .i64 x4.Sub.Id, .int .i64 x4.Sub.Rev, .string x4.Sub.R.From, .string x4.Sub.R.To, .string (maxS x4.Sub.R.To x10.top), .bool (eqB x4.Sub.R.To ByteArray.empty)]).set y2_0.toNat [.int .i64 x4.Sub.Id, .int .i64 x4.Sub.Rev, .string x4.Sub.R.From, .string x4.Sub.R.To, .string (maxS x4.Sub.R.To x10.top), .bool x14.all]).flatten) (ot rfl) (ot rfl) sz_4 rfl rfl (acc_ble (j := 5) (m := 1) hb15 (by decide)) rfl (flat_splice_part (j := 5) _ _ hR15.k hw15 (Nat.le_of_ble_eq_true rfl)) (.s (.z)) ?_
                refine go_re 11 (v2 := .slice (some ⟨bb4, 0, some 0⟩) (setI (setI (setI (setI y2_1 y2_0 (⟨x4.Sub, x4.Sub.R.To, x4.all⟩ : Tsubidx_node)) y2_0 (⟨x4.Sub, x4.Sub.R.To, (eqB x4.Sub.R.To ByteArray.empty)⟩ : Tsubidx_node)) y2_0 (⟨x4.Sub, (maxS x4.Sub.R.To x10.top), (eqB x4.Sub.R.To ByteArray.empty)⟩ : Tsubidx_node)) y2_0 (⟨x4.Sub, (maxS x4.Sub.R.To x10.top), x14.all⟩ : Tsubidx_node)).length (setI (setI (setI (setI y2_1 y2_0 (⟨x4.Sub, x4.Sub.R.To, x4.all⟩ : Tsubidx_node)) y2_0 (⟨x4.Sub, x4.Sub.R.To, (eqB x4.Sub.R.To ByteArray.empty)⟩ : Tsubidx_node)) y2_0 (⟨x4.Sub, (maxS x4.Sub.R.To x10.top), (eqB x4.Sub.R.To ByteArray.empty)⟩ : Tsubidx_node)) y2_0 (⟨x4.Sub, (maxS x4.Sub.R.To x10.top), x14.all⟩ : Tsubidx_node)).length) rfl (by simp only [setI_len]) ?_
                refine go_re 19 (v2 := .slice (some ⟨bb4, 0, some 0⟩) (setI (setI (setI (setI y2_1 y2_0 (⟨x4.Sub, x4.Sub.R.To, x4.all⟩ : Tsubidx_node)) y2_0 (⟨x4.Sub, x4.Sub.R.To, (eqB x4.Sub.R.To ByteArray.empty)⟩ : Tsubidx_node)) y2_0 (⟨x4.Sub, (maxS x4.Sub.R.To x10.top), (eqB x4.Sub.R.To ByteArray.empty)⟩ : Tsubidx_node)) y2_0 (⟨x4.Sub, (maxS x4.Sub.R.To x10.top), x14.all⟩ : Tsubidx_node)).length (setI (setI (setI (setI y2_1 y2_0 (⟨x4.Sub, x4.Sub.R.To, x4.all⟩ : Tsubidx_node)) y2_0 (⟨x4.Sub, x4.Sub.R.To, (eqB x4.Sub.R.To ByteArray.empty)⟩ : Tsubidx_node)) y2_0 (⟨x4.Sub, (maxS x4.Sub.R.To x10.top), (eqB x4.Sub.R.To ByteArray.empty)⟩ : Tsubidx_node)) y2_0 (⟨x4.Sub, (maxS x4.Sub.R.To x10.top), x14.all⟩ : Tsubidx_node)).length) rfl (by simp only [setI_len]) ?_
                refine go_re 52 (v2 := .slice (some ⟨bb4, 0, some 0⟩) (setI (setI (setI (setI y2_1 y2_0 (⟨x4.Sub, x4.Sub.R.To, x4.all⟩ : Tsubidx_node)) y2_0 (⟨x4.Sub, x4.Sub.R.To, (eqB x4.Sub.R.To ByteArray.empty)⟩ : Tsubidx_node)) y2_0 (⟨x4.Sub, (maxS x4.Sub.R.To x10.top), (eqB x4.Sub.R.To ByteArray.empty)⟩ : Tsubidx_node)) y2_0 (⟨x4.Sub, (maxS x4.Sub.R.To x10.top), x14.all⟩ : Tsubidx_node)).length (setI (setI (setI (setI y2_1 y2_0 (⟨x4.Sub, x4.Sub.R.To, x4.all⟩ : Tsubidx_node)) y2_0 (⟨x4.Sub, x4.Sub.R.To, (eqB x4.Sub.R.To ByteArray.empty)⟩ : Tsubidx_node)) y2_0 (⟨x4.Sub, (maxS x4.Sub.R.To x10.top), (eqB x4.Sub.R.To ByteArray.empty)⟩ : Tsubidx_node)) y2_0 (⟨x4.Sub, (maxS x4.Sub.R.To x10.top), x14.all⟩ : Tsubidx_node)).length) rfl (by simp only [setI_len]) ?_
                refine go_re 67 (v2 := .slice (some ⟨bb4, 0, some 0⟩) (setI (setI (setI (setI y2_1 y2_0 (⟨x4.Sub, x4.Sub.R.To, x4.all⟩ : Tsubidx_node)) y2_0 (⟨x4.Sub, x4.Sub.R.To, (eqB x4.Sub.R.To ByteArray.empty)⟩ : Tsubidx_node)) y2_0 (⟨x4.Sub, (maxS x4.Sub.R.To x10.top), (eqB x4.Sub.R.To ByteArray.empty)⟩ : Tsubidx_node)) y2_0 (⟨x4.Sub, (maxS x4.Sub.R.To x10.top), x14.all⟩ : Tsubidx_node)).length (setI (setI (setI (setI y2_1 y2_0 (⟨x4.Sub, x4.Sub.R.To, x4.all⟩ : Tsubidx_node)) y2_0 (⟨x4.Sub, x4.Sub.R.To, (eqB x4.Sub.R.To ByteArray.empty)⟩ : Tsubidx_node)) y2_0 (⟨x4.Sub, (maxS x4.Sub.R.To x10.top), (eqB x4.Sub.R.To ByteArray.empty)⟩ : Tsubidx_node)) y2_0 (⟨x4.Sub, (maxS x4.Sub.R.To x10.top), x14.all⟩ : Tsubidx_node)).length) rfl (by simp only [setI_len]) ?_
                refine gs_retell (segs' := [[⟨bp0, .cells [.slice (some ⟨bb4, 0, some 0⟩) (setI (setI (setI (setI y2_1 y2_0 (⟨x4.Sub, x4.Sub.R.To, x4.all⟩ : Tsubidx_node)) y2_0 (⟨x4.Sub, x4.Sub.R.To, (eqB x4.Sub.R.To ByteArray.empty)⟩ : Tsubidx_node)) y2_0 (⟨x4.Sub, (maxS x4.Sub.R.To x10.top), (eqB x4.Sub.R.To ByteArray.empty)⟩ : Tsubidx_node)) y2_0 (⟨x4.Sub, (maxS x4.Sub.R.To x10.top), x14.all⟩ : Tsubidx_node)).length (setI (setI (setI (setI y2_1 y2_0 (⟨x4.Sub, x4.Sub.R.To, x4.all⟩ : Tsubidx_node)) y2_0 (⟨x4.Sub, x4.Sub.R.To, (eqB x4.Sub.R.To ByteArray.empty)⟩ : Tsubidx_node)) y2_0 (⟨x4.Sub, (maxS x4.Sub.R.To x10.top), (eqB x4.Sub.R.To ByteArray.empty)⟩ : Tsubidx_node)) y2_0 (⟨x4.Sub, (maxS x4.Sub.R.To x10.top), x14.all⟩ : Tsubidx_node)).length] 55⟩], [⟨bb4, .cells ((((rw4.set y2_0.toNat [.int .i64 x4.Sub.Id, .int .i64 x4.Sub.Rev, .string x4.Sub.R.From, .string x4.Sub.R.To, .string x4.Sub.R.To, .bool x4.all]).set y2_0.toNat [.int .i64 x4.Sub.Id, .int .i64 x4.Sub.Rev, .string x4.Sub.R.From, .string x4.Sub.R.To, .string x4.Sub.R.To, .bool (eqB x4.Sub.R.To ByteArray.empty)]).set y2_0.toNat [.int .i64 x4.Sub.Id, .int .i64 x4.Sub.Rev, .string x4.Sub.R.From, .string x4.Sub.R.To, .string (maxS x4.Sub.R.To x10.top), .bool (eqB x4.Sub.R.To ByteArray.empty)]).set y2_0.toNat [.int .i64 x4.Sub.Id, .int .i64 x4.Sub.Rev, .string x4.Sub.R.From, .string x4.Sub.R.To, .string (maxS x4.Sub.R.To x10.top), .bool x14.all]).flatten 58⟩]]) (by simp only [setI_len]) ?_
                refine go_nil ?_
                refine go_snil ?_
                obtain rfl := someI hF
                exact Goes.weak (J9 ((some ⟨bb4, 0, some 0⟩), [⟨bb4, .cells ((((rw4.set y2_0.toNat [.int .i64 x4.Sub.Id, .int .i64 x4.Sub.Rev, .string x4.Sub.R.From, .string x4.Sub.R.To, .string x4.Sub.R.To, .bool x4.all]).set y2_0.toNat [.int .i64 x4.Sub.Id, .int .i64 x4.Sub.Rev, .string x4.Sub.R.From, .string x4.Sub.R.To, .string x4.Sub.R.To, .bool (eqB x4.Sub.R.To ByteArray.empty)]).set y2_0.toNat [.int .i64 x4.Sub.Id, .int .i64 x4.Sub.Rev, .string x4.Sub.R.From, .string x4.Sub.R.To, .string (maxS x4.Sub.R.To x10.top), .bool (eqB x4.Sub.R.To ByteArray.empty)]).set y2_0.toNat [.int .i64 x4.Sub.Id, .int .i64 x4.Sub.Rev, .string x4.Sub.R.From, .string x4.Sub.R.To, .string (maxS x4.Sub.R.To x10.top), .bool x14.all]).flatten 58⟩]) _ (HExt.refl _) w2 f16_) (Sub.cons (Sub.cons (Sub.cons (Sub.cons (Sub.cons (Sub.cons (Sub.cons (Sub.cons (Sub.cons (Sub.cons (Sub.cons (Sub.cons (Sub.cons (Sub.cons (Sub.cons (Sub.cons (Sub.cons (Sub.cons (Sub.cons (Sub.cons (Sub.cons (Sub.cons (Sub.cons (Sub.cons (Sub.cons (Sub.cons (Sub.cons (Sub.cons (Sub.nil _) rfl) rfl) rfl) rfl) rfl) rfl) rfl) rfl) rfl) rfl) rfl) rfl) rfl) rfl) rfl) rfl) rfl) rfl) rfl) rfl) rfl) rfl) rfl) rfl) rfl) rfl) rfl) rfl)
          ·
            replace hF := ifF hc7 hF
            refine go_skip ?_
            obtain rfl := someI hF
            exact Goes.weak (J8 ((some ⟨bb4, 0, some 0⟩), [⟨bb4, .cells ((rw4.set y2_0.toNat [.int .i64 x4.Sub.Id, .int .i64 x4.Sub.Rev, .string x4.Sub.R.From, .string x4.Sub.R.To, .string x4.Sub.R.To, .bool x4.all]).set y2_0.toNat [.int .i64 x4.Sub.Id, .int .i64 x4.Sub.Rev, .string x4.Sub.R.From, .string x4.Sub.R.To, .string x4.Sub.R.To, .bool (eqB x4.Sub.R.To ByteArray.empty)]).flatten 58⟩]) _ (HExt.refl _) w2 f6_) (Sub.cons (Sub.cons (Sub.cons (Sub.cons (Sub.cons (Sub.cons (Sub.cons (Sub.cons (Sub.cons (Sub.cons (Sub.cons (Sub.cons (Sub.cons (Sub.cons (Sub.cons (Sub.cons (Sub.cons (Sub.cons (Sub.cons (Sub.nil _) rfl) rfl) rfl) rfl) rfl) rfl) rfl) rfl) rfl) rfl) rfl) rfl) rfl) rfl) rfl) rfl) rfl) rfl) rfl)
      ·
        replace hF := ifF hc3 hF
        refine go_exit rfl ?_
        obtain rfl := someI hF
        exact Goes.weak (J1 (a2_0, a2_1) _ e2 w2 f2_1) (Sub.nil _)
theorem s_subidx_Index_Add (n : Nat) {h : Heap} (hw : Wf h) (p0 : Osubidx_Index) (p1 : Tsubidx_Sub) {bp0 : Nat} {q0_0 : Option Addr} {t0_0 : List Blk} (f0_0 : AccR R_Tsubidx_node 58 h t0_0 (.slice q0_0 p0.l.length p0.l.length) p0.l) {r : Int × Osubidx_Index} (hF : F_subidx_Index_Add n p0 p1 = some r) :
    EvO EE 11 [.pointer (some ⟨bp0, 0, none⟩), .agg #[.int .i64 p1.Id, .int .i64 p1.Rev, .string p1.R.From, .string p1.R.To]] [[⟨bp0, .cells [.slice q0_0 p0.l.length p0.l.length] 55⟩], t0_0] h (fun v S h1 => ∃ qy0_0 ty0_0, v = .int .i64 r.1 ∧ S = [[⟨bp0, .cells [.slice qy0_0 r.2.l.length r.2.l.length] 55⟩], ty0_0] ∧ AccR R_Tsubidx_node 58 h1 ty0_0 (.slice qy0_0 r.2.l.length r.2.l.length) r.2.l) := by
  unfold F_subidx_Index_Add at hF
  refine evo_of rfl at_11 rfl rfl ?_
  refine go_seq ?_
  refine go_region ?_
  refine gs_box rfl (ot rfl) rfl ?_; intro b3_1
  refine gAc rfl rfl ?_
  refine go_nil ?_
  refine go_seq ?_
  refine go_block ?_
  refine go_seq ?_
  refine go_region ?_
  refine gM rfl rfl ?_
  refine gr rfl (r_bin (v := .bool false) (ot rfl) (oc rfl) (by first | rfl | kernel_rfl)) ?_
  refine gM rfl rfl ?_
  refine g_do rfl rfl rfl ?_
  refine gr rfl (r_fa (ot rfl) (fa_32_2 _ _)) ?_
  refine g_do rfl rfl rfl ?_
  refine gr rfl (r_load (ot rfl) (lm_a (vs := [_, _]) (mem_seg 0 rfl) ag_25 sz_25 rfl rfl)) ?_
  refine g_do rfl rfl rfl ?_
  replace hF := obind hF
  obtain ⟨x2, hx2, hF⟩ := hF
  refine g_callp (v := .bool x2) EE_fr rfl of (os1 (ot rfl) os0) hb_22 (fun _ => rfl) (fun hf kn w => by exact s_key_Empty w p1.R  hx2) ?_
  refine gr rfl (r_pkF (ot rfl) (ot rfl)) ?_
  refine gA rfl rfl ?_
  refine go_nil ?_
  refine g_cond (b := x2) (ot rfl) (fun hc3 => ?_) (fun hc3 => ?_)
  ·
    replace hF := ifT hc3 hF
    refine go_seq ?_
    refine go_region ?_
    refine gAc rfl rfl ?_
    refine go_nil ?_
    obtain rfl := someI hF
    refine gs_sub (.cons _ (.cons_cons _ (.cons_cons _ (.refl _)))) ?_
    exact g_ret (rst rfl rs0) (fun h1 hf hs => ⟨[[⟨bp0, .cells [.slice q0_0 p0.l.length p0.l.length] 55⟩], t0_0], _, hf, (HExt.refl _), hw, hs, (ndb (by intro e; cases e) (ndt f0_0 nd0)), ⟨_, _, rfl, rfl, f0_0⟩⟩)
  ·
    replace hF := ifF hc3 hF
    refine go_seq ?_
    refine go_region ?_
    refine gM rfl rfl ?_
    refine gr rfl (r_fa (ot rfl) (fa_32_0 _ _)) ?_
    refine gr rfl (r_load (ot rfl) (lm_s (mem_seg 0 rfl) ag_3 rfl)) ?_
    replace hF := obind hF
    obtain ⟨x4, hx4, hF⟩ := hF
    refine gs_call EE_fr hw (.cons (.s (.z)) (.cons (.s (.z)) .nil)) (fun _ h => by cases h; rfl) of (os1 (ot rfl) (os1 (ot rfl) os0)) hb_23 (by exact s_subidx_Index_of hw p0 p1.Id f0_0 hx4) ?_
    rintro v4 S4 h4 e4 w4 ⟨q4_y0_0, t4_y0_0, rfl, rfl, f4_0⟩
    simp only [List.cons_append, List.nil_append]
    refine gr rfl (r_bin (ot rfl) (oc rfl) rfl) ?_
    refine gA rfl rfl ?_
    refine go_nil ?_
    refine g_cond (b := (decide (x4.1 ≥ 0))) (ot rfl) (fun hc5 => ?_) (fun hc5 => ?_)
    ·
      replace hF := ifT hc5 hF
      refine go_seq ?_
      refine go_region ?_
      refine gAc rfl rfl ?_
      refine go_nil ?_
      obtain rfl := someI hF
      refine gs_sub (.cons_cons _ (.cons_cons _ (.cons _ (.refl _)))) ?_
      exact g_ret (rst rfl rs0) (fun h1 hf hs => ⟨[[⟨bp0, .cells [.slice q4_y0_0 x4.2.l.length x4.2.l.length] 55⟩], t4_y0_0], _, hf, e4, w4, hs, (ndb (by intro e; cases e) (ndt f4_0 nd0)), ⟨_, _, rfl, rfl, f4_0⟩⟩)
    ·
      replace hF := ifF hc5 hF
      refine go_skip ?_
      refine go_endb ?_
      refine go_seq ?_
      refine go_region ?_
      refine gr rfl (r_load (ot rfl) (lm_w (mem_seg 2 rfl) ag_32 sz_32 rfl)) ?_
      refine gr rfl (r_build (op1 (ot rfl) op0) rfl) ?_
      refine gs_alloc rfl zo_58 rfl ?_; intro b5_6
      refine gs_store (ot rfl) (ot rfl) sz_58 rfl rfl rfl rfl rfl .z ?_
      refine go_nil ?_
      refine go_seq ?_
      refine go_regions (L := [(0, []), (1, []), (2, []), (3, []), (4, []), (5, []), (6, []), (7, []), (8, []), (9, []), (10, [])]) (by kernel_rfl) (by kernel_rfl) (fun _ => rfl) ?_
      refine go_sop rfl rfl ?_
      refine gM rfl rfl ?_
      refine go_nil ?_
      refine go_sop rfl rfl ?_
      refine gr rfl (r_nilck (ot rfl)) ?_
      refine go_nil ?_
      refine go_sop rfl rfl ?_
      refine gr rfl (r_fa (ot rfl) (fa_55_0 _ _)) ?_
      refine go_nil ?_
      refine go_sop rfl rfl ?_
      refine gr rfl (r_load (ot rfl) (lm_s (mem_seg 1 rfl) ag_53 rfl)) ?_
      refine go_nil ?_
      refine go_sop rfl rfl ?_
      refine gr rfl (r_load (ot rfl) (lm_w (mem_seg 0 rfl) ag_58 sz_58 rfl)) ?_
      refine go_nil ?_
      refine go_sop rfl rfl ?_
      replace hF := obind hF
      obtain ⟨x7, hx7, hF⟩ := hF
      refine gs_callb (v := .tuple #[.int .i64 x7.1, .bool x7.2]) EE_fr rfl (.s (.s (.z))) f4_0 rfl of (os1 (ot rfl) (os1 (ot rfl) (os1 of os0))) hb_24 (fun hf kn w fb7 => by exact s_slices_BinarySearchFunc_subidx_compare n w x4.2.l (⟨p1, ByteArray.empty, false⟩ : Tsubidx_node) fb7 hx7) ?_
      refine go_nil ?_
      refine go_sop rfl rfl ?_
      refine gM rfl rfl ?_
      refine go_nil ?_
      refine go_sop rfl rfl ?_
      refine gE rfl rfl rfl ?_
      refine go_nil ?_
      refine go_sop rfl rfl ?_
      refine gE rfl rfl rfl ?_
      refine go_nil ?_
      refine go_sop rfl rfl ?_
      refine gA rfl rfl ?_
      refine go_nil ?_
      refine go_sop rfl rfl ?_
      refine gA rfl rfl ?_
      refine go_nil ?_
      refine go_snil ?_
      refine go_seq ?_
      refine go_regions (L := [(0, []), (1, []), (2, []), (3, []), (4, []), (5, []), (6, []), (7, [4]), (8, []), (9, []), (10, []), (11, [])]) (by kernel_rfl) (by kernel_rfl) (fun _ => rfl) ?_
      refine go_sop rfl rfl ?_
      refine gM rfl rfl ?_
      refine go_nil ?_
      refine go_sop rfl rfl ?_
      refine gM rfl rfl ?_
      refine go_nil ?_
      refine go_sop rfl rfl ?_
      refine gr rfl (r_nilck (ot rfl)) ?_
      refine go_nil ?_
      refine go_sop rfl rfl ?_
      refine gr rfl (r_fa (ot rfl) (fa_55_0 _ _)) ?_
      refine go_nil ?_
      refine go_sop rfl rfl ?_
      refine gr rfl (r_load (ot rfl) (lm_s (mem_seg 1 rfl) ag_53 rfl)) ?_
      refine go_nil ?_
      refine go_sop rfl rfl ?_
      refine gM rfl rfl ?_
      refine go_nil ?_
      refine go_sop rfl rfl ?_
      refine gr rfl (r_load (ot rfl) (lm_w (mem_seg 0 rfl) ag_58 sz_58 rfl)) ?_
      refine go_nil ?_
      refine go_sopc [(4, .slice q4_y0_0 x4.2.l.length x4.2.l.length)] rfl rfl rfl (rc1 rfl (r_load (ot rfl) (lm_s (mem_seg 1 rfl) ag_53 rfl)) rc0) (vq1 (veq_sl _ _ _ _) vq0) rfl ?_
      refine gs_bslice (cs := [.int .i64 p1.Id, .int .i64 p1.Rev, .string p1.R.From, .string p1.R.To, .string ByteArray.empty, .bool false]) rfl (op1 (ot rfl) op0) ut_53 sz_58 zo_58 rfl rfl ?_; intro b40_8
      refine go_nil ?_
      refine go_rck (rc1 rfl (r_load (ot rfl) (lm_s (mem_seg 2 rfl) ag_53 rfl)) rc0) ?_
      refine go_sop rfl rfl ?_
      replace hF := obind hF
      obtain ⟨x9, hx9, hF⟩ := hF
      refine gs_call EE_fr w4 (.cons (.s (.s (.s (.z)))) (.cons .z .nil)) (fun _ h => by cases h; rfl) of (os1 (ot rfl) (os1 (ot rfl) (os1 (ot rfl) os0))) hb_26 (by exact evo_ins_26 (x := (⟨p1, ByteArray.empty, false⟩ : Tsubidx_node)) rfl (fun h row x e => by subst e; rfl) f4_0 rfl hx9) ?_
      rintro v9 S9 h9 e9 w9 ⟨q9, t9, rfl, rfl, f9_⟩
      simp only [List.cons_append, List.nil_append]
      refine go_nil ?_
      refine go_sop rfl rfl ?_
      refine gr rfl (r_nilck (ot rfl)) ?_
      refine go_nil ?_
      refine go_sop rfl rfl ?_
      refine gr rfl (r_fa (ot rfl) (fa_55_0 _ _)) ?_
      refine go_nil ?_
      refine go_sop rfl rfl ?_
      refine gs_store (ot rfl) (ot rfl) sz_53 rfl rfl rfl rfl rfl (.s (.s (.z))) ?_
      refine go_nil ?_
      refine go_snil ?_
      refine go_seq ?_
      refine go_region ?_
      refine gM rfl rfl ?_
      refine gM rfl rfl ?_
      replace hF := obind hF
      obtain ⟨x10, hx10, hF⟩ := hF
      refine gs_call EE_fr w9 (.cons (.s (.s (.z))) (.cons .z .nil)) (fun _ h => by cases h; rfl) of (os1 (ot rfl) (os1 (ot rfl) os0)) hb_27 (by exact s_subidx_Index_tops n w9 (⟨x9⟩ : Osubidx_Index) x7.1 f9_ hx10) ?_
      rintro v10 S10 h10 e10 w10 ⟨q10_y0_0, t10_y0_0, rfl, rfl, f10_0⟩
      simp only [List.cons_append, List.nil_append]
      refine go_nil ?_
      refine go_seq ?_
      refine go_region ?_
      refine gAc rfl rfl ?_
      refine go_nil ?_
      obtain rfl := someI hF
      refine gs_sub (.cons_cons _ (.cons_cons _ (.cons _ (.cons _ (.refl _))))) ?_
      exact g_ret (rst rfl rs0) (fun h1 hf hs => ⟨[[⟨bp0, .cells [.slice q10_y0_0 x10.l.length x10.l.length] 55⟩], t10_y0_0], _, hf, (e4.trans (e9.trans e10)), w10, hs, (ndb (by intro e; cases e) (ndt f10_0 nd0)), ⟨_, _, rfl, rfl, f10_0⟩⟩)
theorem s_subidx_Index_Del (n : Nat) {h : Heap} (hw : Wf h) (p0 : Osubidx_Index) (p1 : Int) {bp0 : Nat} {q0_0 : Option Addr} {t0_0 : List Blk} (f0_0 : AccR R_Tsubidx_node 58 h t0_0 (.slice q0_0 p0.l.length p0.l.length) p0.l) {r : Int × Osubidx_Index} (hF : F_subidx_Index_Del n p0 p1 = some r) :
    EvO EE 21 [.pointer (some ⟨bp0, 0, none⟩), .int .i64 p1] [[⟨bp0, .cells [.slice q0_0 p0.l.length p0.l.length] 55⟩], t0_0] h (fun v S h1 => ∃ qy0_0 ty0_0, v = .int .i64 r.1 ∧ S = [[⟨bp0, .cells [.slice qy0_0 r.2.l.length r.2.l.length] 55⟩], ty0_0] ∧ AccR R_Tsubidx_node 58 h1 ty0_0 (.slice qy0_0 r.2.l.length r.2.l.length) r.2.l) := by
  unfold F_subidx_Index_Del at hF
  refine evo_of rfl at_21 rfl rfl ?_
  refine go_seq ?_
  refine go_region ?_
  refine gAc rfl rfl ?_
  refine go_nil ?_
  refine go_seq ?_
  refine go_seq ?_
  refine go_region ?_
  refine gM rfl rfl ?_
  refine gr rfl (r_bin (v := .bool false) (ot rfl) (oc rfl) (by first | rfl | kernel_rfl)) ?_
  refine go_nil ?_
  refine g_cond (b := false) (ot rfl) (fun hc1 => ?_) (fun hc1 => ?_)
  · cases hc1
  refine go_skip ?_
  refine go_seq ?_
  refine go_region ?_
  refine gM rfl rfl ?_
  refine gM rfl rfl ?_
  replace hF := obind hF
  obtain ⟨x2, hx2, hF⟩ := hF
  refine gs_call EE_fr hw (.cons .z (.cons .z .nil)) (fun _ h => by cases h; rfl) of (os1 (ot rfl) (os1 (ot rfl) os0)) hb_23 (by exact s_subidx_Index_of hw p0 p1 f0_0 hx2) ?_
  rintro v2 S2 h2 e2 w2 ⟨q2_y0_0, t2_y0_0, rfl, rfl, f2_0⟩
  simp only [List.cons_append, List.nil_append]
  refine gA rfl rfl ?_
  refine go_nil ?_
  refine go_seq ?_
  refine go_seq ?_
  refine go_region ?_
  refine gM rfl rfl ?_
  refine gr rfl (r_bin (ot rfl) (oc rfl) rfl) ?_
  refine go_nil ?_
  refine g_cond (b := (decide (x2.1 < 0))) (ot rfl) (fun hc3 => ?_) (fun hc3 => ?_)
  ·
    replace hF := ifT hc3 hF
    refine go_seq ?_
    refine go_region ?_
    refine gAc rfl rfl ?_
    refine go_nil ?_
    obtain rfl := someI hF
    exact g_ret (rst rfl rs0) (fun h1 hf hs => ⟨[[⟨bp0, .cells [.slice q2_y0_0 x2.2.l.length x2.2.l.length] 55⟩], t2_y0_0], _, hf, e2, w2, hs, (ndb (by intro e; cases e) (ndt f2_0 nd0)), ⟨_, _, rfl, rfl, f2_0⟩⟩)
  ·
    replace hF := ifF hc3 hF
    refine go_skip ?_
    refine go_seq ?_
    refine go_region ?_
    refine gM rfl rfl ?_
    refine gM rfl rfl ?_
    refine gr rfl (r_nilck (ot rfl)) ?_
    refine gr rfl (r_fa (ot rfl) (fa_55_0 _ _)) ?_
    refine gr rfl (r_load (ot rfl) (lm_s (mem_seg 0 rfl) ag_53 rfl)) ?_
    refine gM rfl rfl ?_
    refine gM rfl rfl ?_
    refine gr rfl (r_bin (ot rfl) (oc rfl) rfl) ?_
    replace hF := obind hF
    obtain ⟨x4, hx4, hF⟩ := hF
    refine gs_call EE_fr w2 (.cons (.s (.z)) .nil) (fun _ h => by cases h; rfl) of (os1 (ot rfl) (os1 (ot rfl) (os1 (ot rfl) os0))) hb_34 (by exact evo_del_34 rfl f2_0 hx4) ?_
    rintro v4 S4 h4 e4 w4 ⟨q4, t4, rfl, rfl, f4_⟩
    simp only [List.cons_append, List.nil_append]
    refine gr rfl (r_nilck (ot rfl)) ?_
    refine gr rfl (r_fa (ot rfl) (fa_55_0 _ _)) ?_
    refine gs_store (ot rfl) (ot rfl) sz_53 rfl rfl rfl rfl rfl (.s (.z)) ?_
    refine go_nil ?_
    refine go_seq ?_
    refine go_region ?_
    refine gM rfl rfl ?_
    refine gM rfl rfl ?_
    replace hF := obind hF
    obtain ⟨x5, hx5, hF⟩ := hF
    refine gs_call EE_fr w4 (.cons (.s (.z)) (.cons .z .nil)) (fun _ h => by cases h; rfl) of (os1 (ot rfl) (os1 (ot rfl) os0)) hb_27 (by exact s_subidx_Index_tops n w4 (⟨x4⟩ : Osubidx_Index) x2.1 f4_ hx5) ?_
    rintro v5 S5 h5 e5 w5 ⟨q5_y0_0, t5_y0_0, rfl, rfl, f5_0⟩
    simp only [List.cons_append, List.nil_append]
    refine go_nil ?_
    refine go_seq ?_
    refine go_region ?_
    refine gAc rfl rfl ?_
    refine go_nil ?_
    obtain rfl := someI hF
    exact g_ret (rst rfl rs0) (fun h1 hf hs => ⟨[[⟨bp0, .cells [.slice q5_y0_0 x5.l.length x5.l.length] 55⟩], t5_y0_0], _, hf, (e2.trans (e4.trans e5)), w5, hs, (ndb (by intro e; cases e) (ndt f5_0 nd0)), ⟨_, _, rfl, rfl, f5_0⟩⟩)
theorem s_law11_do (n : Nat) {h : Heap} (hw : Wf h) (p0 : Osubidx_Index) (p1 : (List Timpostref11_Sub)) (p2 : Timpostlaw11_Deed) {bp0 : Nat} {q0_0 : Option Addr} {t0_0 : List Blk} {a1_0 : Option Addr} {c1_0 : Nat} (f0_0 : AccR R_Tsubidx_node 58 h t0_0 (.slice q0_0 p0.l.length p0.l.length) p0.l) (f1_0 : RL R_Timpostref11_Sub h a1_0 c1_0 p1) {r : (List Timpostref11_Sub) × Bool × Osubidx_Index} (hF : F_law11_do n p0 p1 p2 = some r) :
    EvO EE 17 [.pointer (some ⟨bp0, 0, none⟩), .slice a1_0 p1.length c1_0, .agg #[.int .i64 p2.Kind, .int .i64 p2.S.Id, .int .i64 p2.S.Rev, .string p2.S.R.From, .string p2.S.R.To]] [[⟨bp0, .cells [.slice q0_0 p0.l.length p0.l.length] 55⟩], t0_0] h (fun v S h1 => ∃ qy0_0 ty0_0 a0 c0, v = .tuple #[.slice a0 r.1.length c0, .bool r.2.1] ∧ S = [[⟨bp0, .cells [.slice qy0_0 r.2.2.l.length r.2.2.l.length] 55⟩], ty0_0] ∧ AccR R_Tsubidx_node 58 h1 ty0_0 (.slice qy0_0 r.2.2.l.length r.2.2.l.length) r.2.2.l ∧ RL R_Timpostref11_Sub h1 a0 c0 r.1) := by
  unfold F_law11_do at hF
  refine evo_of rfl at_17 rfl rfl ?_
  refine go_seq ?_
  refine go_region ?_
  refine gs_box rfl (ot rfl) rfl ?_; intro b5_1
  refine gAc rfl rfl ?_
  refine gAc rfl rfl ?_
  refine go_nil ?_
  refine go_seq ?_
  refine go_seq ?_
  refine go_region ?_
  refine gr rfl (r_fa (ot rfl) (fa_45_0 _ _)) ?_
  refine gr rfl (r_load (ot rfl) (lm_s (mem_seg 0 rfl) ag_3 rfl)) ?_
  refine gr rfl (r_bin (ot rfl) (oc rfl) rfl) ?_
  refine go_nil ?_
  refine g_cond (b := (p2.Kind == 1)) (ot rfl) (fun hc2 => ?_) (fun hc2 => ?_)
  ·
    replace hF := ifT hc2 hF
    refine go_seq ?_
    refine go_region ?_
    refine gM rfl rfl ?_
    refine gr rfl (r_fa (ot rfl) (fa_45_1 _ _)) ?_
    refine gr rfl (r_load (ot rfl) (lm_a (vs := [_, _, _, _]) (mem_seg 0 rfl) ag_27 sz_27 rfl rfl)) ?_
    replace hF := obind hF
    obtain ⟨x3, hx3, hF⟩ := hF
    refine g_callp (v := .agg #[.int .i64 x3.Id, .int .i64 x3.Rev, .string x3.R.From, .string x3.R.To]) EE_fr rfl of (os1 (ot rfl) os0) hb_12 (fun _ => rfl) (fun hf kn w => by exact s_law11_made w p2.S  hx3) ?_
    replace hF := obind hF
    obtain ⟨x4, hx4, hF⟩ := hF
    refine gs_call EE_fr hw (.cons (.s (.z)) (.cons (.s (.z)) .nil)) (fun _ h => by cases h; rfl) of (os1 (ot rfl) (os1 (ot rfl) os0)) hb_11 (by exact s_subidx_Index_Add n hw p0 x3 f0_0 hx4) ?_
    rintro v4 S4 h4 e4 w4 ⟨q4_y0_0, t4_y0_0, rfl, rfl, f4_0⟩
    simp only [List.cons_append, List.nil_append]
    refine gA rfl rfl ?_
    refine go_nil ?_
    refine go_seq ?_
    refine go_region ?_
    refine gM rfl rfl ?_
    refine gr rfl (r_fa (ot rfl) (fa_45_1 _ _)) ?_
    refine gr rfl (r_load (ot rfl) (lm_a (vs := [_, _, _, _]) (mem_seg 2 rfl) ag_27 sz_27 rfl rfl)) ?_
    replace hF := obind hF
    obtain ⟨x5, hx5, hF⟩ := hF
    refine g_call EE_fr (fun _ h => by cases h; rfl) of (os1 (ot rfl) (os1 (ot rfl) os0)) hb_32 (fun hf kn w => by exact s_ref11_Add w p1 p2.S ((f1_0.ext e4.kn).ext kn) hx5) ?_
    rintro v5 h5 e5 w5 ⟨a5_0, c5_0, rfl, f5_0⟩
    refine gM rfl rfl ?_
    refine gE rfl rfl rfl ?_
    refine gE rfl rfl rfl ?_
    refine gA rfl rfl ?_
    refine gA rfl rfl ?_
    refine go_nil ?_
    refine go_seq ?_
    refine go_region ?_
    refine gM rfl rfl ?_
    refine gM rfl rfl ?_
    refine gM rfl rfl ?_
    refine gr rfl (r_bin (ot rfl) (ot rfl) rfl) ?_
    refine gA rfl rfl ?_
    refine gA rfl rfl ?_
    refine go_nil ?_
    obtain rfl := someI hF
    refine gs_sub (.cons_cons _ (.cons_cons _ (.cons _ (.refl _)))) ?_
    exact g_ret (rst rfl (rst rfl rs0)) (fun h1 hf hs => ⟨[[⟨bp0, .cells [.slice q4_y0_0 x4.2.l.length x4.2.l.length] 55⟩], t4_y0_0], _, hf, (e4.trans e5), w5, hs, (ndb (by intro e; cases e) (ndt (f4_0.ext e5.kn) nd0)), ⟨_, _, _, _, rfl, rfl, (f4_0.ext e5.kn), f5_0⟩⟩)
  ·
    replace hF := ifF hc2 hF
    refine go_skip ?_
    refine go_seq ?_
    refine go_region ?_
    refine gM rfl rfl ?_
    refine gr rfl (r_fa (ot rfl) (fa_45_1 _ _)) ?_
    refine gr rfl (r_fa (ot rfl) (fa_27_0 _ _)) ?_
    refine gr rfl (r_load (ot rfl) (lm_s (mem_seg 0 rfl) ag_3 rfl)) ?_
    replace hF := obind hF
    obtain ⟨x6, hx6, hF⟩ := hF
    refine gs_call EE_fr hw (.cons (.s (.z)) (.cons (.s (.z)) .nil)) (fun _ h => by cases h; rfl) of (os1 (ot rfl) (os1 (ot rfl) os0)) hb_21 (by exact s_subidx_Index_Del n hw p0 p2.S.Id f0_0 hx6) ?_
    rintro v6 S6 h6 e6 w6 ⟨q6_y0_0, t6_y0_0, rfl, rfl, f6_0⟩
    simp only [List.cons_append, List.nil_append]
    refine gA rfl rfl ?_
    refine go_nil ?_
    refine go_seq ?_
    refine go_region ?_
    refine gM rfl rfl ?_
    refine gr rfl (r_fa (ot rfl) (fa_45_1 _ _)) ?_
    refine gr rfl (r_fa (ot rfl) (fa_27_0 _ _)) ?_
    refine gr rfl (r_load (ot rfl) (lm_s (mem_seg 2 rfl) ag_3 rfl)) ?_
    replace hF := obind hF
    obtain ⟨x7, hx7, hF⟩ := hF
    refine g_call EE_fr (fun _ h => by cases h; rfl) of (os1 (ot rfl) (os1 (ot rfl) os0)) hb_33 (fun hf kn w => by exact s_ref11_Del w p1 p2.S.Id ((f1_0.ext e6.kn).ext kn) hx7) ?_
    rintro v7 h7 e7 w7 ⟨a7_0, c7_0, rfl, f7_0⟩
    refine gM rfl rfl ?_
    refine gE rfl rfl rfl ?_
    refine gE rfl rfl rfl ?_
    refine gA rfl rfl ?_
    refine gA rfl rfl ?_
    refine go_nil ?_
    refine go_seq ?_
    refine go_region ?_
    refine gM rfl rfl ?_
    refine gM rfl rfl ?_
    refine gM rfl rfl ?_
    refine gr rfl (r_bin (ot rfl) (ot rfl) rfl) ?_
    refine gA rfl rfl ?_
    refine gA rfl rfl ?_
    refine go_nil ?_
    obtain rfl := someI hF
    refine gs_sub (.cons_cons _ (.cons_cons _ (.cons _ (.refl _)))) ?_
    exact g_ret (rst rfl (rst rfl rs0)) (fun h1 hf hs => ⟨[[⟨bp0, .cells [.slice q6_y0_0 x6.2.l.length x6.2.l.length] 55⟩], t6_y0_0], _, hf, (e6.trans e7), w7, hs, (ndb (by intro e; cases e) (ndt (f6_0.ext e7.kn) nd0)), ⟨_, _, _, _, rfl, rfl, (f6_0.ext e7.kn), f7_0⟩⟩)
theorem s_law11_ran (n : Nat) {h : Heap} (hw : Wf h) (p0 : (List Timpostlaw11_Deed)) {a0_0 : Option Addr} {c0_0 : Nat} (f0_0 : RL R_Timpostlaw11_Deed h a0_0 c0_0 p0) {r : Osubidx_Index} (hF : F_law11_ran n p0 = some r) :
    EvO EE 19 [.slice a0_0 p0.length c0_0] [] h (fun v S h1 => ∃ bw0 qw0_0 tw0_0, v = .pointer (some ⟨bw0, 0, none⟩) ∧ S = [[⟨bw0, .cells [.slice qw0_0 r.l.length r.l.length] 55⟩], tw0_0] ∧ AccR R_Tsubidx_node 58 h1 tw0_0 (.slice qw0_0 r.l.length r.l.length) r.l) := by
  unfold F_law11_ran at hF
  refine evo_of rfl at_19 rfl rfl ?_
  refine go_seq ?_
  refine go_region ?_
  refine gAc rfl rfl ?_
  refine go_nil ?_
  refine go_seq ?_
  refine go_region ?_
  replace hF := obind hF
  obtain ⟨x1, hx1, hF⟩ := hF
  refine gs_call EE_fr hw .nil (fun _ h => by cases h; rfl) of os0 hb_10 (by exact s_subidx_New hw   hx1) ?_
  rintro v1 S1 h1 e1 w1 ⟨b1_w0, q1_w0_0, t1_w0_0, rfl, rfl, f1_0⟩
  simp only [List.cons_append, List.nil_append]
  refine gA rfl rfl ?_
  refine go_nil ?_
  refine go_seq ?_
  refine go_region ?_
  refine gAc rfl rfl ?_
  refine go_nil ?_
  refine go_seq ?_
  refine go_seq ?_
  refine go_region ?_
  refine gAc rfl rfl ?_
  refine go_nil ?_
  replace hF := obind hF
  obtain ⟨s2, hF, hK2⟩ := hF
  refine go_joinc (β := Option Addr × List Blk) (fun s h' => AccR R_Tsubidx_node 58 h' s.2 (.slice s.1 s2.length s2.length) s2) (fun s => [(2, true, .pointer none), (3, true, .pointer (some ⟨b1_w0, 0, none⟩))]) (fun s => (List.flatten [[⟨b1_w0, .cells [.slice s.1 s2.length s2.length] 55⟩], s.2] : List Blk)) ?_ (fun J2 => ?_)
  ·
    rintro ⟨a2_0, a2_1⟩ h2 e2 w2 f2_0
    replace hF := hK2
    refine go_seq ?_
    refine go_region ?_
    refine gM rfl rfl ?_
    refine gA rfl rfl ?_
    refine go_nil ?_
    obtain rfl := someI hF
    exact g_ret (rst rfl rs0) (fun h1 hf hs => ⟨[[⟨b1_w0, .cells [.slice a2_0 s2.length s2.length] 55⟩], a2_1], _, hf, (e1.trans e2), w2, hs, (ndb (by intro e; cases e) (ndt f2_0 nd0)), ⟨_, _, _, rfl, rfl, f2_0⟩⟩)
  ·
    refine go_block ?_
    refine go_loop (α := (List Timpostlaw11_Deed) × Nat × (List Timpostref11_Sub) × (List Tsubidx_node) × Option Addr × Nat × Option Addr × List Blk × Heap) (fun a => a.1 = List.drop a.2.1 p0 ∧ HExt h1 a.2.2.2.2.2.2.2.2 ∧ Wf a.2.2.2.2.2.2.2.2 ∧ F_law11_ran_L1 n a.1 a.2.1 a.2.2.1 a.2.2.2.1 = some s2 ∧ RL R_Timpostref11_Sub a.2.2.2.2.2.2.2.2 a.2.2.2.2.1 a.2.2.2.2.2.1 a.2.2.1 ∧ AccR R_Tsubidx_node 58 a.2.2.2.2.2.2.2.2 a.2.2.2.2.2.2.2.1 (.slice a.2.2.2.2.2.2.1 a.2.2.2.1.length a.2.2.2.1.length) a.2.2.2.1) (fun a => a.1.length) (fun a => [(0, true, .slice a0_0 p0.length c0_0), (2, true, .pointer none), (3, true, .pointer (some ⟨b1_w0, 0, none⟩)), (4, true, .slice a.2.2.2.2.1 a.2.2.1.length a.2.2.2.2.2.1), (5, true, .int .i64 (a.2.1 : Int))]) (fun a => (List.flatten [[⟨b1_w0, .cells [.slice a.2.2.2.2.2.2.1 a.2.2.2.1.length a.2.2.2.1.length] 55⟩], a.2.2.2.2.2.2.2.1] : List Blk)) (fun a => a.2.2.2.2.2.2.2.2) ?_ (p0, 0, ([] : List Timpostref11_Sub), x1.l, none, 0, q1_w0_0, t1_w0_0, h1) ⟨rfl, HExt.refl _, w1, hF, (RL.nil _ _ _), f1_0⟩ (Sub.cons (Sub.cons (Sub.cons (Sub.cons (Sub.cons (Sub.nil _) rfl) rfl) rfl) rfl) rfl) rfl rfl
    rintro ⟨r3, i3, y3_0, y3_1, a3_0, a3_1, a3_2, a3_3, h3⟩ ⟨hr3, e3, w3, hF, f3_0, f3_1⟩ ih3
    rcases r3 with _ | ⟨z3, r3⟩
    ·
      have hi3 := drop_nil hr3
      rw [F_law11_ran_L1.eq_1] at hF
      refine go_seq ?_
      refine go_seq ?_
      refine go_region ?_
      refine gM rfl rfl ?_
      refine gM rfl rfl ?_
      refine gr rfl (r_len rfl (os1 (ot rfl) os0) (fun _ _ => ln_41)) ?_
      refine gr rfl (r_bin (ot rfl) (ot rfl) rfl) ?_
      refine go_cast (.bool false) (congrArg Value.bool (decide_eq_false hi3)) ?_
      refine gM rfl rfl ?_
      refine g_no rfl rfl rfl rfl rfl ?_
      refine g_no rfl rfl rfl rfl rfl ?_
      refine gr rfl (r_pkF (ot rfl) (oc rfl)) ?_
      refine go_nil ?_
      refine g_cond (b := false) (ot rfl) (fun hc4 => ?_) (fun hc4 => ?_)
      · cases hc4
      refine go_exit rfl ?_
      obtain rfl := someI hF
      exact Goes.weak (J2 (a3_2, a3_3) _ e3 w3 f3_1) (Sub.cons (Sub.cons (Sub.nil _) rfl) rfl)
    ·
      obtain ⟨hi3, hx3, hr3⟩ := drop_cons hr3
      have hb3 := ((f0_0.ext e1.kn).ext e3.kn).1
      rw [F_law11_ran_L1.eq_2] at hF
      refine go_seq ?_
      refine go_seq ?_
      refine go_region ?_
      refine gM rfl rfl ?_
      refine gM rfl rfl ?_
      refine gr rfl (r_len rfl (os1 (ot rfl) os0) (fun _ _ => ln_41)) ?_
      refine gr rfl (r_bin (ot rfl) (ot rfl) rfl) ?_
      refine go_cast (.bool true) (congrArg Value.bool (decide_eq_true (Int.ofNat_lt.mpr hi3))) ?_
      refine gM rfl rfl ?_
      refine g_do rfl rfl rfl ?_
      refine gM rfl rfl ?_
      refine g_do rfl rfl rfl ?_
      refine gr rfl (r_bin (ot rfl) (oc rfl) rfl) ?_
      refine gr rfl (r_pkT (ot rfl) (ot rfl)) ?_
      refine go_nil ?_
      refine g_cond (b := (decide ((i3 : Int) < 60))) (ot rfl) (fun hc5 => ?_) (fun hc5 => ?_)
      ·
        replace hF := ifT hc5 hF
        refine go_skip ?_
        refine go_seq ?_
        refine go_block ?_
        refine go_seq ?_
        refine go_region ?_
        refine gM rfl rfl ?_
        refine gM rfl rfl ?_
        refine gM rfl rfl ?_
        refine gM rfl rfl ?_
        obtain ⟨q6, row6, i6, cl6, rc6, sp6⟩ := ix (ik := .i64) (cap := c0_0) (E := EE) ((f0_0.ext e1.kn).ext e3.kn) ((getI_nat _ _).trans hx3) ut_41 sz_45 rfl
        obtain rfl := rc6
        refine gr rfl (r_ia (ot rfl) (ot rfl) i6) ?_
        refine gr rfl (r_load (ot rfl) (v := .agg #[.int .i64 z3.Kind, .int .i64 z3.S.Id, .int .i64 z3.S.Rev, .string z3.S.R.From, .string z3.S.R.To]) (lo_e (fun hf kn => ld_of (r := [.int .i64 z3.Kind, .int .i64 z3.S.Id, .int .i64 z3.S.Rev, .string z3.S.R.From, .string z3.S.R.To]) ag_45 sz_45 (kn.cellsAt cl6)))) ?_
        replace hF := obind hF
        obtain ⟨x7, hx7, hF⟩ := hF
        refine gs_call EE_fr w3 (.cons .z (.cons .z .nil)) (fun _ h => by cases h; rfl) of (os1 (ot rfl) (os1 (ot rfl) (os1 (ot rfl) os0))) hb_17 (by exact s_law11_do n w3 (⟨y3_1⟩ : Osubidx_Index) y3_0 z3 f3_1 f3_0 hx7) ?_
        rintro v7 S7 h7 e7 w7 ⟨q7_y0_0, t7_y0_0, a7_0, c7_0, rfl, rfl, f7_0, f7_1⟩
        simp only [List.cons_append, List.nil_append]
        refine gM rfl rfl ?_
        refine gE rfl rfl rfl ?_
        refine gE rfl rfl rfl ?_
        refine gA rfl rfl ?_
        refine gA rfl rfl ?_
        refine go_nil ?_
        refine go_region ?_
        refine gM rfl rfl ?_
        refine gA rfl rfl ?_
        refine go_nil ?_
        refine go_endb ?_
        refine go_region ?_
        refine gM rfl rfl ?_
        refine gr rfl (r_bin (ot rfl) (oc rfl) rfl) ?_
        refine gA rfl rfl ?_
        refine go_nil ?_
        refine go_re 5 (v2 := .int .i64 ((i3 + 1 : Nat) : Int)) rfl (wrap_succ hi3 hb3) ?_
        exact Goes.weak (ih3 (r3, i3 + 1, x7.1, x7.2.2.l, a7_0, c7_0, q7_y0_0, t7_y0_0, h7) ⟨hr3, (e3.trans e7), w7, hF, f7_1, f7_0⟩ (Nat.lt_succ_self _)) (Sub.cons (Sub.cons (Sub.cons (Sub.cons (Sub.cons (Sub.nil _) rfl) rfl) rfl) rfl) rfl)
      ·
        replace hF := ifF hc5 hF
        refine go_exit rfl ?_
        obtain rfl := someI hF
        exact Goes.weak (J2 (a3_2, a3_3) _ e3 w3 f3_1) (Sub.cons (Sub.cons (Sub.nil _) rfl) rfl)
end Go.Proofs.Ythgcmcifhhkebaa.V
