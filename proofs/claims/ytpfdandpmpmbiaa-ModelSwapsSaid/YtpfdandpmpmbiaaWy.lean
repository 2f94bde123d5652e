/- Walks.
   No condition: these are laws of the clean machine and of this program. -/
import Derived.Test.YtpfdandpmpmbiaaPT
import Derived.Test.YtpfdandpmpmbiaaWm
namespace Go.Proofs.Ytpfdandpmpmbiaa.V
open Go
set_option linter.unusedVariables false
set_option linter.unusedSimpArgs false
set_option maxRecDepth 100000
set_option maxHeartbeats 4000000
theorem s_law08_few {h : Heap} (hw : Wf h) (p0 : (List TReq)) {a0_0 : Option Addr} {c0_0 : Nat} (f0_0 : RL R_TReq h a0_0 c0_0 p0) {r : Bool} (hF : F_law08_few p0 = some r) :
    Ev EE 33 [.slice a0_0 p0.length c0_0] h (fun v _ => v = .bool r) := by
  unfold F_law08_few at hF
  refine ev_of hw rfl at_33 rfl rfl (go_seg0 ?_)
  refine go_seq ?_
  refine go_region ?_
  refine gAc rfl rfl ?_
  refine go_nil ?_
  refine go_seq ?_
  refine go_seq ?_
  refine go_region ?_
  refine gAc rfl rfl ?_
  refine go_nil ?_
  replace hF := obind hF
  obtain ⟨s1, hF, hK1⟩ := hF
  refine go_joinc (β := (Unit)) (fun s h' => s1 = .go s) (fun s => [(0, true, .slice a0_0 p0.length c0_0), (2, true, .bool false)]) (fun s => (List.flatten [] : List Blk)) ?_ (fun J1 => ?_)
  ·
    rintro _ h1 e1 w1 hs1
    subst hs1
    replace hF := lpgo hK1
    refine go_seq ?_
    refine go_region ?_
    refine gM rfl rfl ?_
    refine gr rfl (r_len rfl (os1 (ot rfl) os0) (fun _ _ => ln_66)) ?_
    refine gr rfl (r_bin (ot rfl) (oc rfl) rfl) ?_
    refine gA rfl rfl ?_
    refine go_nil ?_
    obtain rfl := someI hF
    exact g_ret (rst rfl rs0) (fun h1 hf hs => ⟨(e1.trans hs.hext), rfl⟩)
  ·
    refine go_block ?_
    refine go_loop (α := (List TReq) × Nat × Heap) (fun a => a.1 = List.drop a.2.1 p0 ∧ HExt h a.2.2 ∧ Wf a.2.2 ∧ F_law08_few_L1 a.1 a.2.1 = some s1) (fun a => a.1.length) (fun a => [(0, true, .slice a0_0 p0.length c0_0), (2, true, .bool false), (3, true, .int .i64 (a.2.1 : Int))]) (fun a => (List.flatten [] : List Blk)) (fun a => a.2.2) ?_ (p0, 0, h) ⟨rfl, HExt.refl _, hw, hF⟩ (Sub.cons (Sub.cons (Sub.cons (Sub.nil _) rfl) rfl) rfl) rfl rfl
    rintro ⟨r2, i2, h2⟩ ⟨hr2, e2, w2, hF⟩ ih2
    rcases r2 with _ | ⟨z2, r2⟩
    ·
      have hi2 := drop_nil hr2
      rw [F_law08_few_L1.eq_1] at hF
      refine go_seq ?_
      refine go_seq ?_
      refine go_region ?_
      refine gM rfl rfl ?_
      refine gM rfl rfl ?_
      refine gr rfl (r_len rfl (os1 (ot rfl) os0) (fun _ _ => ln_66)) ?_
      refine gr rfl (r_bin (ot rfl) (ot rfl) rfl) ?_
      refine go_cast (.bool false) (congrArg Value.bool (decide_eq_false hi2)) ?_
      refine gM rfl rfl ?_
      refine g_no rfl rfl rfl rfl rfl ?_
      refine g_no rfl rfl rfl rfl rfl ?_
      refine gr rfl (r_pkF (ot rfl) (oc rfl)) ?_
      refine go_nil ?_
      refine g_cond (b := false) (ot rfl) (fun hc3 => ?_) (fun hc3 => ?_)
      · cases hc3
      refine go_exit rfl ?_
      obtain rfl := someI hF
      exact Goes.weak (J1 () _ e2 w2 rfl) (Sub.cons (Sub.cons (Sub.nil _) rfl) rfl)
    ·
      obtain ⟨hi2, hx2, hr2⟩ := drop_cons hr2
      have hb2 := (f0_0.ext e2.kn).1
      rw [F_law08_few_L1.eq_2] at hF
      refine go_seq ?_
      refine go_seq ?_
      refine go_region ?_
      refine gM rfl rfl ?_
      refine gM rfl rfl ?_
      refine gr rfl (r_len rfl (os1 (ot rfl) os0) (fun _ _ => ln_66)) ?_
      refine gr rfl (r_bin (ot rfl) (ot rfl) rfl) ?_
      refine go_cast (.bool true) (congrArg Value.bool (decide_eq_true (Int.ofNat_lt.mpr hi2))) ?_
      refine gM rfl rfl ?_
      refine g_do rfl rfl rfl ?_
      refine gM rfl rfl ?_
      refine g_do rfl rfl rfl ?_
      refine gr rfl (r_bin (ot rfl) (oc rfl) rfl) ?_
      refine gr rfl (r_pkT (ot rfl) (ot rfl)) ?_
      refine go_nil ?_
      refine g_cond (b := (decide ((i2 : Int) < 61))) (ot rfl) (fun hc4 => ?_) (fun hc4 => ?_)
      ·
        replace hF := ifT hc4 hF
        refine go_skip ?_
        refine go_seq ?_
        refine go_block ?_
        refine go_seq ?_
        refine go_region ?_
        refine gM rfl rfl ?_
        refine gM rfl rfl ?_
        obtain ⟨q5, row5, i5, cl5, rc5, sp5⟩ := ix (ik := .i64) (cap := c0_0) (E := EE) (f0_0.ext e2.kn) ((getI_nat _ _).trans hx2) ut_66 sz_61 rfl
        obtain ⟨a5_0, c5_0, a5_1, c5_1, a5_2, c5_2, rfl, f5_0, f5_1, f5_2⟩ := rc5
        refine gr rfl (r_ia (ot rfl) (ot rfl) i5) ?_
        refine gr rfl (r_fa (ot rfl) (fs_61_3 sp5)) ?_
        refine gr rfl (r_load (ot rfl) (v := .slice a5_0 z2.Cmps.length c5_0) (lo_e (fun hf kn => ld_field (r := [.int .i64 z2.Kind, .string z2.R.From, .string z2.R.To, .int .i64 z2.Rev, .slice a5_0 z2.Cmps.length c5_0, .slice a5_1 z2.Then.length c5_1, .slice a5_2 z2.Else.length c5_2]) ag_59 (kn.cellsAt cl5) rfl))) ?_
        refine gr rfl (r_len rfl (os1 (ot rfl) os0) (fun _ _ => ln_59)) ?_
        refine gr rfl (r_bin (ot rfl) (oc rfl) rfl) ?_
        refine gM rfl rfl ?_
        replace hF := obind hF
        obtain ⟨s7, hF, hK7⟩ := hF
        refine go_joinr 8 (β := Unit) (fun s h' => True) (fun s => [(0, true, .slice a0_0 p0.length c0_0), (2, true, .bool false), (3, true, .int .i64 (i2 : Int)), (4, true, .int .i64 (i2 : Int)), (5, true, .slice a0_0 p0.length c0_0), (6, true, .int .i64 (p0.length : Int)), (7, true, .bool true), (8, true, .bool true), (9, true, .int .i64 (i2 : Int)), (10, true, .bool (decide ((i2 : Int) < 61))), (11, true, .bool (decide ((i2 : Int) < 61))), (14, true, .slice a0_0 p0.length c0_0), (15, true, .int .i64 (i2 : Int)), (16, true, .pointer (some q5)), (17, true, .pointer (some ⟨q5.block, q5.off + 4, q5.spot⟩)), (18, true, .slice a5_0 z2.Cmps.length c5_0), (19, true, .int .i64 (z2.Cmps.length : Int)), (20, true, .bool (decide ((z2.Cmps.length : Int) > 8))), (21, true, .bool s7.1), (29, true, .bool s7.2)]) (fun s => (List.flatten [] : List Blk)) ?_ (fun J7 => ?_)
        ·
          rintro _ h7 e7 w7 _
          replace hF := hK7
          refine gM rfl rfl ?_
          replace hF := obind hF
          obtain ⟨s9, hF, hK9⟩ := hF
          refine go_joinr 8 (β := Unit) (fun s h' => True) (fun s => [(0, true, .slice a0_0 p0.length c0_0), (2, true, .bool false), (3, true, .int .i64 (i2 : Int)), (4, true, .int .i64 (i2 : Int)), (5, true, .slice a0_0 p0.length c0_0), (6, true, .int .i64 (p0.length : Int)), (7, true, .bool true), (8, true, .bool true), (9, true, .int .i64 (i2 : Int)), (10, true, .bool (decide ((i2 : Int) < 61))), (11, true, .bool (decide ((i2 : Int) < 61))), (14, true, .slice a0_0 p0.length c0_0), (15, true, .int .i64 (i2 : Int)), (16, true, .pointer (some q5)), (17, true, .pointer (some ⟨q5.block, q5.off + 4, q5.spot⟩)), (18, true, .slice a5_0 z2.Cmps.length c5_0), (19, true, .int .i64 (z2.Cmps.length : Int)), (20, true, .bool (decide ((z2.Cmps.length : Int) > 8))), (21, true, .bool s7.1), (29, true, .bool s7.2), (30, true, .bool s9.1), (38, true, .bool s9.2)]) (fun s => (List.flatten [] : List Blk)) ?_ (fun J9 => ?_)
          ·
            rintro _ h9 e9 w9 _
            replace hF := hK9
            refine go_nil ?_
            refine g_cond (b := s9.2) (ot rfl) (fun hc10 => ?_) (fun hc10 => ?_)
            ·
              replace hF := ifT hc10 hF
              refine go_seq ?_
              refine go_region ?_
              refine gAc rfl rfl ?_
              refine go_nil ?_
              obtain rfl := someI hF
              obtain rfl := someI hK1
              exact g_ret (rst rfl rs0) (fun h1 hf hs => ⟨(e2.trans (e7.trans (e9.trans hs.hext))), rfl⟩)
            ·
              replace hF := ifF hc10 hF
              refine go_skip ?_
              refine go_endb ?_
              refine go_region ?_
              refine gM rfl rfl ?_
              refine gr rfl (r_bin (ot rfl) (oc rfl) rfl) ?_
              refine gA rfl rfl ?_
              refine go_nil ?_
              refine go_re 3 (v2 := .int .i64 ((i2 + 1 : Nat) : Int)) rfl (wrap_succ hi2 hb2) ?_
              exact Goes.weak (ih2 (r2, i2 + 1, h9) ⟨hr2, (e2.trans (e7.trans e9)), w9, hF⟩ (Nat.lt_succ_self _)) (Sub.cons (Sub.cons (Sub.cons (Sub.nil _) rfl) rfl) rfl)
          ·
            rcases Bool.eq_false_or_eq_true s7.2 with hb8 | hb8
            ·
              replace hF := ifT hb8 hF
              refine go_re 30 (v2 := .bool true) rfl (congrArg Value.bool hb8) ?_
              refine g_no rfl rfl rfl rfl rfl ?_
              refine g_no rfl rfl rfl rfl rfl ?_
              refine g_no rfl rfl rfl rfl rfl ?_
              refine g_no rfl rfl rfl rfl rfl ?_
              refine g_no rfl rfl rfl rfl rfl ?_
              refine g_no rfl rfl rfl rfl rfl ?_
              refine g_no rfl rfl rfl rfl rfl ?_
              refine gr rfl (r_pkT (ot rfl) (oc rfl)) ?_
              obtain rfl := someI hF
              exact Goes.weak (J9 () _ (HExt.refl _) w7 trivial) (Sub.cons (Sub.cons (Sub.cons (Sub.cons (Sub.cons (Sub.cons (Sub.cons (Sub.cons (Sub.cons (Sub.cons (Sub.cons (Sub.cons (Sub.cons (Sub.cons (Sub.cons (Sub.cons (Sub.cons (Sub.cons (Sub.cons (Sub.cons (Sub.cons (Sub.cons (Sub.nil _) rfl) rfl) rfl) rfl) rfl) rfl) rfl) rfl) rfl) rfl) rfl) rfl) rfl) rfl) rfl) rfl) rfl) rfl) rfl) rfl) rfl) rfl)
            ·
              replace hF := ifF hb8 hF
              refine go_re 30 (v2 := .bool false) rfl (congrArg Value.bool hb8) ?_
              refine g_do rfl rfl rfl ?_
              refine gM rfl rfl ?_
              refine g_do rfl rfl rfl ?_
              refine gM rfl rfl ?_
              refine g_do rfl rfl rfl ?_
              obtain ⟨q11, row11, i11, cl11, rc11, sp11⟩ := ix (ik := .i64) (cap := c0_0) (E := EE) ((f0_0.ext e2.kn).ext e7.kn) ((getI_nat _ _).trans hx2) ut_66 sz_61 rfl
              obtain ⟨a11_0, c11_0, a11_1, c11_1, a11_2, c11_2, rfl, f11_0, f11_1, f11_2⟩ := rc11
              refine gr rfl (r_ia (ot rfl) (ot rfl) i11) ?_
              refine g_do rfl rfl rfl ?_
              refine gr rfl (r_fa (ot rfl) (fs_61_5 sp11)) ?_
              refine g_do rfl rfl rfl ?_
              refine gr rfl (r_load (ot rfl) (v := .slice a11_2 z2.Else.length c11_2) (lo_e (fun hf kn => ld_field (r := [.int .i64 z2.Kind, .string z2.R.From, .string z2.R.To, .int .i64 z2.Rev, .slice a11_0 z2.Cmps.length c11_0, .slice a11_1 z2.Then.length c11_1, .slice a11_2 z2.Else.length c11_2]) ag_39 (kn.cellsAt cl11) rfl))) ?_
              refine g_do rfl rfl rfl ?_
              refine gr rfl (r_len rfl (os1 (ot rfl) os0) (fun _ _ => ln_39)) ?_
              refine g_do rfl rfl rfl ?_
              refine gr rfl (r_bin (ot rfl) (oc rfl) rfl) ?_
              refine gr rfl (r_pkF (ot rfl) (ot rfl)) ?_
              obtain rfl := someI hF
              exact Goes.weak (J9 () _ (HExt.refl _) w7 trivial) (Sub.cons (Sub.cons (Sub.cons (Sub.cons (Sub.cons (Sub.cons (Sub.cons (Sub.cons (Sub.cons (Sub.cons (Sub.cons (Sub.cons (Sub.cons (Sub.cons (Sub.cons (Sub.cons (Sub.cons (Sub.cons (Sub.cons (Sub.cons (Sub.cons (Sub.cons (Sub.nil _) rfl) rfl) rfl) rfl) rfl) rfl) rfl) rfl) rfl) rfl) rfl) rfl) rfl) rfl) rfl) rfl) rfl) rfl) rfl) rfl) rfl) rfl)
        ·
          rcases Bool.eq_false_or_eq_true (decide ((z2.Cmps.length : Int) > 8)) with hb6 | hb6
          ·
            replace hF := ifT hb6 hF
            refine go_re 21 (v2 := .bool true) rfl (congrArg Value.bool hb6) ?_
            refine g_no rfl rfl rfl rfl rfl ?_
            refine g_no rfl rfl rfl rfl rfl ?_
            refine g_no rfl rfl rfl rfl rfl ?_
            refine g_no rfl rfl rfl rfl rfl ?_
            refine g_no rfl rfl rfl rfl rfl ?_
            refine g_no rfl rfl rfl rfl rfl ?_
            refine g_no rfl rfl rfl rfl rfl ?_
            refine gr rfl (r_pkT (ot rfl) (oc rfl)) ?_
            obtain rfl := someI hF
            exact Goes.weak (J7 () _ (HExt.refl _) w2 trivial) (Sub.cons (Sub.cons (Sub.cons (Sub.cons (Sub.cons (Sub.cons (Sub.cons (Sub.cons (Sub.cons (Sub.cons (Sub.cons (Sub.cons (Sub.cons (Sub.cons (Sub.cons (Sub.cons (Sub.cons (Sub.cons (Sub.cons (Sub.cons (Sub.nil _) rfl) rfl) rfl) rfl) rfl) rfl) rfl) rfl) rfl) rfl) rfl) rfl) rfl) rfl) rfl) rfl) rfl) rfl) rfl) rfl)
          ·
            replace hF := ifF hb6 hF
            refine go_re 21 (v2 := .bool false) rfl (congrArg Value.bool hb6) ?_
            refine g_do rfl rfl rfl ?_
            refine gM rfl rfl ?_
            refine g_do rfl rfl rfl ?_
            refine gM rfl rfl ?_
            refine g_do rfl rfl rfl ?_
            obtain ⟨q12, row12, i12, cl12, rc12, sp12⟩ := ix (ik := .i64) (cap := c0_0) (E := EE) (f0_0.ext e2.kn) ((getI_nat _ _).trans hx2) ut_66 sz_61 rfl
            obtain ⟨a12_0, c12_0, a12_1, c12_1, a12_2, c12_2, rfl, f12_0, f12_1, f12_2⟩ := rc12
            refine gr rfl (r_ia (ot rfl) (ot rfl) i12) ?_
            refine g_do rfl rfl rfl ?_
            refine gr rfl (r_fa (ot rfl) (fs_61_4 sp12)) ?_
            refine g_do rfl rfl rfl ?_
            refine gr rfl (r_load (ot rfl) (v := .slice a12_1 z2.Then.length c12_1) (lo_e (fun hf kn => ld_field (r := [.int .i64 z2.Kind, .string z2.R.From, .string z2.R.To, .int .i64 z2.Rev, .slice a12_0 z2.Cmps.length c12_0, .slice a12_1 z2.Then.length c12_1, .slice a12_2 z2.Else.length c12_2]) ag_39 (kn.cellsAt cl12) rfl))) ?_
            refine g_do rfl rfl rfl ?_
            refine gr rfl (r_len rfl (os1 (ot rfl) os0) (fun _ _ => ln_39)) ?_
            refine g_do rfl rfl rfl ?_
            refine gr rfl (r_bin (ot rfl) (oc rfl) rfl) ?_
            refine gr rfl (r_pkF (ot rfl) (ot rfl)) ?_
            obtain rfl := someI hF
            exact Goes.weak (J7 () _ (HExt.refl _) w2 trivial) (Sub.cons (Sub.cons (Sub.cons (Sub.cons (Sub.cons (Sub.cons (Sub.cons (Sub.cons (Sub.cons (Sub.cons (Sub.cons (Sub.cons (Sub.cons (Sub.cons (Sub.cons (Sub.cons (Sub.cons (Sub.cons (Sub.cons (Sub.cons (Sub.nil _) rfl) rfl) rfl) rfl) rfl) rfl) rfl) rfl) rfl) rfl) rfl) rfl) rfl) rfl) rfl) rfl) rfl) rfl) rfl) rfl)
      ·
        replace hF := ifF hc4 hF
        refine go_exit rfl ?_
        obtain rfl := someI hF
        exact Goes.weak (J1 () _ e2 w2 rfl) (Sub.cons (Sub.cons (Sub.nil _) rfl) rfl)
theorem s_law08_ran (n : Nat) {h : Heap} (hw : Wf h) (p0 : (List TReq)) {a0_0 : Option Addr} {c0_0 : Nat} (f0_0 : RL R_TReq h a0_0 c0_0 p0) {r : Omodel_Model × Ohist_Hist} (hF : F_law08_ran n p0 = some r) :
    EvO EE 36 [.slice a0_0 p0.length c0_0] [] h (fun v S h1 => ∃ bw0 bw0o0 bw0o0m2 rww0o0_2 qw0o0_3 tw0o0_3, v = .pointer (some ⟨bw0, 0, none⟩) ∧ S = [[⟨bw0, .cells [.pointer (some ⟨bw0o0, 0, none⟩), .int .i64 r.1.seq] 130⟩], [⟨bw0o0, .cells [.int .i64 r.2.bounds_rev, .int .i64 r.2.bounds_hor, .map (some bw0o0m2), .slice qw0o0_3 r.2.rows.length r.2.rows.length] 100⟩], [⟨bw0o0m2, .map (encM kS id rww0o0_2)⟩], tw0o0_3] ∧ MR R_TEvent h1 rww0o0_2 r.2.keys ∧ AccR (Rep.sl R_TEvent 50) 50 h1 tw0o0_3 (.slice qw0o0_3 r.2.rows.length r.2.rows.length) r.2.rows) := by
  unfold F_law08_ran at hF
  refine evo_of rfl at_36 rfl rfl ?_
  refine go_seq ?_
  refine go_region ?_
  refine gAc rfl rfl ?_
  refine go_nil ?_
  refine go_seq ?_
  refine go_region ?_
  replace hF := obind hF
  obtain ⟨x1, hx1, hF⟩ := hF
  refine gs_call EE_fr hw .nil (fun _ h => by cases h; rfl) of os0 hb_32 (by exact s_model_New hw   hx1) ?_
  rintro v1 S1 h1 e1 w1 ⟨b1_w0, b1_w0o0, b1_w0o0m2, rw1_w0o0_2, q1_w0o0_3, t1_w0o0_3, rfl, rfl, f1_0, f1_1⟩
  simp only [List.cons_append, List.nil_append]
  refine gA rfl rfl ?_
  refine go_nil ?_
  refine go_seq ?_
  refine go_seq ?_
  refine go_region ?_
  refine gAc rfl rfl ?_
  refine go_nil ?_
  replace hF := obind hF
  obtain ⟨s2, hF, hK2⟩ := hF
  refine go_joinc (β := Option Addr × List Blk × List (ByteArray × Value)) (fun s h' => AccR (Rep.sl R_TEvent 50) 50 h' s.2.1 (.slice s.1 s2.2.2.2.1.length s2.2.2.2.1.length) s2.2.2.2.1 ∧ MR R_TEvent h' s.2.2 s2.2.2.2.2) (fun s => [(2, true, .pointer none), (3, true, .pointer (some ⟨b1_w0, 0, none⟩))]) (fun s => (List.flatten [[⟨b1_w0, .cells [.pointer (some ⟨b1_w0o0, 0, none⟩), .int .i64 s2.1] 130⟩], [⟨b1_w0o0, .cells [.int .i64 s2.2.1, .int .i64 s2.2.2.1, .map (some b1_w0o0m2), .slice s.1 s2.2.2.2.1.length s2.2.2.2.1.length] 100⟩], [⟨b1_w0o0m2, .map (encM kS id s.2.2)⟩], s.2.1] : List Blk)) ?_ (fun J2 => ?_)
  ·
    rintro ⟨a2_0, a2_1, a2_2⟩ h2 e2 w2 ⟨f2_3, f2_4⟩
    replace hF := hK2
    refine go_seq ?_
    refine go_region ?_
    refine gM rfl rfl ?_
    refine gA rfl rfl ?_
    refine go_nil ?_
    obtain rfl := someI hF
    exact g_ret (rst rfl rs0) (fun h1 hf hs => ⟨[[⟨b1_w0, .cells [.pointer (some ⟨b1_w0o0, 0, none⟩), .int .i64 s2.1] 130⟩], [⟨b1_w0o0, .cells [.int .i64 s2.2.1, .int .i64 s2.2.2.1, .map (some b1_w0o0m2), .slice a2_0 s2.2.2.2.1.length s2.2.2.2.1.length] 100⟩], [⟨b1_w0o0m2, .map (encM kS id a2_2)⟩], a2_1], _, hf, (e1.trans e2), w2, hs, (ndb (by intro e; cases e) (ndb (by intro e; cases e) (ndb (by intro e; cases e) (ndt f2_3 nd0)))), ⟨_, _, _, _, _, _, rfl, rfl, f2_4, f2_3⟩⟩)
  ·
    refine go_block ?_
    refine go_loop (α := (List TReq) × Nat × Int × Int × Int × (List (List TEvent)) × (List (ByteArray × (List TEvent))) × Option Addr × List Blk × List (ByteArray × Value) × Heap) (fun a => a.1 = List.drop a.2.1 p0 ∧ HExt h1 a.2.2.2.2.2.2.2.2.2.2 ∧ Wf a.2.2.2.2.2.2.2.2.2.2 ∧ F_law08_ran_L1 n a.1 a.2.1 a.2.2.1 a.2.2.2.1 a.2.2.2.2.1 a.2.2.2.2.2.1 a.2.2.2.2.2.2.1 = some s2 ∧ AccR (Rep.sl R_TEvent 50) 50 a.2.2.2.2.2.2.2.2.2.2 a.2.2.2.2.2.2.2.2.1 (.slice a.2.2.2.2.2.2.2.1 a.2.2.2.2.2.1.length a.2.2.2.2.2.1.length) a.2.2.2.2.2.1 ∧ MR R_TEvent a.2.2.2.2.2.2.2.2.2.2 a.2.2.2.2.2.2.2.2.2.1 a.2.2.2.2.2.2.1) (fun a => a.1.length) (fun a => [(0, true, .slice a0_0 p0.length c0_0), (2, true, .pointer none), (3, true, .pointer (some ⟨b1_w0, 0, none⟩)), (4, true, .int .i64 (a.2.1 : Int))]) (fun a => (List.flatten [[⟨b1_w0, .cells [.pointer (some ⟨b1_w0o0, 0, none⟩), .int .i64 a.2.2.1] 130⟩], [⟨b1_w0o0, .cells [.int .i64 a.2.2.2.1, .int .i64 a.2.2.2.2.1, .map (some b1_w0o0m2), .slice a.2.2.2.2.2.2.2.1 a.2.2.2.2.2.1.length a.2.2.2.2.2.1.length] 100⟩], [⟨b1_w0o0m2, .map (encM kS id a.2.2.2.2.2.2.2.2.2.1)⟩], a.2.2.2.2.2.2.2.2.1] : List Blk)) (fun a => a.2.2.2.2.2.2.2.2.2.2) ?_ (p0, 0, x1.1.seq, x1.2.bounds_rev, x1.2.bounds_hor, x1.2.rows, x1.2.keys, q1_w0o0_3, t1_w0o0_3, rw1_w0o0_2, h1) ⟨rfl, HExt.refl _, w1, hF, f1_1, f1_0⟩ (Sub.cons (Sub.cons (Sub.cons (Sub.cons (Sub.nil _) rfl) rfl) rfl) rfl) rfl rfl
    rintro ⟨r3, i3, y3_0, y3_1, y3_2, y3_3, y3_4, a3_0, a3_1, a3_2, h3⟩ ⟨hr3, e3, w3, hF, f3_3, f3_4⟩ ih3
    rcases r3 with _ | ⟨z3, r3⟩
    ·
      have hi3 := drop_nil hr3
      rw [F_law08_ran_L1.eq_1] at hF
      refine go_seq ?_
      refine go_seq ?_
      refine go_region ?_
      refine gM rfl rfl ?_
      refine gM rfl rfl ?_
      refine gr rfl (r_len rfl (os1 (ot rfl) os0) (fun _ _ => ln_66)) ?_
      refine gr rfl (r_bin (ot rfl) (ot rfl) rfl) ?_
      refine go_cast (.bool false) (congrArg Value.bool (decide_eq_false hi3)) ?_
      refine go_nil ?_
      refine g_cond (b := false) (ot rfl) (fun hc4 => ?_) (fun hc4 => ?_)
      · cases hc4
      refine go_exit rfl ?_
      obtain rfl := someI hF
      exact Goes.weak (J2 (a3_0, a3_1, a3_2) _ e3 w3 ⟨f3_3, f3_4⟩) (Sub.cons (Sub.cons (Sub.nil _) rfl) rfl)
    ·
      obtain ⟨hi3, hx3, hr3⟩ := drop_cons hr3
      have hb3 := ((f0_0.ext e1.kn).ext e3.kn).1
      rw [F_law08_ran_L1.eq_2] at hF
      refine go_seq ?_
      refine go_seq ?_
      refine go_region ?_
      refine gM rfl rfl ?_
      refine gM rfl rfl ?_
      refine gr rfl (r_len rfl (os1 (ot rfl) os0) (fun _ _ => ln_66)) ?_
      refine gr rfl (r_bin (ot rfl) (ot rfl) rfl) ?_
      refine go_cast (.bool true) (congrArg Value.bool (decide_eq_true (Int.ofNat_lt.mpr hi3))) ?_
      refine go_nil ?_
      refine g_cond (b := true) (ot rfl) (fun hc5 => ?_) (fun hc5 => ?_)
      rotate_left
      · cases hc5
      refine go_skip ?_
      refine go_seq ?_
      refine go_block ?_
      refine go_region ?_
      refine gM rfl rfl ?_
      refine gM rfl rfl ?_
      refine gM rfl rfl ?_
      obtain ⟨q6, row6, i6, cl6, rc6, sp6⟩ := ix (ik := .i64) (cap := c0_0) (E := EE) ((f0_0.ext e1.kn).ext e3.kn) ((getI_nat _ _).trans hx3) ut_66 sz_61 rfl
      obtain ⟨a6_0, c6_0, a6_1, c6_1, a6_2, c6_2, rfl, f6_0, f6_1, f6_2⟩ := rc6
      refine gr rfl (r_ia (ot rfl) (ot rfl) i6) ?_
      refine gr rfl (r_load (ot rfl) (v := .agg #[.int .i64 z3.Kind, .string z3.R.From, .string z3.R.To, .int .i64 z3.Rev, .slice a6_0 z3.Cmps.length c6_0, .slice a6_1 z3.Then.length c6_1, .slice a6_2 z3.Else.length c6_2]) (lo_e (fun hf kn => ld_of (r := [.int .i64 z3.Kind, .string z3.R.From, .string z3.R.To, .int .i64 z3.Rev, .slice a6_0 z3.Cmps.length c6_0, .slice a6_1 z3.Then.length c6_1, .slice a6_2 z3.Else.length c6_2]) ag_61 sz_61 (kn.cellsAt cl6)))) ?_
      replace hF := obind hF
      obtain ⟨x7, hx7, hF⟩ := hF
      refine gs_call EE_fr w3 (.cons .z (.cons .z (.cons .z (.cons .z .nil)))) (fun _ h => by cases h; rfl) of (os1 (ot rfl) (os1 (ot rfl) os0)) hb_34 (by exact s_model_Model_Serve n w3 (⟨y3_0⟩ : Omodel_Model) (⟨y3_1, y3_2, y3_4, y3_3⟩ : Ohist_Hist) z3 f3_4 f3_3 f6_0 f6_1 f6_2 hx7) ?_
      rintro v7 S7 h7 e7 w7 ⟨rw7_y0o0_2, q7_y0o0_3, t7_y0o0_3, a7_0, c7_0, rfl, rfl, f7_0, f7_1, f7_2⟩
      simp only [List.cons_append, List.nil_append]
      refine go_nil ?_
      refine go_endb ?_
      refine go_region ?_
      refine gM rfl rfl ?_
      refine gr rfl (r_bin (ot rfl) (oc rfl) rfl) ?_
      refine gA rfl rfl ?_
      refine go_nil ?_
      refine go_re 4 (v2 := .int .i64 ((i3 + 1 : Nat) : Int)) rfl (wrap_succ hi3 hb3) ?_
      exact Goes.weak (ih3 (r3, i3 + 1, x7.2.1.seq, x7.2.2.bounds_rev, x7.2.2.bounds_hor, x7.2.2.rows, x7.2.2.keys, q7_y0o0_3, t7_y0o0_3, rw7_y0o0_2, h7) ⟨hr3, (e3.trans e7), w7, hF, f7_1, f7_0⟩ (Nat.lt_succ_self _)) (Sub.cons (Sub.cons (Sub.cons (Sub.cons (Sub.nil _) rfl) rfl) rfl) rfl)
end Go.Proofs.Ytpfdandpmpmbiaa.V
