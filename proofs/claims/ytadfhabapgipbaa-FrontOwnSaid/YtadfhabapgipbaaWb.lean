/- Walks.
   No condition: these are laws of the clean machine and of this program. -/
import Derived.Test.YtadfhabapgipbaaWa
namespace Go.Proofs.Ytadfhabapgipbaa.V
open Go
set_option linter.unusedVariables false
set_option linter.unusedSimpArgs false
set_option maxRecDepth 100000
theorem s_law07_few {h : Heap} (hw : Wf h) (p0 : TReq) {a0_4 : Option Addr} {c0_4 : Nat} {a0_5 : Option Addr} {c0_5 : Nat} {a0_6 : Option Addr} {c0_6 : Nat} (f0_4 : RL R_Cmp h a0_4 c0_4 p0.Cmps) (f0_5 : RL R_OpX h a0_5 c0_5 p0.Then) (f0_6 : RL R_OpX h a0_6 c0_6 p0.Else) {r : Bool} (hF : F_law07_few p0 = some r) :
    Ev EE 23 [.agg #[.int .i64 p0.Kind, .string p0.R.From, .string p0.R.To, .int .i64 p0.Rev, .slice a0_4 p0.Cmps.length c0_4, .slice a0_5 p0.Then.length c0_5, .slice a0_6 p0.Else.length c0_6]] h (fun v _ => v = .bool r) := by
  unfold F_law07_few at hF
  refine ev_of hw rfl at_23 rfl rfl (go_seg0 ?_)
  refine go_seq ?_
  refine go_region ?_
  refine gs_box rfl (ot rfl) rfl ?_; intro b1_1
  refine gAc rfl rfl ?_
  refine go_nil ?_
  refine go_seq ?_
  refine go_region ?_
  refine gr rfl (r_fa (ot rfl) (fa_27_3 _ _)) ?_
  refine gr rfl (r_load (ot rfl) (lm_s (mem_seg 0 rfl) ag_24 rfl)) ?_
  refine gr rfl (r_len rfl (os1 (ot rfl) os0) (fun _ _ => ln_24)) ?_
  refine gr rfl (r_bin (ot rfl) (oc rfl) rfl) ?_
  refine gM rfl rfl ?_
  refine grt rfl rfl rfl rfl (r_fa (ot rfl) (fa_27_4 _ _)) ?_
  refine grt rfl rfl rfl rfl (r_load (og rfl id) (lm_s (mem_seg 0 rfl) ag_25 rfl)) ?_
  refine grt rfl rfl rfl rfl (r_len rfl (os1 (og rfl id) os0) (fun _ _ => ln_25)) ?_
  refine grt rfl rfl rfl rfl (r_bin (og rfl id) (oc rfl) rfl) ?_
  refine gr rfl (r_pickb (ot rfl) (og rfl id) (oc rfl)) ?_
  refine gM rfl rfl ?_
  refine grt rfl rfl rfl rfl (r_fa (ot rfl) (fa_27_5 _ _)) ?_
  refine grt rfl rfl rfl rfl (r_load (og rfl id) (lm_s (mem_seg 0 rfl) ag_25 rfl)) ?_
  refine grt rfl rfl rfl rfl (r_len rfl (os1 (og rfl id) os0) (fun _ _ => ln_25)) ?_
  refine grt rfl rfl rfl rfl (r_bin (og rfl id) (oc rfl) rfl) ?_
  refine gr rfl (r_pickb (ot rfl) (og rfl id) (oc rfl)) ?_
  refine gA rfl rfl ?_
  refine go_nil ?_
  obtain rfl := someI hF
  exact g_ret (rst rfl rs0) (fun h1 hf hs => ⟨hs.hext, rfl⟩)
theorem s_law07_TxnOwn (n : Nat) {h : Heap} (hw : Wf h) (p0 : (List KV)) (p1 : TReq) {a0_0 : Option Addr} {c0_0 : Nat} {a1_4 : Option Addr} {c1_4 : Nat} {a1_5 : Option Addr} {c1_5 : Nat} {a1_6 : Option Addr} {c1_6 : Nat} (f0_0 : RL R_KV h a0_0 c0_0 p0) (f1_4 : RL R_Cmp h a1_4 c1_4 p1.Cmps) (f1_5 : RL R_OpX h a1_5 c1_5 p1.Then) (f1_6 : RL R_OpX h a1_6 c1_6 p1.Else) {r : Bool} (hF : F_law07_TxnOwn n p0 p1 = some r) :
    Ev EE 6 [.slice a0_0 p0.length c0_0, .agg #[.int .i64 p1.Kind, .string p1.R.From, .string p1.R.To, .int .i64 p1.Rev, .slice a1_4 p1.Cmps.length c1_4, .slice a1_5 p1.Then.length c1_5, .slice a1_6 p1.Else.length c1_6]] h (fun v _ => v = .bool r) := by
  unfold F_law07_TxnOwn at hF
  refine ev_of hw rfl at_6 rfl rfl (go_seg0 ?_)
  refine go_seq ?_
  refine go_region ?_
  refine gs_box rfl (ot rfl) rfl ?_; intro b3_1
  refine gAc rfl rfl ?_
  refine go_nil ?_
  refine go_seq ?_
  refine go_region ?_
  refine g_callp EE_fr rfl of os0 hb_22 (fun _ => rfl) (fun hf kn w => by exact known_evp rfl hf w) ?_
  refine gA rfl rfl ?_
  refine go_nil ?_
  refine go_seq ?_
  refine go_seq ?_
  refine go_region ?_
  refine gr rfl (r_load (ot rfl) (lm_w (mem_seg 0 rfl) ag_27 sz_27 rfl)) ?_
  replace hF := obind hF
  obtain ⟨x3, hx3, hF⟩ := hF
  refine g_callp (v := .bool x3) EE_fr rfl of (os1 (ot rfl) os0) hb_23 (fun _ => rfl) (fun hf kn w => by exact s_law07_few w p1 (f1_4.ext kn) (f1_5.ext kn) (f1_6.ext kn) hx3) ?_
  refine gr rfl (r_un (ot rfl) rfl) ?_
  refine gM rfl rfl ?_
  refine grf rfl rfl rfl rfl (r_move (ot rfl)) ?_
  refine grf rfl rfl rfl rfl (r_len rfl (os1 (og rfl id) os0) (fun _ _ => ln_28)) ?_
  refine grf rfl rfl rfl rfl (r_bin (og rfl id) (oc rfl) rfl) ?_
  refine gr rfl (r_pickb (ot rfl) (oc rfl) (og rfl id)) ?_
  refine gM rfl rfl ?_
  replace hF := obind hF
  obtain ⟨s5, hF, hK5⟩ := hF
  refine go_joinr 4 (β := Unit) (fun s h' => True) (fun s => [(0, true, .slice a0_0 p0.length c0_0), (3, true, .pointer (some ⟨b3_1, 0, none⟩)), (4, true, .bool false), (5, true, .bool true), (28, true, .bool s5)]) (fun s => (List.flatten [[⟨b3_1, .cells [.int .i64 p1.Kind, .string p1.R.From, .string p1.R.To, .int .i64 p1.Rev, .slice a1_4 p1.Cmps.length c1_4, .slice a1_5 p1.Then.length c1_5, .slice a1_6 p1.Else.length c1_6] 27⟩]] : List Blk)) ?_ (fun J5 => ?_)
  ·
    rintro _ h5 e5 w5 _
    replace hF := hK5
    refine go_nil ?_
    refine g_cond (b := s5) (ot rfl) (fun hc6 => ?_) (fun hc6 => ?_)
    ·
      replace hF := ifT hc6 hF
      refine go_seq ?_
      refine go_region ?_
      refine gM rfl rfl ?_
      refine gA rfl rfl ?_
      refine go_nil ?_
      obtain rfl := someI hF
      exact g_ret (rst rfl rs0) (fun h1 hf hs => ⟨(e5.trans hs.hext), rfl⟩)
    ·
      replace hF := ifF hc6 hF
      refine go_skip ?_
      refine go_seq ?_
      refine go_region ?_
      refine gr rfl (r_load (ot rfl) (lm_w (mem_seg 0 rfl) ag_27 sz_27 rfl)) ?_
      replace hF := obind hF
      obtain ⟨x7, hx7, hF⟩ := hF
      refine g_call EE_fr (fun _ h => by cases h; rfl) of (os1 (ot rfl) os0) hb_19 (fun hf kn w => by exact s_txn_Keys w p1 ((f1_4.ext e5.kn).ext kn) ((f1_5.ext e5.kn).ext kn) ((f1_6.ext e5.kn).ext kn) hx7) ?_
      rintro v7 h7 e7 w7 ⟨a7_0, c7_0, rfl, f7_0⟩
      refine gA rfl rfl ?_
      refine go_nil ?_
      refine go_seq ?_
      refine go_region ?_
      refine gAc rfl rfl ?_
      refine go_nil ?_
      refine go_seq ?_
      refine go_seq ?_
      refine go_region ?_
      refine gAc rfl rfl ?_
      refine go_nil ?_
      replace hF := obind hF
      obtain ⟨s8, hF, hK8⟩ := hF
      refine go_joinc (β := ((List KV)) × Option Addr × List Blk) (fun s h' => s8 = .go s.1 ∧ AccR R_KV 52 h' s.2.2 (.slice s.2.1 s.1.length s.1.length) s.1) (fun s => [(0, true, .slice a0_0 p0.length c0_0), (3, true, .pointer (some ⟨b3_1, 0, none⟩)), (4, true, .bool false), (5, true, .bool true), (7, true, .slice s.2.1 s.1.length s.1.length)]) (fun s => (List.flatten [s.2.2, [⟨b3_1, .cells [.int .i64 p1.Kind, .string p1.R.From, .string p1.R.To, .int .i64 p1.Rev, .slice a1_4 p1.Cmps.length c1_4, .slice a1_5 p1.Then.length c1_5, .slice a1_6 p1.Else.length c1_6] 27⟩]] : List Blk)) ?_ (fun J8 => ?_)
      ·
        rintro ⟨x8_0, a8_0, a8_1⟩ h8 e8 w8 ⟨hs8, f8_0⟩
        subst hs8
        replace hF := hK8
        refine go_seq ?_
        refine go_region ?_
        refine gM rfl rfl ?_
        refine gr rfl (r_load (ot rfl) (lm_w (mem_seg 1 rfl) ag_27 sz_27 rfl)) ?_
        replace hF := obind hF
        obtain ⟨x9, hx9, hF⟩ := hF
        refine g_call EE_fr (fun _ h => by cases h; rfl) of (os1 (ot rfl) (os1 (ot rfl) os0)) hb_25 (fun hf kn w => by exact s_txn_Plan n w p0 p1 ((((f0_0.ext e5.kn).ext e7.kn).ext e8.kn).ext kn) ((((f1_4.ext e5.kn).ext e7.kn).ext e8.kn).ext kn) ((((f1_5.ext e5.kn).ext e7.kn).ext e8.kn).ext kn) ((((f1_6.ext e5.kn).ext e7.kn).ext e8.kn).ext kn) hx9) ?_
        rintro v9 h9 e9 w9 ⟨a9_0, c9_0, rfl, f9_0⟩
        refine gM rfl rfl ?_
        refine gE rfl rfl rfl ?_
        refine gE rfl rfl rfl ?_
        refine gA rfl rfl ?_
        refine gA rfl rfl ?_
        refine go_nil ?_
        refine go_seq ?_
        refine go_region ?_
        refine gM rfl rfl ?_
        refine gr rfl (r_load (ot rfl) (lm_w (mem_seg 1 rfl) ag_27 sz_27 rfl)) ?_
        refine gs_accpub .z (f8_0.ext e9.kn) (fun h11 e11 w11 f11_ => ?_) rfl
        replace hF := obind hF
        obtain ⟨x10, hx10, hF⟩ := hF
        refine g_call EE_fr (fun _ h => by cases h; rfl) of (os1 (ot rfl) (os1 (ot rfl) os0)) hb_25 (fun hf kn w => by exact s_txn_Plan n w x8_0 p1 (f11_.ext kn) ((((((f1_4.ext e5.kn).ext e7.kn).ext e8.kn).ext e9.kn).ext e11.kn).ext kn) ((((((f1_5.ext e5.kn).ext e7.kn).ext e8.kn).ext e9.kn).ext e11.kn).ext kn) ((((((f1_6.ext e5.kn).ext e7.kn).ext e8.kn).ext e9.kn).ext e11.kn).ext kn) hx10) ?_
        rintro v10 h10 e10 w10 ⟨a10_0, c10_0, rfl, f10_0⟩
        refine gM rfl rfl ?_
        refine gE rfl rfl rfl ?_
        refine gE rfl rfl rfl ?_
        refine gA rfl rfl ?_
        refine gA rfl rfl ?_
        refine go_nil ?_
        refine go_seq ?_
        refine go_region ?_
        refine gM rfl rfl ?_
        refine gM rfl rfl ?_
        refine g_do rfl rfl rfl ?_
        refine gM rfl rfl ?_
        refine g_do rfl rfl rfl ?_
        refine gM rfl rfl ?_
        refine g_do rfl rfl rfl ?_
        refine gr rfl (r_bin (ot rfl) (ot rfl) be_4) ?_
        refine gr rfl (r_pkT (ot rfl) (ot rfl)) ?_
        refine gM rfl rfl ?_
        replace hF := obind hF
        obtain ⟨s13, hF, hK13⟩ := hF
        refine go_joinr 4 (β := Unit) (fun s h' => True) (fun s => [(4, true, .bool false), (88, true, .bool s13)]) (fun s => (List.flatten [[⟨b3_1, .cells [.int .i64 p1.Kind, .string p1.R.From, .string p1.R.To, .int .i64 p1.Rev, .slice a1_4 p1.Cmps.length c1_4, .slice a1_5 p1.Then.length c1_5, .slice a1_6 p1.Else.length c1_6] 27⟩]] : List Blk)) ?_ (fun J13 => ?_)
        ·
          rintro _ h13 e13 w13 _
          replace hF := hK13
          refine gA rfl rfl ?_
          refine go_nil ?_
          obtain rfl := someI hF
          exact g_ret (rst rfl rs0) (fun h1 hf hs => ⟨(e5.trans (e7.trans (e8.trans (e9.trans (e11.trans (e10.trans (e13.trans hs.hext))))))), rfl⟩)
        ·
          rcases Bool.eq_false_or_eq_true (x9.1 == x10.1) with hb12 | hb12
          ·
            replace hF := ifT hb12 hF
            refine go_re 84 (v2 := .bool true) rfl (congrArg Value.bool hb12) ?_
            refine g_do rfl rfl rfl ?_
            refine gM rfl rfl ?_
            refine g_do rfl rfl rfl ?_
            refine gM rfl rfl ?_
            refine g_do rfl rfl rfl ?_
            replace hF := obind hF
            obtain ⟨x14, hx14, hF⟩ := hF
            refine g_callp (v := .bool x14) EE_fr rfl of (os1 (ot rfl) (os1 (ot rfl) os0)) hb_26 (fun _ => rfl) (fun hf kn w => by exact s_ref07_Ops w x9.2 x10.2 (((f9_0.ext e11.kn).ext e10.kn).ext kn) (f10_0.ext kn) hx14) ?_
            refine gr rfl (r_pkT (ot rfl) (ot rfl)) ?_
            obtain rfl := someI hF
            exact Goes.weak (J13 () _ (HExt.refl _) w10 trivial) (Sub.cons (Sub.cons (Sub.nil _) rfl) rfl)
          ·
            replace hF := ifF hb12 hF
            refine go_re 84 (v2 := .bool false) rfl (congrArg Value.bool hb12) ?_
            refine g_no rfl rfl rfl rfl rfl ?_
            refine g_no rfl rfl rfl rfl rfl ?_
            refine g_no rfl rfl rfl rfl rfl ?_
            refine gr rfl (r_pkF (ot rfl) (oc rfl)) ?_
            obtain rfl := someI hF
            exact Goes.weak (J13 () _ (HExt.refl _) w10 trivial) (Sub.cons (Sub.cons (Sub.nil _) rfl) rfl)
      ·
        refine go_block ?_
        refine go_loop (α := (List ByteArray) × Nat × (List KV) × Option Addr × List Blk × Heap) (fun a => a.1 = List.drop a.2.1 x7 ∧ HExt h7 a.2.2.2.2.2 ∧ Wf a.2.2.2.2.2 ∧ F_law07_TxnOwn_L1 p0 x7 a.1 a.2.1 a.2.2.1 = some s8 ∧ AccR R_KV 52 a.2.2.2.2.2 a.2.2.2.2.1 (.slice a.2.2.2.1 a.2.2.1.length a.2.2.1.length) a.2.2.1) (fun a => a.1.length) (fun a => [(0, true, .slice a0_0 p0.length c0_0), (3, true, .pointer (some ⟨b3_1, 0, none⟩)), (4, true, .bool false), (5, true, .bool true), (6, true, .slice a7_0 x7.length c7_0), (7, true, .slice a.2.2.2.1 a.2.2.1.length a.2.2.1.length), (8, true, .int .i64 (a.2.1 : Int))]) (fun a => (List.flatten [a.2.2.2.2.1, [⟨b3_1, .cells [.int .i64 p1.Kind, .string p1.R.From, .string p1.R.To, .int .i64 p1.Rev, .slice a1_4 p1.Cmps.length c1_4, .slice a1_5 p1.Then.length c1_5, .slice a1_6 p1.Else.length c1_6] 27⟩]] : List Blk)) (fun a => a.2.2.2.2.2) ?_ (x7, 0, ([] : List KV), none, [], h7) ⟨rfl, HExt.refl _, w7, hF, (AccR.nil _ _ _)⟩ (Sub.cons (Sub.cons (Sub.cons (Sub.cons (Sub.cons (Sub.cons (Sub.cons (Sub.nil _) rfl) rfl) rfl) rfl) rfl) rfl) rfl) rfl rfl
        rintro ⟨r15, i15, y15_0, a15_0, a15_1, h15⟩ ⟨hr15, e15, w15, hF, f15_0⟩ ih15
        rcases r15 with _ | ⟨z15, r15⟩
        ·
          have hi15 := drop_nil hr15
          rw [F_law07_TxnOwn_L1.eq_1] at hF
          refine go_seq ?_
          refine go_seq ?_
          refine go_region ?_
          refine gM rfl rfl ?_
          refine gM rfl rfl ?_
          refine gr rfl (r_len rfl (os1 (ot rfl) os0) (fun _ _ => ln_49)) ?_
          refine gr rfl (r_bin (ot rfl) (ot rfl) rfl) ?_
          refine go_cast (.bool false) (congrArg Value.bool (decide_eq_false hi15)) ?_
          refine go_nil ?_
          refine g_cond (b := false) (ot rfl) (fun hc16 => ?_) (fun hc16 => ?_)
          · cases hc16
          refine go_exit rfl ?_
          obtain rfl := someI hF
          exact Goes.weak (J8 (y15_0, a15_0, a15_1) _ e15 w15 ⟨rfl, f15_0⟩) (Sub.cons (Sub.cons (Sub.cons (Sub.cons (Sub.cons (Sub.nil _) rfl) rfl) rfl) rfl) rfl)
        ·
          obtain ⟨hi15, hx15, hr15⟩ := drop_cons hr15
          have hb15 := (f7_0.ext e15.kn).1
          rw [F_law07_TxnOwn_L1.eq_2] at hF
          refine go_seq ?_
          refine go_seq ?_
          refine go_region ?_
          refine gM rfl rfl ?_
          refine gM rfl rfl ?_
          refine gr rfl (r_len rfl (os1 (ot rfl) os0) (fun _ _ => ln_49)) ?_
          refine gr rfl (r_bin (ot rfl) (ot rfl) rfl) ?_
          refine go_cast (.bool true) (congrArg Value.bool (decide_eq_true (Int.ofNat_lt.mpr hi15))) ?_
          refine go_nil ?_
          refine g_cond (b := true) (ot rfl) (fun hc17 => ?_) (fun hc17 => ?_)
          rotate_left
          · cases hc17
          refine go_skip ?_
          refine go_seq ?_
          refine go_block ?_
          refine go_seq ?_
          refine go_region ?_
          refine gM rfl rfl ?_
          refine gM rfl rfl ?_
          refine gM rfl rfl ?_
          obtain ⟨q18, row18, i18, cl18, rc18, sp18⟩ := ix (ik := .i64) (cap := c7_0) (E := EE) (f7_0.ext e15.kn) ((getI_nat _ _).trans hx15) ut_49 sz_9 rfl
          obtain rfl := rc18
          refine gr rfl (r_ia (ot rfl) (ot rfl) i18) ?_
          refine gr rfl (r_load (ot rfl) (v := .string z15) (lo_e (fun hf kn => ld_one ag_9 (kn.cellsAt cl18)))) ?_
          replace hF := obind hF
          obtain ⟨x19, hx19, hF⟩ := hF
          refine g_callp (v := .tuple #[.agg #[.string x19.1.key, .string x19.1.val, .int .i64 x19.1.rev], .bool x19.2]) EE_fr rfl of (os1 (ot rfl) (os1 (ot rfl) os0)) hb_24 (fun _ => rfl) (fun hf kn w => by exact s_ref06_Get w p0 z15 ((((f0_0.ext e5.kn).ext e7.kn).ext e15.kn).ext kn) hx19) ?_
          refine gM rfl rfl ?_
          refine gE rfl rfl rfl ?_
          refine gE rfl rfl rfl ?_
          refine gs_alloc rfl zo_52 rfl ?_; intro b9_20
          refine gs_store (ot rfl) (ot rfl) sz_52 rfl rfl rfl rfl rfl .z ?_
          refine gA rfl rfl ?_
          refine go_nil ?_
          refine go_seq ?_
          refine go_seq ?_
          refine go_regionq (by kernel_rfl) ?_
          refine gM rfl rfl ?_
          refine gr rfl (r_bin (ot rfl) (oc rfl) rfl) ?_
          refine gM rfl rfl ?_
          replace hF := obind hF
          obtain ⟨s22, hF, hK22⟩ := hF
          refine go_joinr 11 (β := Unit) (fun s h' => True) (fun s => [(0, true, .slice a0_0 p0.length c0_0), (3, true, .pointer (some ⟨b3_1, 0, none⟩)), (4, true, .bool false), (5, true, .bool true), (6, true, .slice a7_0 x7.length c7_0), (7, true, .slice a15_0 y15_0.length y15_0.length), (8, true, .int .i64 (i15 : Int)), (9, true, .pointer (some ⟨b9_20, 0, none⟩)), (10, true, .bool x19.2), (32, true, .int .i64 (i15 : Int)), (33, true, .slice a7_0 x7.length c7_0), (34, true, .int .i64 (x7.length : Int)), (35, true, .bool true), (38, true, .tuple #[.agg #[.string x19.1.key, .string x19.1.val, .int .i64 x19.1.rev], .bool x19.2]), (39, true, .slice a0_0 p0.length c0_0), (40, true, .slice a7_0 x7.length c7_0), (41, true, .int .i64 (i15 : Int)), (42, true, .pointer (some q18)), (43, true, .string z15), (44, true, .tuple #[.agg #[.string x19.1.key, .string x19.1.val, .int .i64 x19.1.rev], .bool x19.2]), (45, true, .agg #[.string x19.1.key, .string x19.1.val, .int .i64 x19.1.rev]), (46, true, .bool x19.2), (47, true, .int .i64 (i15 : Int)), (48, true, .bool (decide ((i15 : Int) > 0))), (49, true, .bool s22.1), (60, true, .bool s22.2)]) (fun s => (List.flatten [[⟨b9_20, .cells [.string x19.1.key, .string x19.1.val, .int .i64 x19.1.rev] 52⟩], a15_1, [⟨b3_1, .cells [.int .i64 p1.Kind, .string p1.R.From, .string p1.R.To, .int .i64 p1.Rev, .slice a1_4 p1.Cmps.length c1_4, .slice a1_5 p1.Then.length c1_5, .slice a1_6 p1.Else.length c1_6] 27⟩]] : List Blk)) ?_ (fun J22 => ?_)
          ·
            rintro _ h22 e22 w22 _
            replace hF := hK22
            refine go_nil ?_
            refine g_cond (b := s22.2) (ot rfl) (fun hc23 => ?_) (fun hc23 => ?_)
            ·
              replace hF := ifT hc23 hF
              refine go_seq ?_
              refine go_region ?_
              refine gAc rfl rfl ?_
              refine go_nil ?_
              obtain rfl := someI hF
              obtain rfl := someI hK8
              exact g_ret (rst rfl rs0) (fun h1 hf hs => ⟨(e5.trans (e7.trans (e15.trans (e22.trans hs.hext)))), rfl⟩)
            ·
              replace hF := ifF hc23 hF
              refine go_skip ?_
              refine go_seq ?_
              refine go_region ?_
              refine gM rfl rfl ?_
              refine go_nil ?_
              replace hF := obind hF
              obtain ⟨s25, hF, hK25⟩ := hF
              refine go_joinc (β := Option Addr × List Blk) (fun s h' => AccR R_KV 52 h' s.2 (.slice s.1 s25.length s25.length) s25) (fun s => [(0, true, .slice a0_0 p0.length c0_0), (3, true, .pointer (some ⟨b3_1, 0, none⟩)), (4, true, .bool false), (5, true, .bool true), (6, true, .slice a7_0 x7.length c7_0), (7, true, .slice s.1 s25.length s25.length), (8, true, .int .i64 (i15 : Int)), (9, true, .pointer (some ⟨b9_20, 0, none⟩)), (10, true, .bool x19.2), (32, true, .int .i64 (i15 : Int)), (33, true, .slice a7_0 x7.length c7_0), (34, true, .int .i64 (x7.length : Int)), (35, true, .bool true), (38, true, .tuple #[.agg #[.string x19.1.key, .string x19.1.val, .int .i64 x19.1.rev], .bool x19.2]), (39, true, .slice a0_0 p0.length c0_0), (40, true, .slice a7_0 x7.length c7_0), (41, true, .int .i64 (i15 : Int)), (42, true, .pointer (some q18)), (43, true, .string z15), (44, true, .tuple #[.agg #[.string x19.1.key, .string x19.1.val, .int .i64 x19.1.rev], .bool x19.2]), (45, true, .agg #[.string x19.1.key, .string x19.1.val, .int .i64 x19.1.rev]), (46, true, .bool x19.2), (47, true, .int .i64 (i15 : Int)), (48, true, .bool (decide ((i15 : Int) > 0))), (49, true, .bool s22.1), (60, true, .bool s22.2), (61, true, .bool x19.2)]) (fun s => (List.flatten [[⟨b9_20, .cells [.string x19.1.key, .string x19.1.val, .int .i64 x19.1.rev] 52⟩], s.2, [⟨b3_1, .cells [.int .i64 p1.Kind, .string p1.R.From, .string p1.R.To, .int .i64 p1.Rev, .slice a1_4 p1.Cmps.length c1_4, .slice a1_5 p1.Then.length c1_5, .slice a1_6 p1.Else.length c1_6] 27⟩]] : List Blk)) ?_ (fun J25 => ?_)
              ·
                rintro ⟨a25_0, a25_1⟩ h25 e25 w25 f25_0
                replace hF := hK25
                refine go_endb ?_
                refine go_region ?_
                refine gM rfl rfl ?_
                refine gr rfl (r_bin (ot rfl) (oc rfl) rfl) ?_
                refine gA rfl rfl ?_
                refine go_nil ?_
                refine gs_sub (.cons _ (.cons_cons _ (.cons_cons _ (.refl _)))) ?_
                refine go_re 8 (v2 := .int .i64 ((i15 + 1 : Nat) : Int)) rfl (wrap_succ hi15 hb15) ?_
                exact Goes.weak (ih15 (r15, i15 + 1, s25, a25_0, a25_1, h25) ⟨hr15, (e15.trans (e22.trans e25)), w25, hF, f25_0⟩ (Nat.lt_succ_self _)) (Sub.cons (Sub.cons (Sub.cons (Sub.cons (Sub.cons (Sub.cons (Sub.cons (Sub.nil _) rfl) rfl) rfl) rfl) rfl) rfl) rfl)
              ·
                refine g_cond (b := x19.2) (ot rfl) (fun hc24 => ?_) (fun hc24 => ?_)
                ·
                  replace hF := ifT hc24 hF
                  refine go_region ?_
                  refine gM rfl rfl ?_
                  refine gr rfl (r_load (ot rfl) (lm_w (mem_seg 0 rfl) ag_52 sz_52 rfl)) ?_
                  refine gs_bslice (cs := [.string x19.1.key, .string x19.1.val, .int .i64 x19.1.rev]) rfl (op1 (ot rfl) op0) ut_28 sz_52 zo_52 rfl rfl ?_; intro b64_26
                  replace hF := obind hF
                  obtain ⟨x27, hx27, hF⟩ := hF
                  obtain ⟨hr27, rfl⟩ := appL_some hx27
                  refine gs_front (.s (.s (.z))) ?_
                  refine gs_app (rows2 := [[.string x19.1.key, .string x19.1.val, .int .i64 x19.1.rev]]) (R := R_KV) rfl (os1 (ot rfl) (os1 (ot rfl) os0)) rfl ut_28 sz_52 rfl (by decide) by_52 zo_52 rfl zs_28_28 rfl rfl (first_m (mem_seg 1 rfl) rfl (by decide)) (Rws.one (x := x19.1) rfl) (f15_0.ext e22.kn) hr27 (fun p27_ tl27 f27_ => ?_)
                  refine gA rfl rfl ?_
                  refine go_nil ?_
                  obtain rfl := someI hF
                  refine gs_sub (.cons_cons _ (.cons _ (.cons_cons _ (.cons_cons _ (.refl _))))) ?_
                  refine gs_perm (perm_of (d := []) _ [1, 0, 2] rfl) ?_
                  exact Goes.weak (J25 (p27_, tl27) _ (HExt.refl _) w22 f27_) (Sub.cons (Sub.cons (Sub.cons (Sub.cons (Sub.cons (Sub.cons (Sub.cons (Sub.cons (Sub.cons (Sub.cons (Sub.cons (Sub.cons (Sub.cons (Sub.cons (Sub.cons (Sub.cons (Sub.cons (Sub.cons (Sub.cons (Sub.cons (Sub.cons (Sub.cons (Sub.cons (Sub.cons (Sub.cons (Sub.cons (Sub.cons (Sub.nil _) rfl) rfl) rfl) rfl) rfl) rfl) rfl) rfl) rfl) rfl) rfl) rfl) rfl) rfl) rfl) rfl) rfl) rfl) rfl) rfl) rfl) rfl) rfl) rfl) rfl) rfl) rfl)
                ·
                  replace hF := ifF hc24 hF
                  refine go_skip ?_
                  obtain rfl := someI hF
                  exact Goes.weak (J25 (a15_0, a15_1) _ (HExt.refl _) w22 (f15_0.ext e22.kn)) (Sub.cons (Sub.cons (Sub.cons (Sub.cons (Sub.cons (Sub.cons (Sub.cons (Sub.cons (Sub.cons (Sub.cons (Sub.cons (Sub.cons (Sub.cons (Sub.cons (Sub.cons (Sub.cons (Sub.cons (Sub.cons (Sub.cons (Sub.cons (Sub.cons (Sub.cons (Sub.cons (Sub.cons (Sub.cons (Sub.cons (Sub.cons (Sub.nil _) rfl) rfl) rfl) rfl) rfl) rfl) rfl) rfl) rfl) rfl) rfl) rfl) rfl) rfl) rfl) rfl) rfl) rfl) rfl) rfl) rfl) rfl) rfl) rfl) rfl) rfl) rfl)
          ·
            rcases Bool.eq_false_or_eq_true (decide ((i15 : Int) > 0)) with hb21 | hb21
            ·
              replace hF := ifT hb21 hF
              refine go_re 49 (v2 := .bool true) rfl (congrArg Value.bool hb21) ?_
              refine g_do rfl rfl rfl ?_
              refine gM rfl rfl ?_
              refine g_do rfl rfl rfl ?_
              refine gM rfl rfl ?_
              refine g_do rfl rfl rfl ?_
              refine gr rfl (r_bin (ot rfl) (oc rfl) rfl) ?_
              refine g_do rfl rfl rfl ?_
              replace hF := obind hF
              obtain ⟨x28, hx28, hF⟩ := hF
              obtain ⟨q28, row28, i28, cl28, rc28, sp28⟩ := ix (ik := .i64) (cap := c7_0) (E := EE) (f7_0.ext e15.kn) hx28 ut_49 sz_9 rfl
              obtain rfl := rc28
              refine gr rfl (r_ia (ot rfl) (ot rfl) i28) ?_
              refine g_do rfl rfl rfl ?_
              refine gr rfl (r_load (ot rfl) (v := .string x28) (lo_e (fun hf kn => ld_one ag_9 (kn.cellsAt cl28)))) ?_
              refine g_do rfl rfl rfl ?_
              refine gM rfl rfl ?_
              refine g_do rfl rfl rfl ?_
              refine gM rfl rfl ?_
              refine g_do rfl rfl rfl ?_
              obtain ⟨q29, row29, i29, cl29, rc29, sp29⟩ := ix (ik := .i64) (cap := c7_0) (E := EE) (f7_0.ext e15.kn) ((getI_nat _ _).trans hx15) ut_49 sz_9 rfl
              obtain rfl := rc29
              refine gr rfl (r_ia (ot rfl) (ot rfl) i29) ?_
              refine g_do rfl rfl rfl ?_
              refine gr rfl (r_load (ot rfl) (v := .string z15) (lo_e (fun hf kn => ld_one ag_9 (kn.cellsAt cl29)))) ?_
              refine g_do rfl rfl rfl ?_
              refine gr rfl (r_bin (ot rfl) (ot rfl) rfl) ?_
              refine gr rfl (r_pkT (ot rfl) (ot rfl)) ?_
              obtain rfl := someI hF
              exact Goes.weak (J22 () _ (HExt.refl _) w15 trivial) (Sub.cons (Sub.cons (Sub.cons (Sub.cons (Sub.cons (Sub.cons (Sub.cons (Sub.cons (Sub.cons (Sub.cons (Sub.cons (Sub.cons (Sub.cons (Sub.cons (Sub.cons (Sub.cons (Sub.cons (Sub.cons (Sub.cons (Sub.cons (Sub.cons (Sub.cons (Sub.cons (Sub.cons (Sub.cons (Sub.cons (Sub.nil _) rfl) rfl) rfl) rfl) rfl) rfl) rfl) rfl) rfl) rfl) rfl) rfl) rfl) rfl) rfl) rfl) rfl) rfl) rfl) rfl) rfl) rfl) rfl) rfl) rfl) rfl)
            ·
              replace hF := ifF hb21 hF
              refine go_re 49 (v2 := .bool false) rfl (congrArg Value.bool hb21) ?_
              refine g_no rfl rfl rfl rfl rfl ?_
              refine g_no rfl rfl rfl rfl rfl ?_
              refine g_no rfl rfl rfl rfl rfl ?_
              refine g_no rfl rfl rfl rfl rfl ?_
              refine g_no rfl rfl rfl rfl rfl ?_
              refine g_no rfl rfl rfl rfl rfl ?_
              refine g_no rfl rfl rfl rfl rfl ?_
              refine g_no rfl rfl rfl rfl rfl ?_
              refine g_no rfl rfl rfl rfl rfl ?_
              refine g_no rfl rfl rfl rfl rfl ?_
              refine gr rfl (r_pkF (ot rfl) (oc rfl)) ?_
              obtain rfl := someI hF
              exact Goes.weak (J22 () _ (HExt.refl _) w15 trivial) (Sub.cons (Sub.cons (Sub.cons (Sub.cons (Sub.cons (Sub.cons (Sub.cons (Sub.cons (Sub.cons (Sub.cons (Sub.cons (Sub.cons (Sub.cons (Sub.cons (Sub.cons (Sub.cons (Sub.cons (Sub.cons (Sub.cons (Sub.cons (Sub.cons (Sub.cons (Sub.cons (Sub.cons (Sub.cons (Sub.cons (Sub.nil _) rfl) rfl) rfl) rfl) rfl) rfl) rfl) rfl) rfl) rfl) rfl) rfl) rfl) rfl) rfl) rfl) rfl) rfl) rfl) rfl) rfl) rfl) rfl) rfl) rfl) rfl)
  ·
    rcases Bool.eq_false_or_eq_true (bif (!x3) then true else (decide ((p0.length : Int) > 60))) with hb4 | hb4
    ·
      replace hF := ifT hb4 hF
      refine go_re 24 (v2 := .bool true) rfl (congrArg Value.bool hb4) ?_
      refine g_no rfl rfl rfl rfl rfl ?_
      refine g_no rfl rfl rfl rfl rfl ?_
      refine g_no rfl rfl rfl rfl rfl ?_
      refine gr rfl (r_pkT (ot rfl) (oc rfl)) ?_
      obtain rfl := someI hF
      exact Goes.weak (J5 () _ (HExt.refl _) hw trivial) (Sub.cons (Sub.cons (Sub.cons (Sub.cons (Sub.cons (Sub.nil _) rfl) rfl) rfl) rfl) rfl)
    ·
      replace hF := ifF hb4 hF
      refine go_re 24 (v2 := .bool false) rfl (congrArg Value.bool hb4) ?_
      refine g_do rfl rfl rfl ?_
      refine gM rfl rfl ?_
      refine g_do rfl rfl rfl ?_
      replace hF := obind hF
      obtain ⟨x30, hx30, hF⟩ := hF
      refine g_callp (v := .bool x30) EE_fr rfl of (os1 (ot rfl) os0) hb_13 (fun _ => rfl) (fun hf kn w => by exact s_ref05_Map w p0 (f0_0.ext kn) hx30) ?_
      refine g_do rfl rfl rfl ?_
      refine gr rfl (r_un (ot rfl) rfl) ?_
      refine gr rfl (r_pkF (ot rfl) (ot rfl)) ?_
      obtain rfl := someI hF
      exact Goes.weak (J5 () _ (HExt.refl _) hw trivial) (Sub.cons (Sub.cons (Sub.cons (Sub.cons (Sub.cons (Sub.nil _) rfl) rfl) rfl) rfl) rfl)
end Go.Proofs.Ytadfhabapgipbaa.V
