/- Walks.
   No condition: these are laws of the clean machine and of this program. -/
import Derived.Test.YtadfhabapgipbaaWa
namespace Go.Proofs.Ytadfhabapgipbaa.V
open Go
set_option linter.unusedVariables false
set_option linter.unusedSimpArgs false
set_option maxRecDepth 100000
theorem s_txn_Put {h : Heap} (hw : Wf h) (p0 : ByteArray) (p1 : ByteArray)   {r : TReq} (hF : F_txn_Put p0 p1 = some r) :
    Ev EE 29 [.string p0, .string p1] h (fun v h1 => ∃ a0 c0 a1 c1 a2 c2, v = .agg #[.int .i64 r.Kind, .string r.R.From, .string r.R.To, .int .i64 r.Rev, .slice a0 r.Cmps.length c0, .slice a1 r.Then.length c1, .slice a2 r.Else.length c2] ∧ RL R_Cmp h1 a0 c0 r.Cmps ∧ RL R_OpX h1 a1 c1 r.Then ∧ RL R_OpX h1 a2 c2 r.Else) := by
  unfold F_txn_Put at hF
  refine ev_of hw rfl at_29 rfl rfl (go_seg0 ?_)
  refine go_seq ?_
  refine go_region ?_
  refine gs_alloc rfl zo_27 rfl ?_; intro b4_1
  refine go_nil ?_
  refine go_seq ?_
  refine go_region ?_
  refine gM rfl rfl ?_
  refine gM rfl rfl ?_
  refine gr rfl (r_build (op1 (ot rfl) (op1 (ot rfl) op0)) rfl) ?_
  refine gs_bslice (cs := [.string p0, .string p1, .bool false]) rfl (op1 (ot rfl) op0) ut_25 sz_69 zo_69 rfl rfl ?_; intro b8_2
  refine gr rfl (r_build (op1 (oc rfl) (op1 (ot rfl) op0)) rfl) ?_
  refine gs_store (ot rfl) (ot rfl) sz_27 rfl rfl rfl rfl rfl (.s (.z)) ?_
  refine go_nil ?_
  refine gs_pub .z (fun h3 e3 w3 hb3 => ?_)
  have f3_ : RL R_OpX h3 (some ⟨b8_2, 0, none⟩) 1 ([(⟨p0, p1, false⟩ : OpX)] : List OpX) := RL.of_blk (rows := [[.string p0, .string p1, .bool false]]) (.inl rfl) hb3 rfl (Rws.cons (x := (⟨p0, p1, false⟩ : OpX)) rfl Rws.nil) (by simp) (by simp) rfl
  obtain rfl := someI hF
  exact g_ret (rsc rfl (lm_w (mem_seg 0 rfl) ag_27 sz_27 rfl) rs0) (fun h1 hf hs => ⟨(e3.trans hs.hext), ⟨_, _, _, _, _, _, rfl, (RL.nil _ _ _), (f3_.ext hs.hext.kn), (RL.nil _ _ _)⟩⟩)
theorem s_txn_Del {h : Heap} (hw : Wf h) (p0 : ByteArray)   {r : TReq} (hF : F_txn_Del p0 = some r) :
    Ev EE 30 [.string p0] h (fun v h1 => ∃ a0 c0 a1 c1 a2 c2, v = .agg #[.int .i64 r.Kind, .string r.R.From, .string r.R.To, .int .i64 r.Rev, .slice a0 r.Cmps.length c0, .slice a1 r.Then.length c1, .slice a2 r.Else.length c2] ∧ RL R_Cmp h1 a0 c0 r.Cmps ∧ RL R_OpX h1 a1 c1 r.Then ∧ RL R_OpX h1 a2 c2 r.Else) := by
  unfold F_txn_Del at hF
  refine ev_of hw rfl at_30 rfl rfl (go_seg0 ?_)
  refine go_seq ?_
  refine go_region ?_
  refine gs_alloc rfl zo_27 rfl ?_; intro b2_1
  refine go_nil ?_
  refine go_seq ?_
  refine go_region ?_
  refine gM rfl rfl ?_
  refine gr rfl (r_build (op1 (ot rfl) (op1 (oc rfl) op0)) rfl) ?_
  refine gs_bslice (cs := [.string p0, .string ByteArray.empty, .bool true]) rfl (op1 (ot rfl) op0) ut_25 sz_69 zo_69 rfl rfl ?_; intro b5_2
  refine gr rfl (r_build (op1 (oc rfl) (op1 (ot rfl) op0)) rfl) ?_
  refine gs_store (ot rfl) (ot rfl) sz_27 rfl rfl rfl rfl rfl (.s (.z)) ?_
  refine go_nil ?_
  refine gs_pub .z (fun h3 e3 w3 hb3 => ?_)
  have f3_ : RL R_OpX h3 (some ⟨b5_2, 0, none⟩) 1 ([(⟨p0, ByteArray.empty, true⟩ : OpX)] : List OpX) := RL.of_blk (rows := [[.string p0, .string ByteArray.empty, .bool true]]) (.inl rfl) hb3 rfl (Rws.cons (x := (⟨p0, ByteArray.empty, true⟩ : OpX)) rfl Rws.nil) (by simp) (by simp) rfl
  obtain rfl := someI hF
  exact g_ret (rsc rfl (lm_w (mem_seg 0 rfl) ag_27 sz_27 rfl) rs0) (fun h1 hf hs => ⟨(e3.trans hs.hext), ⟨_, _, _, _, _, _, rfl, (RL.nil _ _ _), (f3_.ext hs.hext.kn), (RL.nil _ _ _)⟩⟩)
theorem s_txn_Swap {h : Heap} (hw : Wf h) (p0 : ByteArray) (p1 : ByteArray) (p2 : ByteArray)   {r : TReq} (hF : F_txn_Swap p0 p1 p2 = some r) :
    Ev EE 31 [.string p0, .string p1, .string p2] h (fun v h1 => ∃ a0 c0 a1 c1 a2 c2, v = .agg #[.int .i64 r.Kind, .string r.R.From, .string r.R.To, .int .i64 r.Rev, .slice a0 r.Cmps.length c0, .slice a1 r.Then.length c1, .slice a2 r.Else.length c2] ∧ RL R_Cmp h1 a0 c0 r.Cmps ∧ RL R_OpX h1 a1 c1 r.Then ∧ RL R_OpX h1 a2 c2 r.Else) := by
  unfold F_txn_Swap at hF
  refine ev_of hw rfl at_31 rfl rfl (go_seg0 ?_)
  refine go_seq ?_
  refine go_region ?_
  refine gs_alloc rfl zo_27 rfl ?_; intro b6_1
  refine go_nil ?_
  refine go_seq ?_
  refine go_region ?_
  refine gM rfl rfl ?_
  refine gM rfl rfl ?_
  replace hF := obind hF
  obtain ⟨x2, hx2, hF⟩ := hF
  refine g_call EE_fr (fun _ h => by cases h; rfl) of (os1 (ot rfl) (os1 (ot rfl) os0)) hb_29 (fun hf kn w => by exact s_txn_Put w p0 p2  hx2) ?_
  rintro v2 h2 e2 w2 ⟨a2_0, c2_0, a2_1, c2_1, a2_2, c2_2, rfl, f2_0, f2_1, f2_2⟩
  refine gs_alloc rfl zo_27 rfl ?_; intro b7_3
  refine gs_store (ot rfl) (ot rfl) sz_27 rfl rfl rfl rfl rfl .z ?_
  refine go_nil ?_
  refine go_seq ?_
  refine go_region ?_
  refine gM rfl rfl ?_
  refine gM rfl rfl ?_
  refine gr rfl (r_build (op1 (oc rfl) (op1 (ot rfl) (op1 (ot rfl) op0))) rfl) ?_
  refine gs_bslice (cs := [.int .i64 1, .string p0, .string p1, .int .i64 0]) rfl (op1 (ot rfl) op0) ut_24 sz_65 zo_65 rfl rfl ?_; intro b14_4
  refine gr rfl (r_fa (ot rfl) (fa_27_3 _ _)) ?_
  refine gs_store (ot rfl) (ot rfl) sz_24 rfl rfl rfl rfl rfl (.s (.z)) ?_
  refine go_nil ?_
  refine go_seq ?_
  refine go_region ?_
  refine gr rfl (r_load (ot rfl) (lm_w (mem_seg 1 rfl) ag_27 sz_27 rfl)) ?_
  refine gs_store (ot rfl) (ot rfl) sz_27 rfl rfl rfl rfl rfl (.s (.s (.z))) ?_
  refine go_nil ?_
  refine gs_pub .z (fun h5 e5 w5 hb5 => ?_)
  have f5_ : RL R_Cmp h5 (some ⟨b14_4, 0, none⟩) 1 ([(⟨1, p0, p1, 0⟩ : Cmp)] : List Cmp) := RL.of_blk (rows := [[.int .i64 1, .string p0, .string p1, .int .i64 0]]) (.inl rfl) hb5 rfl (Rws.cons (x := (⟨1, p0, p1, 0⟩ : Cmp)) rfl Rws.nil) (by simp) (by simp) rfl
  obtain rfl := someI hF
  exact g_ret (rsc rfl (lm_w (mem_seg 1 rfl) ag_27 sz_27 rfl) rs0) (fun h1 hf hs => ⟨(e2.trans (e5.trans hs.hext)), ⟨_, _, _, _, _, _, rfl, (f5_.ext hs.hext.kn), ((f2_1.ext e5.kn).ext hs.hext.kn), ((f2_2.ext e5.kn).ext hs.hext.kn)⟩⟩)
theorem s_law07_TxnShort (n : Nat) {h : Heap} (hw : Wf h) (p0 : (List KV)) (p1 : ByteArray) (p2 : A2_ByteArray) {a0_0 : Option Addr} {c0_0 : Nat} (f0_0 : RL R_KV h a0_0 c0_0 p0) {r : Bool} (hF : F_law07_TxnShort n p0 p1 p2 = some r) :
    Ev EE 9 [.slice a0_0 p0.length c0_0, .string p1, .agg #[.string p2.x0, .string p2.x1]] h (fun v _ => v = .bool r) := by
  unfold F_law07_TxnShort at hF
  refine ev_of hw rfl at_9 rfl rfl (go_seg0 ?_)
  refine go_seq ?_
  refine go_region ?_
  refine gs_box rfl (ot rfl) rfl ?_; intro b5_1
  refine gAc rfl rfl ?_
  refine go_nil ?_
  refine go_seq ?_
  refine go_region ?_
  refine g_callp EE_fr rfl of os0 hb_22 (fun _ => rfl) (fun hf kn w => by exact known_ev rfl hf w) ?_
  refine gA rfl rfl ?_
  refine go_nil ?_
  refine go_seq ?_
  refine go_seq ?_
  refine go_region ?_
  refine gM rfl rfl ?_
  refine gr rfl (r_len rfl (os1 (ot rfl) os0) (fun _ _ => ln_28)) ?_
  refine gr rfl (r_bin (ot rfl) (oc rfl) rfl) ?_
  refine gM rfl rfl ?_
  replace hF := obind hF
  obtain ⟨s4, hF, hK4⟩ := hF
  refine go_joinr 4 (β := Unit) (fun s h' => True) (fun s => [(0, true, .slice a0_0 p0.length c0_0), (1, true, .string p1), (5, true, .pointer (some ⟨b5_1, 0, none⟩)), (6, true, .bool false), (7, true, .bool true), (28, true, .bool s4)]) (fun s => (List.flatten [[⟨b5_1, .cells [.string p2.x0, .string p2.x1] 71⟩]] : List Blk)) ?_ (fun J4 => ?_)
  ·
    rintro _ h4 e4 w4 _
    replace hF := hK4
    refine gM rfl rfl ?_
    refine grf rfl rfl rfl rfl (r_move (ot rfl)) ?_
    refine grf rfl rfl rfl rfl (r_len rfl (os1 (og rfl id) os0) (fun _ _ => ln_9)) ?_
    refine grf rfl rfl rfl rfl (r_bin (og rfl id) (oc rfl) rfl) ?_
    refine gr rfl (r_pickb (ot rfl) (oc rfl) (og rfl id)) ?_
    refine gM rfl rfl ?_
    refine grf rfl rfl rfl rfl (r_move (ot rfl)) ?_
    refine grf rfl rfl rfl rfl (r_len rfl (os1 (og rfl id) os0) (fun _ _ => ln_9)) ?_
    refine grf rfl rfl rfl rfl (r_bin (og rfl id) (oc rfl) rfl) ?_
    refine gr rfl (r_pickb (ot rfl) (oc rfl) (og rfl id)) ?_
    refine gM rfl rfl ?_
    refine grf rfl rfl rfl rfl (r_ia (ot rfl) (oc rfl) (ja_71_0 _ _)) ?_
    refine grf rfl rfl rfl rfl (r_load (og rfl id) (lm_s (mem_seg 0 rfl) ag_9 rfl)) ?_
    refine grf rfl rfl rfl rfl (r_len rfl (os1 (og rfl id) os0) (fun _ _ => ln_9)) ?_
    refine grf rfl rfl rfl rfl (r_bin (og rfl id) (oc rfl) rfl) ?_
    refine gr rfl (r_pickb (ot rfl) (oc rfl) (og rfl id)) ?_
    refine gM rfl rfl ?_
    refine grf rfl rfl rfl rfl (r_ia (ot rfl) (oc rfl) (ja_71_1 _ _)) ?_
    refine grf rfl rfl rfl rfl (r_load (og rfl id) (lm_s (mem_seg 0 rfl) ag_9 rfl)) ?_
    refine grf rfl rfl rfl rfl (r_len rfl (os1 (og rfl id) os0) (fun _ _ => ln_9)) ?_
    refine grf rfl rfl rfl rfl (r_bin (og rfl id) (oc rfl) rfl) ?_
    refine gr rfl (r_pickb (ot rfl) (oc rfl) (og rfl id)) ?_
    refine go_nil ?_
    refine g_cond (b := (bif (bif (bif (bif s4 then true else (decide ((p1.size : Int) < 1))) then true else (decide ((p1.size : Int) > 8))) then true else (decide ((p2.x0.size : Int) > 8))) then true else (decide ((p2.x1.size : Int) > 8)))) (ot rfl) (fun hc5 => ?_) (fun hc5 => ?_)
    ·
      replace hF := ifT hc5 hF
      refine go_seq ?_
      refine go_region ?_
      refine gM rfl rfl ?_
      refine gA rfl rfl ?_
      refine go_nil ?_
      obtain rfl := someI hF
      exact g_ret (rst rfl rs0) (fun h1 hf hs => ⟨(e4.trans hs.hext), rfl⟩)
    ·
      replace hF := ifF hc5 hF
      refine go_skip ?_
      refine go_seq ?_
      refine go_region ?_
      refine gM rfl rfl ?_
      refine gM rfl rfl ?_
      replace hF := obind hF
      obtain ⟨x6, hx6, hF⟩ := hF
      refine g_callp (v := .tuple #[.agg #[.string x6.1.key, .string x6.1.val, .int .i64 x6.1.rev], .bool x6.2]) EE_fr rfl of (os1 (ot rfl) (os1 (ot rfl) os0)) hb_24 (fun _ => rfl) (fun hf kn w => by exact s_ref06_Get w p0 p1 ((f0_0.ext e4.kn).ext kn) hx6) ?_
      refine gM rfl rfl ?_
      refine gE rfl rfl rfl ?_
      refine gE rfl rfl rfl ?_
      refine gs_alloc rfl zo_52 rfl ?_; intro b8_7
      refine gs_store (ot rfl) (ot rfl) sz_52 rfl rfl rfl rfl rfl .z ?_
      refine gA rfl rfl ?_
      refine go_nil ?_
      refine go_seq ?_
      refine go_region ?_
      refine gM rfl rfl ?_
      refine gM rfl rfl ?_
      refine gr rfl (r_ia (ot rfl) (oc rfl) (ja_71_0 _ _)) ?_
      refine gr rfl (r_load (ot rfl) (lm_s (mem_seg 1 rfl) ag_9 rfl)) ?_
      replace hF := obind hF
      obtain ⟨x8, hx8, hF⟩ := hF
      refine g_call EE_fr (fun _ h => by cases h; rfl) of (os1 (ot rfl) (os1 (ot rfl) os0)) hb_29 (fun hf kn w => by exact s_txn_Put w p1 p2.x0  hx8) ?_
      rintro v8 h8 e8 w8 ⟨a8_0, c8_0, a8_1, c8_1, a8_2, c8_2, rfl, f8_0, f8_1, f8_2⟩
      replace hF := obind hF
      obtain ⟨x9, hx9, hF⟩ := hF
      refine g_call EE_fr (fun _ h => by cases h; rfl) of (os1 (ot rfl) (os1 (ot rfl) os0)) hb_25 (fun hf kn w => by exact s_txn_Plan n w p0 x8 (((f0_0.ext e4.kn).ext e8.kn).ext kn) (f8_0.ext kn) (f8_1.ext kn) (f8_2.ext kn) hx9) ?_
      rintro v9 h9 e9 w9 ⟨a9_0, c9_0, rfl, f9_0⟩
      refine gM rfl rfl ?_
      refine gE rfl rfl rfl ?_
      refine gE rfl rfl rfl ?_
      refine gA rfl rfl ?_
      refine gA rfl rfl ?_
      refine go_nil ?_
      refine go_seq ?_
      refine go_region ?_
      refine gM rfl rfl ?_
      refine gM rfl rfl ?_
      replace hF := obind hF
      obtain ⟨x10, hx10, hF⟩ := hF
      refine g_call EE_fr (fun _ h => by cases h; rfl) of (os1 (ot rfl) os0) hb_30 (fun hf kn w => by exact s_txn_Del w p1  hx10) ?_
      rintro v10 h10 e10 w10 ⟨a10_0, c10_0, a10_1, c10_1, a10_2, c10_2, rfl, f10_0, f10_1, f10_2⟩
      replace hF := obind hF
      obtain ⟨x11, hx11, hF⟩ := hF
      refine g_call EE_fr (fun _ h => by cases h; rfl) of (os1 (ot rfl) (os1 (ot rfl) os0)) hb_25 (fun hf kn w => by exact s_txn_Plan n w p0 x10 (((((f0_0.ext e4.kn).ext e8.kn).ext e9.kn).ext e10.kn).ext kn) (f10_0.ext kn) (f10_1.ext kn) (f10_2.ext kn) hx11) ?_
      rintro v11 h11 e11 w11 ⟨a11_0, c11_0, rfl, f11_0⟩
      refine gM rfl rfl ?_
      refine gE rfl rfl rfl ?_
      refine gE rfl rfl rfl ?_
      refine gA rfl rfl ?_
      refine gA rfl rfl ?_
      refine go_nil ?_
      refine go_seq ?_
      refine go_region ?_
      refine gM rfl rfl ?_
      refine gM rfl rfl ?_
      refine gr rfl (r_ia (ot rfl) (oc rfl) (ja_71_0 _ _)) ?_
      refine gr rfl (r_load (ot rfl) (lm_s (mem_seg 1 rfl) ag_9 rfl)) ?_
      refine gr rfl (r_ia (ot rfl) (oc rfl) (ja_71_1 _ _)) ?_
      refine gr rfl (r_load (ot rfl) (lm_s (mem_seg 1 rfl) ag_9 rfl)) ?_
      replace hF := obind hF
      obtain ⟨x12, hx12, hF⟩ := hF
      refine g_call EE_fr (fun _ h => by cases h; rfl) of (os1 (ot rfl) (os1 (ot rfl) (os1 (ot rfl) os0))) hb_31 (fun hf kn w => by exact s_txn_Swap w p1 p2.x0 p2.x1  hx12) ?_
      rintro v12 h12 e12 w12 ⟨a12_0, c12_0, a12_1, c12_1, a12_2, c12_2, rfl, f12_0, f12_1, f12_2⟩
      replace hF := obind hF
      obtain ⟨x13, hx13, hF⟩ := hF
      refine g_call EE_fr (fun _ h => by cases h; rfl) of (os1 (ot rfl) (os1 (ot rfl) os0)) hb_25 (fun hf kn w => by exact s_txn_Plan n w p0 x12 (((((((f0_0.ext e4.kn).ext e8.kn).ext e9.kn).ext e10.kn).ext e11.kn).ext e12.kn).ext kn) (f12_0.ext kn) (f12_1.ext kn) (f12_2.ext kn) hx13) ?_
      rintro v13 h13 e13 w13 ⟨a13_0, c13_0, rfl, f13_0⟩
      refine gM rfl rfl ?_
      refine gE rfl rfl rfl ?_
      refine gE rfl rfl rfl ?_
      refine gA rfl rfl ?_
      refine gA rfl rfl ?_
      refine go_nil ?_
      refine go_seq ?_
      refine go_region ?_
      refine gM rfl rfl ?_
      refine gr rfl (r_ia (ot rfl) (oc rfl) (ja_71_0 _ _)) ?_
      refine gr rfl (r_load (ot rfl) (lm_s (mem_seg 1 rfl) ag_9 rfl)) ?_
      replace hF := obind hF
      obtain ⟨x14, hx14, hF⟩ := hF
      refine g_call EE_fr (fun _ h => by cases h; rfl) of (os1 (ot rfl) (os1 (ot rfl) os0)) hb_29 (fun hf kn w => by exact s_txn_Put w p1 p2.x0  hx14) ?_
      rintro v14 h14 e14 w14 ⟨a14_0, c14_0, a14_1, c14_1, a14_2, c14_2, rfl, f14_0, f14_1, f14_2⟩
      replace hF := obind hF
      obtain ⟨x15, hx15, hF⟩ := hF
      refine g_callp (v := .int .i64 x15) EE_fr rfl of (os1 (ot rfl) os0) hb_28 (fun _ => rfl) (fun hf kn w => by exact s_txn_May w x14 (f14_0.ext kn) (f14_1.ext kn) (f14_2.ext kn) hx15) ?_
      refine gr rfl (r_bin (ot rfl) (oc rfl) rfl) ?_
      refine gM rfl rfl ?_
      replace hF := obind hF
      obtain ⟨s17, hF, hK17⟩ := hF
      refine go_joinr 5 (β := Unit) (fun s h' => True) (fun s => [(1, true, .string p1), (5, true, .pointer (some ⟨b5_1, 0, none⟩)), (6, true, .bool false), (7, true, .bool true), (8, true, .pointer (some ⟨b8_7, 0, none⟩)), (9, true, .bool x6.2), (10, true, .bool x9.1), (11, true, .slice a9_0 x9.2.length c9_0), (12, true, .bool x11.1), (13, true, .slice a11_0 x11.2.length c11_0), (14, true, .bool x13.1), (15, true, .slice a13_0 x13.2.length c13_0), (96, true, .bool s17)]) (fun s => (List.flatten [[⟨b8_7, .cells [.string x6.1.key, .string x6.1.val, .int .i64 x6.1.rev] 52⟩], [⟨b5_1, .cells [.string p2.x0, .string p2.x1] 71⟩]] : List Blk)) ?_ (fun J17 => ?_)
      ·
        rintro _ h17 e17 w17 _
        replace hF := hK17
        refine gM rfl rfl ?_
        replace hF := obind hF
        obtain ⟨s19, hF, hK19⟩ := hF
        refine go_joinr 9 (β := Unit) (fun s h' => True) (fun s => [(1, true, .string p1), (5, true, .pointer (some ⟨b5_1, 0, none⟩)), (6, true, .bool false), (7, true, .bool true), (8, true, .pointer (some ⟨b8_7, 0, none⟩)), (9, true, .bool x6.2), (10, true, .bool x9.1), (11, true, .slice a9_0 x9.2.length c9_0), (12, true, .bool x11.1), (13, true, .slice a11_0 x11.2.length c11_0), (14, true, .bool x13.1), (15, true, .slice a13_0 x13.2.length c13_0), (106, true, .bool s19)]) (fun s => (List.flatten [[⟨b8_7, .cells [.string x6.1.key, .string x6.1.val, .int .i64 x6.1.rev] 52⟩], [⟨b5_1, .cells [.string p2.x0, .string p2.x1] 71⟩]] : List Blk)) ?_ (fun J19 => ?_)
        ·
          rintro _ h19 e19 w19 _
          replace hF := hK19
          refine gA rfl rfl ?_
          refine go_nil ?_
          refine go_seq ?_
          refine go_region ?_
          refine gM rfl rfl ?_
          refine gM rfl rfl ?_
          replace hF := obind hF
          obtain ⟨s21, hF, hK21⟩ := hF
          refine go_joinr 8 (β := Unit) (fun s h' => True) (fun s => [(1, true, .string p1), (5, true, .pointer (some ⟨b5_1, 0, none⟩)), (6, true, .bool false), (7, true, .bool true), (8, true, .pointer (some ⟨b8_7, 0, none⟩)), (9, true, .bool x6.2), (12, true, .bool x11.1), (13, true, .slice a11_0 x11.2.length c11_0), (14, true, .bool x13.1), (15, true, .slice a13_0 x13.2.length c13_0), (16, true, .bool s19), (116, true, .bool s21)]) (fun s => (List.flatten [[⟨b8_7, .cells [.string x6.1.key, .string x6.1.val, .int .i64 x6.1.rev] 52⟩], [⟨b5_1, .cells [.string p2.x0, .string p2.x1] 71⟩]] : List Blk)) ?_ (fun J21 => ?_)
          ·
            rintro _ h21 e21 w21 _
            replace hF := hK21
            refine gA rfl rfl ?_
            refine go_nil ?_
            refine go_seq ?_
            refine go_region ?_
            refine gM rfl rfl ?_
            refine gM rfl rfl ?_
            refine grt rfl rfl rfl rfl (r_move (ot rfl)) ?_
            refine grt rfl rfl rfl rfl (r_len rfl (os1 (og rfl id) os0) (fun _ _ => ln_25)) ?_
            refine grt rfl rfl rfl rfl (r_bin (og rfl id) (oc rfl) rfl) ?_
            refine grt rfl rfl rfl rfl (r_move (ot rfl)) ?_
            refine grt rfl rfl rfl rfl (r_bin (og rfl id) (og rfl id) be_4) ?_
            refine gr rfl (r_pickb (ot rfl) (og rfl id) (oc rfl)) ?_
            refine gM rfl rfl ?_
            replace hF := obind hF
            obtain ⟨s23, hF, hK23⟩ := hF
            refine go_joinr 11 (β := Unit) (fun s h' => True) (fun s => [(1, true, .string p1), (5, true, .pointer (some ⟨b5_1, 0, none⟩)), (6, true, .bool false), (7, true, .bool true), (8, true, .pointer (some ⟨b8_7, 0, none⟩)), (9, true, .bool x6.2), (14, true, .bool x13.1), (15, true, .slice a13_0 x13.2.length c13_0), (16, true, .bool s19), (17, true, .bool s21), (136, true, .bool s23)]) (fun s => (List.flatten [[⟨b8_7, .cells [.string x6.1.key, .string x6.1.val, .int .i64 x6.1.rev] 52⟩], [⟨b5_1, .cells [.string p2.x0, .string p2.x1] 71⟩]] : List Blk)) ?_ (fun J23 => ?_)
            ·
              rintro _ h23 e23 w23 _
              replace hF := hK23
              refine gA rfl rfl ?_
              refine go_nil ?_
              refine go_seq ?_
              refine go_region ?_
              refine gM rfl rfl ?_
              refine gM rfl rfl ?_
              refine gM rfl rfl ?_
              refine grt rfl rfl rfl rfl (r_fa (ot rfl) (fa_52_1 _ _)) ?_
              refine grt rfl rfl rfl rfl (r_load (og rfl id) (lm_s (mem_seg 0 rfl) ag_9 rfl)) ?_
              refine grt rfl rfl rfl rfl (r_ia (ot rfl) (oc rfl) (ja_71_0 _ _)) ?_
              refine grt rfl rfl rfl rfl (r_load (og rfl id) (lm_s (mem_seg 1 rfl) ag_9 rfl)) ?_
              refine grt rfl rfl rfl rfl (r_bin (og rfl id) (og rfl id) rfl) ?_
              refine gr rfl (r_pickb (ot rfl) (og rfl id) (oc rfl)) ?_
              refine gr rfl (r_bin (ot rfl) (ot rfl) be_4) ?_
              refine gM rfl rfl ?_
              refine grt rfl rfl rfl rfl (r_move (ot rfl)) ?_
              refine grt rfl rfl rfl rfl (r_len rfl (os1 (og rfl id) os0) (fun _ _ => ln_25)) ?_
              refine grt rfl rfl rfl rfl (r_bin (og rfl id) (oc rfl) rfl) ?_
              refine grt rfl rfl rfl rfl (r_move (ot rfl)) ?_
              refine grt rfl rfl rfl rfl (r_bin (og rfl id) (og rfl id) be_4) ?_
              refine gr rfl (r_pickb (ot rfl) (og rfl id) (oc rfl)) ?_
              refine gM rfl rfl ?_
              replace hF := obind hF
              obtain ⟨s25, hF, hK25⟩ := hF
              refine go_joinr 13 (β := Unit) (fun s h' => True) (fun s => [(6, true, .bool false), (7, true, .bool true), (16, true, .bool s19), (17, true, .bool s21), (18, true, .bool s23), (167, true, .bool s25)]) (fun s => (List.flatten [[⟨b8_7, .cells [.string x6.1.key, .string x6.1.val, .int .i64 x6.1.rev] 52⟩], [⟨b5_1, .cells [.string p2.x0, .string p2.x1] 71⟩]] : List Blk)) ?_ (fun J25 => ?_)
              ·
                rintro _ h25 e25 w25 _
                replace hF := hK25
                refine gA rfl rfl ?_
                refine go_nil ?_
                refine go_seq ?_
                refine go_region ?_
                refine gM rfl rfl ?_
                refine gM rfl rfl ?_
                refine g_do rfl rfl rfl ?_
                refine gM rfl rfl ?_
                refine gr rfl (r_pkT (ot rfl) (ot rfl)) ?_
                refine gM rfl rfl ?_
                refine grt rfl rfl rfl rfl (r_move (ot rfl)) ?_
                refine gr rfl (r_pickb (ot rfl) (og rfl id) (oc rfl)) ?_
                refine gM rfl rfl ?_
                refine grt rfl rfl rfl rfl (r_move (ot rfl)) ?_
                refine gr rfl (r_pickb (ot rfl) (og rfl id) (oc rfl)) ?_
                refine gM rfl rfl ?_
                refine grt rfl rfl rfl rfl (r_move (ot rfl)) ?_
                refine gr rfl (r_pickb (ot rfl) (og rfl id) (oc rfl)) ?_
                refine gA rfl rfl ?_
                refine go_nil ?_
                obtain rfl := someI hF
                exact g_ret (rst rfl rs0) (fun h1 hf hs => ⟨(e4.trans (e8.trans (e9.trans (e10.trans (e11.trans (e12.trans (e13.trans (e14.trans (e17.trans (e19.trans (e21.trans (e23.trans (e25.trans hs.hext))))))))))))), rfl⟩)
              ·
                rcases Bool.eq_false_or_eq_true (bif (x13.1 == (bif x6.2 then (eqB x6.1.val p2.x0) else false)) then (((x13.2.length : Int) == 1) == x13.1) else false) with hb24 | hb24
                ·
                  replace hF := ifT hb24 hF
                  refine go_re 154 (v2 := .bool true) rfl (congrArg Value.bool hb24) ?_
                  refine g_do rfl rfl rfl ?_
                  refine gM rfl rfl ?_
                  refine g_do rfl rfl rfl ?_
                  refine gr rfl (r_un (ot rfl) rfl) ?_
                  refine g_do rfl rfl rfl ?_
                  refine gM rfl rfl ?_
                  replace hF := obind hF
                  obtain ⟨s27, hF, hK27⟩ := hF
                  refine go_joinr 9 (β := Unit) (fun s h' => True) (fun s => [(6, true, .bool false), (7, true, .bool true), (16, true, .bool s19), (17, true, .bool s21), (18, true, .bool s23), (154, true, .bool true), (166, true, .bool s27)]) (fun s => (List.flatten [[⟨b8_7, .cells [.string x6.1.key, .string x6.1.val, .int .i64 x6.1.rev] 52⟩], [⟨b5_1, .cells [.string p2.x0, .string p2.x1] 71⟩]] : List Blk)) ?_ (fun J27 => ?_)
                  ·
                    rintro _ h27 e27 w27 _
                    replace hF := hK27
                    refine gr rfl (r_pkT (ot rfl) (ot rfl)) ?_
                    obtain rfl := someI hF
                    exact Goes.weak (J25 () _ e27 w27 trivial) (Sub.cons (Sub.cons (Sub.cons (Sub.cons (Sub.cons (Sub.cons (Sub.nil _) rfl) rfl) rfl) rfl) rfl) rfl)
                  ·
                    rcases Bool.eq_false_or_eq_true (!x13.1) with hb26 | hb26
                    ·
                      replace hF := ifT hb26 hF
                      refine go_re 157 (v2 := .bool true) rfl (congrArg Value.bool hb26) ?_
                      refine g_no rfl rfl rfl rfl rfl ?_
                      refine g_no rfl rfl rfl rfl rfl ?_
                      refine g_no rfl rfl rfl rfl rfl ?_
                      refine g_no rfl rfl rfl rfl rfl ?_
                      refine g_no rfl rfl rfl rfl rfl ?_
                      refine g_no rfl rfl rfl rfl rfl ?_
                      refine g_no rfl rfl rfl rfl rfl ?_
                      refine g_no rfl rfl rfl rfl rfl ?_
                      refine g_do rfl rfl rfl ?_
                      refine gr rfl (r_pkT (ot rfl) (oc rfl)) ?_
                      obtain rfl := someI hF
                      exact Goes.weak (J27 () _ (HExt.refl _) w23 trivial) (Sub.cons (Sub.cons (Sub.cons (Sub.cons (Sub.cons (Sub.cons (Sub.cons (Sub.nil _) rfl) rfl) rfl) rfl) rfl) rfl) rfl)
                    ·
                      replace hF := ifF hb26 hF
                      refine go_re 157 (v2 := .bool false) rfl (congrArg Value.bool hb26) ?_
                      refine g_do rfl rfl rfl ?_
                      refine gM rfl rfl ?_
                      refine g_do rfl rfl rfl ?_
                      replace hF := obind hF
                      obtain ⟨x28, hx28, hF⟩ := hF
                      obtain ⟨q28, row28, i28, cl28, rc28, sp28⟩ := ix (ik := .i64) (cap := c13_0) (E := EE) (((((f13_0.ext e14.kn).ext e17.kn).ext e19.kn).ext e21.kn).ext e23.kn) hx28 ut_25 sz_69 rfl
                      obtain rfl := rc28
                      refine gr rfl (r_ia (ot rfl) (oc rfl) i28) ?_
                      refine g_do rfl rfl rfl ?_
                      refine gr rfl (r_load (ot rfl) (v := .agg #[.string x28.key, .string x28.val, .bool x28.del]) (lo_e (fun hf kn => ld_of (r := [.string x28.key, .string x28.val, .bool x28.del]) ag_69 sz_69 (kn.cellsAt cl28)))) ?_
                      refine g_do rfl rfl rfl ?_
                      refine gM rfl rfl ?_
                      refine g_do rfl rfl rfl ?_
                      refine gr rfl (r_ia (ot rfl) (oc rfl) (ja_71_1 _ _)) ?_
                      refine g_do rfl rfl rfl ?_
                      refine gr rfl (r_load (ot rfl) (lm_s (mem_seg 1 rfl) ag_9 rfl)) ?_
                      refine g_do rfl rfl rfl ?_
                      refine gr rfl (r_build (op1 (ot rfl) (op1 (ot rfl) op0)) rfl) ?_
                      refine g_do rfl rfl rfl ?_
                      refine gr rfl (r_bin (ot rfl) (ot rfl) bq_69) ?_
                      refine g_do rfl rfl rfl ?_
                      refine gr rfl (r_pkF (ot rfl) (ot rfl)) ?_
                      obtain rfl := someI hF
                      exact Goes.weak (J27 () _ (HExt.refl _) w23 trivial) (Sub.cons (Sub.cons (Sub.cons (Sub.cons (Sub.cons (Sub.cons (Sub.cons (Sub.nil _) rfl) rfl) rfl) rfl) rfl) rfl) rfl)
                ·
                  replace hF := ifF hb24 hF
                  refine go_re 154 (v2 := .bool false) rfl (congrArg Value.bool hb24) ?_
                  refine g_no rfl rfl rfl rfl rfl ?_
                  refine g_no rfl rfl rfl rfl rfl ?_
                  refine g_no rfl rfl rfl rfl rfl ?_
                  refine g_nu rfl rfl rfl rfl ?_
                  refine g_nu rfl rfl rfl rfl ?_
                  refine g_nu rfl rfl rfl rfl ?_
                  refine g_nu rfl rfl rfl rfl ?_
                  refine g_nu rfl rfl rfl rfl ?_
                  refine g_nu rfl rfl rfl rfl ?_
                  refine g_nu rfl rfl rfl rfl ?_
                  refine g_nu rfl rfl rfl rfl ?_
                  refine g_no rfl rfl rfl rfl rfl ?_
                  refine gr rfl (r_pkF (ot rfl) (oc rfl)) ?_
                  obtain rfl := someI hF
                  exact Goes.weak (J25 () _ (HExt.refl _) w23 trivial) (Sub.cons (Sub.cons (Sub.cons (Sub.cons (Sub.cons (Sub.cons (Sub.nil _) rfl) rfl) rfl) rfl) rfl) rfl)
            ·
              rcases Bool.eq_false_or_eq_true (bif x11.1 then (((x11.2.length : Int) == 1) == x6.2) else false) with hb22 | hb22
              ·
                replace hF := ifT hb22 hF
                refine go_re 125 (v2 := .bool true) rfl (congrArg Value.bool hb22) ?_
                refine g_do rfl rfl rfl ?_
                refine gM rfl rfl ?_
                refine g_do rfl rfl rfl ?_
                refine gr rfl (r_un (ot rfl) rfl) ?_
                refine g_do rfl rfl rfl ?_
                refine gM rfl rfl ?_
                replace hF := obind hF
                obtain ⟨s30, hF, hK30⟩ := hF
                refine go_joinr 7 (β := Unit) (fun s h' => True) (fun s => [(1, true, .string p1), (5, true, .pointer (some ⟨b5_1, 0, none⟩)), (6, true, .bool false), (7, true, .bool true), (8, true, .pointer (some ⟨b8_7, 0, none⟩)), (9, true, .bool x6.2), (14, true, .bool x13.1), (15, true, .slice a13_0 x13.2.length c13_0), (16, true, .bool s19), (17, true, .bool s21), (125, true, .bool true), (135, true, .bool s30)]) (fun s => (List.flatten [[⟨b8_7, .cells [.string x6.1.key, .string x6.1.val, .int .i64 x6.1.rev] 52⟩], [⟨b5_1, .cells [.string p2.x0, .string p2.x1] 71⟩]] : List Blk)) ?_ (fun J30 => ?_)
                ·
                  rintro _ h30 e30 w30 _
                  replace hF := hK30
                  refine gr rfl (r_pkT (ot rfl) (ot rfl)) ?_
                  obtain rfl := someI hF
                  exact Goes.weak (J23 () _ e30 w30 trivial) (Sub.cons (Sub.cons (Sub.cons (Sub.cons (Sub.cons (Sub.cons (Sub.cons (Sub.cons (Sub.cons (Sub.cons (Sub.cons (Sub.nil _) rfl) rfl) rfl) rfl) rfl) rfl) rfl) rfl) rfl) rfl) rfl)
                ·
                  rcases Bool.eq_false_or_eq_true (!x6.2) with hb29 | hb29
                  ·
                    replace hF := ifT hb29 hF
                    refine go_re 128 (v2 := .bool true) rfl (congrArg Value.bool hb29) ?_
                    refine g_no rfl rfl rfl rfl rfl ?_
                    refine g_no rfl rfl rfl rfl rfl ?_
                    refine g_no rfl rfl rfl rfl rfl ?_
                    refine g_no rfl rfl rfl rfl rfl ?_
                    refine g_no rfl rfl rfl rfl rfl ?_
                    refine g_no rfl rfl rfl rfl rfl ?_
                    refine g_do rfl rfl rfl ?_
                    refine gr rfl (r_pkT (ot rfl) (oc rfl)) ?_
                    obtain rfl := someI hF
                    exact Goes.weak (J30 () _ (HExt.refl _) w21 trivial) (Sub.cons (Sub.cons (Sub.cons (Sub.cons (Sub.cons (Sub.cons (Sub.cons (Sub.cons (Sub.cons (Sub.cons (Sub.cons (Sub.cons (Sub.nil _) rfl) rfl) rfl) rfl) rfl) rfl) rfl) rfl) rfl) rfl) rfl) rfl)
                  ·
                    replace hF := ifF hb29 hF
                    refine go_re 128 (v2 := .bool false) rfl (congrArg Value.bool hb29) ?_
                    refine g_do rfl rfl rfl ?_
                    refine gM rfl rfl ?_
                    refine g_do rfl rfl rfl ?_
                    replace hF := obind hF
                    obtain ⟨x31, hx31, hF⟩ := hF
                    obtain ⟨q31, row31, i31, cl31, rc31, sp31⟩ := ix (ik := .i64) (cap := c11_0) (E := EE) ((((((f11_0.ext e12.kn).ext e13.kn).ext e14.kn).ext e17.kn).ext e19.kn).ext e21.kn) hx31 ut_25 sz_69 rfl
                    obtain rfl := rc31
                    refine gr rfl (r_ia (ot rfl) (oc rfl) i31) ?_
                    refine g_do rfl rfl rfl ?_
                    refine gr rfl (r_load (ot rfl) (v := .agg #[.string x31.key, .string x31.val, .bool x31.del]) (lo_e (fun hf kn => ld_of (r := [.string x31.key, .string x31.val, .bool x31.del]) ag_69 sz_69 (kn.cellsAt cl31)))) ?_
                    refine g_do rfl rfl rfl ?_
                    refine gM rfl rfl ?_
                    refine g_do rfl rfl rfl ?_
                    refine gr rfl (r_build (op1 (ot rfl) (op1 (oc rfl) op0)) rfl) ?_
                    refine g_do rfl rfl rfl ?_
                    refine gr rfl (r_bin (ot rfl) (ot rfl) bq_69) ?_
                    refine g_do rfl rfl rfl ?_
                    refine gr rfl (r_pkF (ot rfl) (ot rfl)) ?_
                    obtain rfl := someI hF
                    exact Goes.weak (J30 () _ (HExt.refl _) w21 trivial) (Sub.cons (Sub.cons (Sub.cons (Sub.cons (Sub.cons (Sub.cons (Sub.cons (Sub.cons (Sub.cons (Sub.cons (Sub.cons (Sub.cons (Sub.nil _) rfl) rfl) rfl) rfl) rfl) rfl) rfl) rfl) rfl) rfl) rfl) rfl)
              ·
                replace hF := ifF hb22 hF
                refine go_re 125 (v2 := .bool false) rfl (congrArg Value.bool hb22) ?_
                refine g_no rfl rfl rfl rfl rfl ?_
                refine g_no rfl rfl rfl rfl rfl ?_
                refine g_no rfl rfl rfl rfl rfl ?_
                refine g_nu rfl rfl rfl rfl ?_
                refine g_nu rfl rfl rfl rfl ?_
                refine g_nu rfl rfl rfl rfl ?_
                refine g_nu rfl rfl rfl rfl ?_
                refine g_nu rfl rfl rfl rfl ?_
                refine g_nu rfl rfl rfl rfl ?_
                refine g_no rfl rfl rfl rfl rfl ?_
                refine gr rfl (r_pkF (ot rfl) (oc rfl)) ?_
                obtain rfl := someI hF
                exact Goes.weak (J23 () _ (HExt.refl _) w21 trivial) (Sub.cons (Sub.cons (Sub.cons (Sub.cons (Sub.cons (Sub.cons (Sub.cons (Sub.cons (Sub.cons (Sub.cons (Sub.cons (Sub.nil _) rfl) rfl) rfl) rfl) rfl) rfl) rfl) rfl) rfl) rfl) rfl)
          ·
            rcases Bool.eq_false_or_eq_true x9.1 with hb20 | hb20
            ·
              replace hF := ifT hb20 hF
              refine go_re 108 (v2 := .bool true) rfl (congrArg Value.bool hb20) ?_
              refine g_do rfl rfl rfl ?_
              refine gM rfl rfl ?_
              refine g_do rfl rfl rfl ?_
              refine gM rfl rfl ?_
              refine g_do rfl rfl rfl ?_
              refine gr rfl (r_ia (ot rfl) (oc rfl) (ja_71_0 _ _)) ?_
              refine g_do rfl rfl rfl ?_
              refine gr rfl (r_load (ot rfl) (lm_s (mem_seg 1 rfl) ag_9 rfl)) ?_
              refine g_do rfl rfl rfl ?_
              refine gr rfl (r_build (op1 (ot rfl) (op1 (ot rfl) op0)) rfl) ?_
              refine g_do rfl rfl rfl ?_
              refine gs_bslice (cs := [.string p1, .string p2.x0, .bool false]) rfl (op1 (ot rfl) op0) ut_25 sz_69 zo_69 rfl rfl ?_; intro b114_32
              refine g_do rfl rfl rfl ?_
              refine gs_pub .z (fun h34 e34 w34 hb34 => ?_)
              have f34_ : RL R_OpX h34 (some ⟨b114_32, 0, none⟩) 1 ([(⟨p1, p2.x0, false⟩ : OpX)] : List OpX) := RL.of_blk (rows := [[.string p1, .string p2.x0, .bool false]]) (.inl rfl) hb34 rfl (Rws.cons (x := (⟨p1, p2.x0, false⟩ : OpX)) rfl Rws.nil) (by simp) (by simp) rfl
              replace hF := obind hF
              obtain ⟨x33, hx33, hF⟩ := hF
              refine g_callp (v := .bool x33) EE_fr rfl of (os1 (ot rfl) (os1 (ot rfl) os0)) hb_26 (fun _ => rfl) (fun hf kn w => by exact s_ref07_Ops w x9.2 ([(⟨p1, p2.x0, false⟩ : OpX)] : List OpX) (((((((((f9_0.ext e10.kn).ext e11.kn).ext e12.kn).ext e13.kn).ext e14.kn).ext e17.kn).ext e19.kn).ext e34.kn).ext kn) (f34_.ext kn) hx33) ?_
              refine gr rfl (r_pkT (ot rfl) (ot rfl)) ?_
              obtain rfl := someI hF
              exact Goes.weak (J21 () _ e34 w34 trivial) (Sub.cons (Sub.cons (Sub.cons (Sub.cons (Sub.cons (Sub.cons (Sub.cons (Sub.cons (Sub.cons (Sub.cons (Sub.cons (Sub.cons (Sub.nil _) rfl) rfl) rfl) rfl) rfl) rfl) rfl) rfl) rfl) rfl) rfl) rfl)
            ·
              replace hF := ifF hb20 hF
              refine go_re 108 (v2 := .bool false) rfl (congrArg Value.bool hb20) ?_
              refine g_no rfl rfl rfl rfl rfl ?_
              refine g_no rfl rfl rfl rfl rfl ?_
              refine g_no rfl rfl rfl rfl rfl ?_
              refine g_no rfl rfl rfl rfl rfl ?_
              refine g_no rfl rfl rfl rfl rfl ?_
              refine g_no rfl rfl rfl rfl rfl ?_
              refine g_no rfl rfl rfl rfl rfl ?_
              refine gr rfl (r_pkF (ot rfl) (oc rfl)) ?_
              obtain rfl := someI hF
              exact Goes.weak (J21 () _ (HExt.refl _) w19 trivial) (Sub.cons (Sub.cons (Sub.cons (Sub.cons (Sub.cons (Sub.cons (Sub.cons (Sub.cons (Sub.cons (Sub.cons (Sub.cons (Sub.cons (Sub.nil _) rfl) rfl) rfl) rfl) rfl) rfl) rfl) rfl) rfl) rfl) rfl) rfl)
        ·
          rcases Bool.eq_false_or_eq_true s17 with hb18 | hb18
          ·
            replace hF := ifT hb18 hF
            refine go_re 97 (v2 := .bool true) rfl (congrArg Value.bool hb18) ?_
            refine g_do rfl rfl rfl ?_
            refine gM rfl rfl ?_
            refine g_do rfl rfl rfl ?_
            refine gr rfl (r_ia (ot rfl) (oc rfl) (ja_71_0 _ _)) ?_
            refine g_do rfl rfl rfl ?_
            refine gr rfl (r_load (ot rfl) (lm_s (mem_seg 1 rfl) ag_9 rfl)) ?_
            refine g_do rfl rfl rfl ?_
            refine gr rfl (r_ia (ot rfl) (oc rfl) (ja_71_1 _ _)) ?_
            refine g_do rfl rfl rfl ?_
            refine gr rfl (r_load (ot rfl) (lm_s (mem_seg 1 rfl) ag_9 rfl)) ?_
            refine g_do rfl rfl rfl ?_
            replace hF := obind hF
            obtain ⟨x35, hx35, hF⟩ := hF
            refine g_call EE_fr (fun _ h => by cases h; rfl) of (os1 (ot rfl) (os1 (ot rfl) (os1 (ot rfl) os0))) hb_31 (fun hf kn w => by exact s_txn_Swap w p1 p2.x0 p2.x1  hx35) ?_
            rintro v35 h35 e35 w35 ⟨a35_0, c35_0, a35_1, c35_1, a35_2, c35_2, rfl, f35_0, f35_1, f35_2⟩
            refine g_do rfl rfl rfl ?_
            replace hF := obind hF
            obtain ⟨x36, hx36, hF⟩ := hF
            refine g_callp (v := .int .i64 x36) EE_fr rfl of (os1 (ot rfl) os0) hb_28 (fun _ => rfl) (fun hf kn w => by exact s_txn_May w x35 (f35_0.ext kn) (f35_1.ext kn) (f35_2.ext kn) hx36) ?_
            refine g_do rfl rfl rfl ?_
            refine gr rfl (r_bin (ot rfl) (oc rfl) rfl) ?_
            refine gr rfl (r_pkT (ot rfl) (ot rfl)) ?_
            obtain rfl := someI hF
            exact Goes.weak (J19 () _ e35 w35 trivial) (Sub.cons (Sub.cons (Sub.cons (Sub.cons (Sub.cons (Sub.cons (Sub.cons (Sub.cons (Sub.cons (Sub.cons (Sub.cons (Sub.cons (Sub.cons (Sub.nil _) rfl) rfl) rfl) rfl) rfl) rfl) rfl) rfl) rfl) rfl) rfl) rfl) rfl)
          ·
            replace hF := ifF hb18 hF
            refine go_re 97 (v2 := .bool false) rfl (congrArg Value.bool hb18) ?_
            refine g_no rfl rfl rfl rfl rfl ?_
            refine g_no rfl rfl rfl rfl rfl ?_
            refine g_no rfl rfl rfl rfl rfl ?_
            refine g_no rfl rfl rfl rfl rfl ?_
            refine g_no rfl rfl rfl rfl rfl ?_
            refine g_no rfl rfl rfl rfl rfl ?_
            refine g_no rfl rfl rfl rfl rfl ?_
            refine g_no rfl rfl rfl rfl rfl ?_
            refine gr rfl (r_pkF (ot rfl) (oc rfl)) ?_
            obtain rfl := someI hF
            exact Goes.weak (J19 () _ (HExt.refl _) w17 trivial) (Sub.cons (Sub.cons (Sub.cons (Sub.cons (Sub.cons (Sub.cons (Sub.cons (Sub.cons (Sub.cons (Sub.cons (Sub.cons (Sub.cons (Sub.cons (Sub.nil _) rfl) rfl) rfl) rfl) rfl) rfl) rfl) rfl) rfl) rfl) rfl) rfl) rfl)
      ·
        rcases Bool.eq_false_or_eq_true (x15 == 0) with hb16 | hb16
        ·
          replace hF := ifT hb16 hF
          refine go_re 91 (v2 := .bool true) rfl (congrArg Value.bool hb16) ?_
          refine g_do rfl rfl rfl ?_
          refine gM rfl rfl ?_
          refine g_do rfl rfl rfl ?_
          replace hF := obind hF
          obtain ⟨x37, hx37, hF⟩ := hF
          refine g_call EE_fr (fun _ h => by cases h; rfl) of (os1 (ot rfl) os0) hb_30 (fun hf kn w => by exact s_txn_Del w p1  hx37) ?_
          rintro v37 h37 e37 w37 ⟨a37_0, c37_0, a37_1, c37_1, a37_2, c37_2, rfl, f37_0, f37_1, f37_2⟩
          refine g_do rfl rfl rfl ?_
          replace hF := obind hF
          obtain ⟨x38, hx38, hF⟩ := hF
          refine g_callp (v := .int .i64 x38) EE_fr rfl of (os1 (ot rfl) os0) hb_28 (fun _ => rfl) (fun hf kn w => by exact s_txn_May w x37 (f37_0.ext kn) (f37_1.ext kn) (f37_2.ext kn) hx38) ?_
          refine g_do rfl rfl rfl ?_
          refine gr rfl (r_bin (ot rfl) (oc rfl) rfl) ?_
          refine gr rfl (r_pkT (ot rfl) (ot rfl)) ?_
          obtain rfl := someI hF
          exact Goes.weak (J17 () _ e37 w37 trivial) (Sub.cons (Sub.cons (Sub.cons (Sub.cons (Sub.cons (Sub.cons (Sub.cons (Sub.cons (Sub.cons (Sub.cons (Sub.cons (Sub.cons (Sub.cons (Sub.nil _) rfl) rfl) rfl) rfl) rfl) rfl) rfl) rfl) rfl) rfl) rfl) rfl) rfl)
        ·
          replace hF := ifF hb16 hF
          refine go_re 91 (v2 := .bool false) rfl (congrArg Value.bool hb16) ?_
          refine g_no rfl rfl rfl rfl rfl ?_
          refine g_no rfl rfl rfl rfl rfl ?_
          refine g_no rfl rfl rfl rfl rfl ?_
          refine g_no rfl rfl rfl rfl rfl ?_
          refine gr rfl (r_pkF (ot rfl) (oc rfl)) ?_
          obtain rfl := someI hF
          exact Goes.weak (J17 () _ (HExt.refl _) w14 trivial) (Sub.cons (Sub.cons (Sub.cons (Sub.cons (Sub.cons (Sub.cons (Sub.cons (Sub.cons (Sub.cons (Sub.cons (Sub.cons (Sub.cons (Sub.cons (Sub.nil _) rfl) rfl) rfl) rfl) rfl) rfl) rfl) rfl) rfl) rfl) rfl) rfl) rfl)
  ·
    rcases Bool.eq_false_or_eq_true (decide ((p0.length : Int) > 60)) with hb3 | hb3
    ·
      replace hF := ifT hb3 hF
      refine go_re 24 (v2 := .bool true) rfl (congrArg Value.bool hb3) ?_
      refine g_no rfl rfl rfl rfl rfl ?_
      refine g_no rfl rfl rfl rfl rfl ?_
      refine g_no rfl rfl rfl rfl rfl ?_
      refine gr rfl (r_pkT (ot rfl) (oc rfl)) ?_
      obtain rfl := someI hF
      exact Goes.weak (J4 () _ (HExt.refl _) hw trivial) (Sub.cons (Sub.cons (Sub.cons (Sub.cons (Sub.cons (Sub.cons (Sub.nil _) rfl) rfl) rfl) rfl) rfl) rfl)
    ·
      replace hF := ifF hb3 hF
      refine go_re 24 (v2 := .bool false) rfl (congrArg Value.bool hb3) ?_
      refine g_do rfl rfl rfl ?_
      refine gM rfl rfl ?_
      refine g_do rfl rfl rfl ?_
      replace hF := obind hF
      obtain ⟨x39, hx39, hF⟩ := hF
      refine g_callp (v := .bool x39) EE_fr rfl of (os1 (ot rfl) os0) hb_13 (fun _ => rfl) (fun hf kn w => by exact s_ref05_Map w p0 (f0_0.ext kn) hx39) ?_
      refine g_do rfl rfl rfl ?_
      refine gr rfl (r_un (ot rfl) rfl) ?_
      refine gr rfl (r_pkF (ot rfl) (ot rfl)) ?_
      obtain rfl := someI hF
      exact Goes.weak (J4 () _ (HExt.refl _) hw trivial) (Sub.cons (Sub.cons (Sub.cons (Sub.cons (Sub.cons (Sub.cons (Sub.nil _) rfl) rfl) rfl) rfl) rfl) rfl)
end Go.Proofs.Ytadfhabapgipbaa.V
