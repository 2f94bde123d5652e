/- Walks.
   No condition: these are laws of the clean machine and of this program. -/
import Derived.Test.YtpfdandpmpmbiaaPT
import Derived.Test.YtpfdandpmpmbiaaWq
namespace Go.Proofs.Ytpfdandpmpmbiaa.V
open Go
set_option linter.unusedVariables false
set_option linter.unusedSimpArgs false
set_option maxRecDepth 100000
set_option maxHeartbeats 4000000
theorem s_txn_find_1 {h : Heap} (hw : Wf h) (p0 : TKV) (p1 : ByteArray)   {r : Int} (hF : F_txn_find_1 p0 p1 = some r) :
    Ev EE 100 [.agg #[.string p0.Key, .string p0.Val, .int .i64 p0.Rev], .string p1] h (fun v _ => v = .int .i64 r) := by
  unfold F_txn_find_1 at hF
  refine ev_of hw rfl at_100 rfl rfl (go_seg0 ?_)
  refine go_seq ?_
  refine go_region ?_
  refine gs_box rfl (ot rfl) rfl ?_; intro b2_1
  refine gAc rfl rfl ?_
  refine go_nil ?_
  refine go_seq ?_
  refine go_region ?_
  refine gr rfl (r_fa (ot rfl) (fa_47_0 _ _)) ?_
  refine gr rfl (r_load (ot rfl) (lm_s (mem_seg 0 rfl) ag_9 rfl)) ?_
  refine gM rfl rfl ?_
  replace hF := obind hF
  obtain ⟨x2, hx2, hF⟩ := hF
  refine g_callp (v := .int .i64 x2) EE_fr rfl of (os1 (ot rfl) (os1 (ot rfl) os0)) hb_85 (fun _ => rfl) (fun hf kn w => by exact s_cmp_Compare w p0.Key p1  hx2) ?_
  refine gA rfl rfl ?_
  refine go_nil ?_
  obtain rfl := someI hF
  exact g_ret (rst rfl rs0) (fun h1 hf hs => ⟨hs.hext, rfl⟩)
theorem s_slices_BinarySearchFunc_txn_find_1 (n : Nat) {h : Heap} (hw : Wf h) (p0 : (List TKV)) (p1 : ByteArray) {a0_0 : Option Addr} {c0_0 : Nat} (f0_0 : RL R_TKV h a0_0 c0_0 p0) {r : Int × Bool} (hF : F_slices_BinarySearchFunc_txn_find_1 n p0 p1 = some r) :
    Ev EE 83 [.slice a0_0 p0.length c0_0, .string p1, .func (.func 100) #[] #[]] h (fun v _ => v = .tuple #[.int .i64 r.1, .bool r.2]) := by
  unfold F_slices_BinarySearchFunc_txn_find_1 at hF
  refine ev_of hw rfl at_83 rfl rfl (go_seg0 ?_)
  refine go_seq ?_
  refine go_region ?_
  refine gAc rfl rfl ?_
  refine gAc rfl rfl ?_
  refine go_nil ?_
  refine go_seq ?_
  refine go_region ?_
  refine gM rfl rfl ?_
  refine gr rfl (r_len rfl (os1 (ot rfl) os0) (fun _ _ => ln_28)) ?_
  refine gA rfl rfl ?_
  refine go_nil ?_
  refine go_seq ?_
  refine go_region ?_
  refine gM rfl rfl ?_
  refine gAc rfl rfl ?_
  refine gA rfl rfl ?_
  refine go_nil ?_
  refine go_seq ?_
  replace hF := obind hF
  obtain ⟨s1, hF, hK1⟩ := hF
  refine go_joinc (β := Unit) (fun s h' => True) (fun s => [(0, true, .slice a0_0 p0.length c0_0), (1, true, .string p1), (2, true, .func (.func 100) #[] #[]), (6, true, .int .i64 0), (7, true, .bool false), (8, true, .int .i64 (p0.length : Int)), (9, true, .int .i64 s1)]) (fun s => (List.flatten [] : List Blk)) ?_ (fun J1 => ?_)
  ·
    rintro _ h1 e1 w1 _
    replace hF := hK1
    refine go_seq ?_
    refine go_region ?_
    refine gM rfl rfl ?_
    refine gM rfl rfl ?_
    refine gM rfl rfl ?_
    refine gr rfl (r_bin (ot rfl) (ot rfl) rfl) ?_
    refine gM rfl rfl ?_
    replace hF := obind hF
    obtain ⟨s3, hF, hK3⟩ := hF
    refine go_joinr 9 (β := Unit) (fun s h' => True) (fun s => [(6, true, .int .i64 0), (7, true, .bool false), (35, true, .int .i64 s1), (48, true, .bool s3)]) (fun s => (List.flatten [] : List Blk)) ?_ (fun J3 => ?_)
    ·
      rintro _ h3 e3 w3 _
      replace hF := hK3
      refine gA rfl rfl ?_
      refine gA rfl rfl ?_
      refine go_nil ?_
      obtain rfl := someI hF
      exact g_ret (rst rfl (rst rfl rs0)) (fun h1 hf hs => ⟨(e1.trans (e3.trans hs.hext)), rfl⟩)
    ·
      rcases Bool.eq_false_or_eq_true (decide (s1 < (p0.length : Int))) with hb2 | hb2
      ·
        replace hF := ifT hb2 hF
        refine go_re 39 (v2 := .bool true) rfl (congrArg Value.bool hb2) ?_
        refine g_do rfl rfl rfl ?_
        refine gM rfl rfl ?_
        refine g_do rfl rfl rfl ?_
        refine gM rfl rfl ?_
        refine g_do rfl rfl rfl ?_
        refine gM rfl rfl ?_
        refine g_do rfl rfl rfl ?_
        replace hF := obind hF
        obtain ⟨x4, hx4, hF⟩ := hF
        obtain ⟨q4, row4, i4, cl4, rc4, sp4⟩ := ix (ik := .i64) (cap := c0_0) (E := EE) (f0_0.ext e1.kn) hx4 ut_28 sz_47 rfl
        obtain rfl := rc4
        refine gr rfl (r_ia (ot rfl) (ot rfl) i4) ?_
        refine g_do rfl rfl rfl ?_
        refine gr rfl (r_load (ot rfl) (v := .agg #[.string x4.Key, .string x4.Val, .int .i64 x4.Rev]) (lo_e (fun hf kn => ld_of (r := [.string x4.Key, .string x4.Val, .int .i64 x4.Rev]) ag_47 sz_47 (kn.cellsAt cl4)))) ?_
        refine g_do rfl rfl rfl ?_
        refine gM rfl rfl ?_
        refine g_do rfl rfl rfl ?_
        replace hF := obind hF
        obtain ⟨x5, hx5, hF⟩ := hF
        refine g_callp (v := .int .i64 x5) EE_fr rfl (ot rfl) (os1 (ot rfl) (os1 (ot rfl) os0)) hb_100 (fun _ => rfl) (fun hf kn w => by exact s_txn_find_1 w x4 p1  hx5) ?_
        refine g_do rfl rfl rfl ?_
        refine gr rfl (r_bin (ot rfl) (oc rfl) rfl) ?_
        refine gr rfl (r_pkT (ot rfl) (ot rfl)) ?_
        obtain rfl := someI hF
        exact Goes.weak (J3 () _ (HExt.refl _) w1 trivial) (Sub.cons (Sub.cons (Sub.cons (Sub.cons (Sub.nil _) rfl) rfl) rfl) rfl)
      ·
        replace hF := ifF hb2 hF
        refine go_re 39 (v2 := .bool false) rfl (congrArg Value.bool hb2) ?_
        refine g_no rfl rfl rfl rfl rfl ?_
        refine g_no rfl rfl rfl rfl rfl ?_
        refine g_no rfl rfl rfl rfl rfl ?_
        refine g_no rfl rfl rfl rfl rfl ?_
        refine g_no rfl rfl rfl rfl rfl ?_
        refine g_no rfl rfl rfl rfl rfl ?_
        refine g_no rfl rfl rfl rfl rfl ?_
        refine g_no rfl rfl rfl rfl rfl ?_
        refine gr rfl (r_pkF (ot rfl) (oc rfl)) ?_
        obtain rfl := someI hF
        exact Goes.weak (J3 () _ (HExt.refl _) w1 trivial) (Sub.cons (Sub.cons (Sub.cons (Sub.cons (Sub.nil _) rfl) rfl) rfl) rfl)
  ·
    refine go_block ?_
    refine go_loop (α := Nat × Int × Int × Heap) (fun a => HExt h a.2.2.2 ∧ Wf a.2.2.2 ∧ F_slices_BinarySearchFunc_txn_find_1_L1 p0 p1 a.1 a.2.1 a.2.2.1 = some s1) (fun a => a.1) (fun a => [(0, true, .slice a0_0 p0.length c0_0), (1, true, .string p1), (2, true, .func (.func 100) #[] #[]), (6, true, .int .i64 0), (7, true, .bool false), (8, true, .int .i64 (p0.length : Int)), (9, true, .int .i64 a.2.1), (10, true, .int .i64 a.2.2.1)]) (fun a => (List.flatten [] : List Blk)) (fun a => a.2.2.2) ?_ (n, 0, (p0.length : Int), h) ⟨HExt.refl _, hw, hF⟩ (Sub.cons (Sub.cons (Sub.cons (Sub.cons (Sub.cons (Sub.cons (Sub.cons (Sub.cons (Sub.nil _) rfl) rfl) rfl) rfl) rfl) rfl) rfl) rfl) rfl rfl
    rintro ⟨m6, y6_0, y6_1, h6⟩ ⟨e6, w6, hF⟩ ih6
    rcases m6 with _ | m6
    ·
      rw [F_slices_BinarySearchFunc_txn_find_1_L1.eq_1] at hF; cases hF
    ·
      rw [F_slices_BinarySearchFunc_txn_find_1_L1.eq_2] at hF
      refine go_seq ?_
      refine go_seq ?_
      refine go_region ?_
      refine gM rfl rfl ?_
      refine gM rfl rfl ?_
      refine gr rfl (r_bin (ot rfl) (ot rfl) rfl) ?_
      refine go_nil ?_
      refine g_cond (b := (decide (y6_0 < y6_1))) (ot rfl) (fun hc7 => ?_) (fun hc7 => ?_)
      ·
        replace hF := ifT hc7 hF
        refine go_skip ?_
        refine go_block ?_
        refine go_seq ?_
        refine go_region ?_
        refine gM rfl rfl ?_
        refine gM rfl rfl ?_
        refine gr rfl (r_bin (ot rfl) (ot rfl) rfl) ?_
        refine gr rfl (r_conv (ot rfl) rfl) ?_
        refine gr rfl (r_bin (ot rfl) (oc rfl) rfl) ?_
        refine gr rfl (r_conv (ot rfl) rfl) ?_
        refine gA rfl rfl ?_
        refine go_nil ?_
        refine go_seq ?_
        refine go_region ?_
        refine gM rfl rfl ?_
        refine gM rfl rfl ?_
        refine gM rfl rfl ?_
        replace hF := obind hF
        obtain ⟨x8, hx8, hF⟩ := hF
        obtain ⟨q8, row8, i8, cl8, rc8, sp8⟩ := ix (ik := .i64) (cap := c0_0) (E := EE) (f0_0.ext e6.kn) hx8 ut_28 sz_47 rfl
        obtain rfl := rc8
        refine gr rfl (r_ia (ot rfl) (ot rfl) i8) ?_
        refine gr rfl (r_load (ot rfl) (v := .agg #[.string x8.Key, .string x8.Val, .int .i64 x8.Rev]) (lo_e (fun hf kn => ld_of (r := [.string x8.Key, .string x8.Val, .int .i64 x8.Rev]) ag_47 sz_47 (kn.cellsAt cl8)))) ?_
        refine gM rfl rfl ?_
        replace hF := obind hF
        obtain ⟨x9, hx9, hF⟩ := hF
        refine g_callp (v := .int .i64 x9) EE_fr rfl (ot rfl) (os1 (ot rfl) (os1 (ot rfl) os0)) hb_100 (fun _ => rfl) (fun hf kn w => by exact s_txn_find_1 w x8 p1  hx9) ?_
        refine gr rfl (r_bin (ot rfl) (oc rfl) rfl) ?_
        refine go_nil ?_
        refine g_cond (b := (decide (x9 < 0))) (ot rfl) (fun hc10 => ?_) (fun hc10 => ?_)
        ·
          replace hF := ifT hc10 hF
          refine go_region ?_
          refine gM rfl rfl ?_
          refine gr rfl (r_bin (ot rfl) (oc rfl) rfl) ?_
          refine gA rfl rfl ?_
          refine go_nil ?_
          refine go_endb ?_
          exact Goes.weak (ih6 (m6, (IntKind.i64.wrap ((IntKind.i64.wrap (shrI .u64 (IntKind.u64.wrap (IntKind.i64.wrap (y6_0 + y6_1))) 1)) + 1)), y6_1, h6) ⟨e6, w6, hF⟩ (Nat.lt_succ_self _)) (Sub.cons (Sub.cons (Sub.cons (Sub.cons (Sub.cons (Sub.cons (Sub.cons (Sub.cons (Sub.nil _) rfl) rfl) rfl) rfl) rfl) rfl) rfl) rfl)
        ·
          replace hF := ifF hc10 hF
          refine go_region ?_
          refine gM rfl rfl ?_
          refine gA rfl rfl ?_
          refine go_nil ?_
          refine go_endb ?_
          exact Goes.weak (ih6 (m6, y6_0, (IntKind.i64.wrap (shrI .u64 (IntKind.u64.wrap (IntKind.i64.wrap (y6_0 + y6_1))) 1)), h6) ⟨e6, w6, hF⟩ (Nat.lt_succ_self _)) (Sub.cons (Sub.cons (Sub.cons (Sub.cons (Sub.cons (Sub.cons (Sub.cons (Sub.cons (Sub.nil _) rfl) rfl) rfl) rfl) rfl) rfl) rfl) rfl)
      ·
        replace hF := ifF hc7 hF
        refine go_exit rfl ?_
        obtain rfl := someI hF
        exact Goes.weak (J1 () _ e6 w6 trivial) (Sub.cons (Sub.cons (Sub.cons (Sub.cons (Sub.cons (Sub.cons (Sub.cons (Sub.nil _) rfl) rfl) rfl) rfl) rfl) rfl) rfl)
theorem s_txn_find (n : Nat) {h : Heap} (hw : Wf h) (p0 : (List TKV)) (p1 : ByteArray) {a0_0 : Option Addr} {c0_0 : Nat} (f0_0 : RL R_TKV h a0_0 c0_0 p0) {r : TKV × Bool} (hF : F_txn_find n p0 p1 = some r) :
    Ev EE 73 [.slice a0_0 p0.length c0_0, .string p1] h (fun v _ => v = .tuple #[.agg #[.string r.1.Key, .string r.1.Val, .int .i64 r.1.Rev], .bool r.2]) := by
  unfold F_txn_find at hF
  refine ev_of hw rfl at_73 rfl rfl (go_seg0 ?_)
  refine go_seq ?_
  refine go_region ?_
  refine gs_alloc rfl zo_47 rfl ?_; intro b4_1
  refine gAc rfl rfl ?_
  refine go_nil ?_
  refine go_seq ?_
  refine go_region ?_
  refine gM rfl rfl ?_
  refine gM rfl rfl ?_
  replace hF := obind hF
  obtain ⟨x2, hx2, hF⟩ := hF
  refine g_callp (v := .tuple #[.int .i64 x2.1, .bool x2.2]) EE_fr rfl of (os1 (ot rfl) (os1 (ot rfl) (os1 of os0))) hb_83 (fun _ => rfl) (fun hf kn w => by exact s_slices_BinarySearchFunc_txn_find_1 n w p0 p1 (f0_0.ext kn) hx2) ?_
  refine gM rfl rfl ?_
  refine gE rfl rfl rfl ?_
  refine gE rfl rfl rfl ?_
  refine gA rfl rfl ?_
  refine gA rfl rfl ?_
  refine go_nil ?_
  refine go_seq ?_
  refine go_seq ?_
  refine go_region ?_
  refine gM rfl rfl ?_
  refine gr rfl (r_un (ot rfl) rfl) ?_
  refine go_nil ?_
  refine g_cond (b := (!x2.2)) (ot rfl) (fun hc3 => ?_) (fun hc3 => ?_)
  ·
    replace hF := ifT hc3 hF
    refine go_seq ?_
    refine go_region ?_
    refine gr rfl (r_build op0 rfl) ?_
    refine gs_store (ot rfl) (ot rfl) sz_47 rfl rfl rfl rfl rfl .z ?_
    refine gAc rfl rfl ?_
    refine go_nil ?_
    obtain rfl := someI hF
    exact g_ret (rsc rfl (lm_w (mem_seg 0 rfl) ag_47 sz_47 rfl) (rst rfl rs0)) (fun h1 hf hs => ⟨hs.hext, rfl⟩)
  ·
    replace hF := ifF hc3 hF
    refine go_skip ?_
    refine go_seq ?_
    refine go_region ?_
    refine gM rfl rfl ?_
    refine gM rfl rfl ?_
    replace hF := obind hF
    obtain ⟨x4, hx4, hF⟩ := hF
    obtain ⟨q4, row4, i4, cl4, rc4, sp4⟩ := ix (ik := .i64) (cap := c0_0) (E := EE) f0_0 hx4 ut_28 sz_47 rfl
    obtain rfl := rc4
    refine gr rfl (r_ia (ot rfl) (ot rfl) i4) ?_
    refine gr rfl (r_load (ot rfl) (v := .agg #[.string x4.Key, .string x4.Val, .int .i64 x4.Rev]) (lo_e (fun hf kn => ld_of (r := [.string x4.Key, .string x4.Val, .int .i64 x4.Rev]) ag_47 sz_47 (kn.cellsAt cl4)))) ?_
    refine gs_store (ot rfl) (ot rfl) sz_47 rfl rfl rfl rfl rfl .z ?_
    refine gAc rfl rfl ?_
    refine go_nil ?_
    obtain rfl := someI hF
    exact g_ret (rsc rfl (lm_w (mem_seg 0 rfl) ag_47 sz_47 rfl) (rst rfl rs0)) (fun h1 hf hs => ⟨hs.hext, rfl⟩)
theorem s_txn_Holds_1 (n : Nat) {h : Heap} (hw : Wf h) (p0 : TCmp) (p1 : (List TKV)) {a1_0 : Option Addr} {c1_0 : Nat} {b1 : Nat} (f1_0 : RL R_TKV h a1_0 c1_0 p1) (g1 : BK h b1 [.slice a1_0 p1.length c1_0] 28) {r : Bool} (hF : F_txn_Holds_1 n p0 p1 = some r) :
    Ev EE 99 [.agg #[.int .i64 p0.Kind, .string p0.Key, .string p0.Val, .int .i64 p0.Rev], .pointer (some ⟨b1, 0, none⟩)] h (fun v _ => v = .bool r) := by
  unfold F_txn_Holds_1 at hF
  refine ev_of hw rfl at_99 rfl rfl (go_seg0 ?_)
  refine go_seq ?_
  refine go_region ?_
  refine gs_box rfl (ot rfl) rfl ?_; intro b2_1
  refine gAc rfl rfl ?_
  refine go_nil ?_
  refine go_seq ?_
  refine go_region ?_
  refine gr rfl (r_load (ot rfl) (v := .slice a1_0 p1.length c1_0) (lo_e (fun hf kn => ld_cell ag_28 (g1.ext kn) rfl))) ?_
  refine gr rfl (r_fa (ot rfl) (fa_133_1 _ _)) ?_
  refine gr rfl (r_load (ot rfl) (lm_s (mem_seg 0 rfl) ag_9 rfl)) ?_
  replace hF := obind hF
  obtain ⟨x2, hx2, hF⟩ := hF
  refine g_callp (v := .tuple #[.agg #[.string x2.1.Key, .string x2.1.Val, .int .i64 x2.1.Rev], .bool x2.2]) EE_fr rfl of (os1 (ot rfl) (os1 (ot rfl) os0)) hb_73 (fun _ => rfl) (fun hf kn w => by exact s_txn_find n w p1 p0.Key (f1_0.ext kn) hx2) ?_
  refine gM rfl rfl ?_
  refine gE rfl rfl rfl ?_
  refine gE rfl rfl rfl ?_
  refine gs_alloc rfl zo_47 rfl ?_; intro b4_3
  refine gs_store (ot rfl) (ot rfl) sz_47 rfl rfl rfl rfl rfl .z ?_
  refine gA rfl rfl ?_
  refine go_nil ?_
  refine go_seq ?_
  refine go_block ?_
  refine go_seq ?_
  refine go_region ?_
  refine gr rfl (r_fa (ot rfl) (fa_133_0 _ _)) ?_
  refine gr rfl (r_load (ot rfl) (lm_s (mem_seg 1 rfl) ag_3 rfl)) ?_
  refine gr rfl (r_bin (ot rfl) (oc rfl) rfl) ?_
  refine gA rfl rfl ?_
  refine go_nil ?_
  refine g_cond (b := (p0.Kind == 1)) (ot rfl) (fun hc4 => ?_) (fun hc4 => ?_)
  ·
    replace hF := ifT hc4 hF
    refine go_seq ?_
    refine go_region ?_
    refine gM rfl rfl ?_
    refine gr rfl (r_un (ot rfl) rfl) ?_
    refine gM rfl rfl ?_
    refine grf rfl rfl rfl rfl (r_fa (ot rfl) (fa_47_1 _ _)) ?_
    refine grf rfl rfl rfl rfl (r_load (og rfl id) (lm_s (mem_seg 0 rfl) ag_9 rfl)) ?_
    refine grf rfl rfl rfl rfl (r_fa (ot rfl) (fa_133_2 _ _)) ?_
    refine grf rfl rfl rfl rfl (r_load (og rfl id) (lm_s (mem_seg 1 rfl) ag_9 rfl)) ?_
    refine grf rfl rfl rfl rfl (r_bin (og rfl id) (og rfl id) rfl) ?_
    refine gr rfl (r_pickb (ot rfl) (oc rfl) (og rfl id)) ?_
    refine gA rfl rfl ?_
    refine go_nil ?_
    obtain rfl := someI hF
    exact g_ret (rst rfl rs0) (fun h1 hf hs => ⟨hs.hext, rfl⟩)
  ·
    replace hF := ifF hc4 hF
    refine go_seq ?_
    refine go_region ?_
    refine gr rfl (r_fa (ot rfl) (fa_133_0 _ _)) ?_
    refine gr rfl (r_load (ot rfl) (lm_s (mem_seg 1 rfl) ag_3 rfl)) ?_
    refine gr rfl (r_bin (ot rfl) (oc rfl) rfl) ?_
    refine gM rfl rfl ?_
    refine grt rfl rfl rfl rfl (r_fa (ot rfl) (fa_133_3 _ _)) ?_
    refine grt rfl rfl rfl rfl (r_load (og rfl id) (lm_s (mem_seg 1 rfl) ag_3 rfl)) ?_
    refine grt rfl rfl rfl rfl (r_bin (og rfl id) (oc rfl) rfl) ?_
    refine gr rfl (r_pickb (ot rfl) (og rfl id) (oc rfl)) ?_
    refine gA rfl rfl ?_
    refine go_nil ?_
    refine g_cond (b := (bif (p0.Kind == 2) then (p0.Rev == 0) else false)) (ot rfl) (fun hc5 => ?_) (fun hc5 => ?_)
    ·
      replace hF := ifT hc5 hF
      refine go_seq ?_
      refine go_region ?_
      refine gM rfl rfl ?_
      refine gA rfl rfl ?_
      refine go_nil ?_
      obtain rfl := someI hF
      exact g_ret (rst rfl rs0) (fun h1 hf hs => ⟨hs.hext, rfl⟩)
    ·
      replace hF := ifF hc5 hF
      refine go_seq ?_
      refine go_region ?_
      refine gr rfl (r_fa (ot rfl) (fa_133_0 _ _)) ?_
      refine gr rfl (r_load (ot rfl) (lm_s (mem_seg 1 rfl) ag_3 rfl)) ?_
      refine gr rfl (r_bin (ot rfl) (oc rfl) rfl) ?_
      refine gA rfl rfl ?_
      refine go_nil ?_
      refine g_cond (b := (p0.Kind == 2)) (ot rfl) (fun hc6 => ?_) (fun hc6 => ?_)
      ·
        replace hF := ifT hc6 hF
        refine go_seq ?_
        refine go_region ?_
        refine gM rfl rfl ?_
        refine gr rfl (r_un (ot rfl) rfl) ?_
        refine gM rfl rfl ?_
        refine grf rfl rfl rfl rfl (r_fa (ot rfl) (fa_47_2 _ _)) ?_
        refine grf rfl rfl rfl rfl (r_load (og rfl id) (lm_s (mem_seg 0 rfl) ag_3 rfl)) ?_
        refine grf rfl rfl rfl rfl (r_fa (ot rfl) (fa_133_3 _ _)) ?_
        refine grf rfl rfl rfl rfl (r_load (og rfl id) (lm_s (mem_seg 1 rfl) ag_3 rfl)) ?_
        refine grf rfl rfl rfl rfl (r_bin (og rfl id) (og rfl id) rfl) ?_
        refine gr rfl (r_pickb (ot rfl) (oc rfl) (og rfl id)) ?_
        refine gA rfl rfl ?_
        refine go_nil ?_
        obtain rfl := someI hF
        exact g_ret (rst rfl rs0) (fun h1 hf hs => ⟨hs.hext, rfl⟩)
      ·
        replace hF := ifF hc6 hF
        refine go_skip ?_
        refine go_endb ?_
        refine go_seq ?_
        refine go_region ?_
        refine gAc rfl rfl ?_
        refine go_nil ?_
        obtain rfl := someI hF
        exact g_ret (rst rfl rs0) (fun h1 hf hs => ⟨hs.hext, rfl⟩)
theorem s_slices_IndexFunc_111_txn_Holds_1 (n : Nat) {h : Heap} (hw : Wf h) (p0 : (List TCmp)) (p1c0 : (List TKV)) {a0_0 : Option Addr} {c0_0 : Nat} {a1c0_0 : Option Addr} {c1c0_0 : Nat} {b1c0 : Nat} (f0_0 : RL R_TCmp h a0_0 c0_0 p0) (f1c0_0 : RL R_TKV h a1c0_0 c1c0_0 p1c0) (g1c0 : BK h b1c0 [.slice a1c0_0 p1c0.length c1c0_0] 28) {r : Int} (hF : F_slices_IndexFunc_111_txn_Holds_1 n p0 p1c0 = some r) :
    Ev EE 111 [.slice a0_0 p0.length c0_0, .func (.func 99) #[] #[.pointer (some ⟨b1c0, 0, none⟩)]] h (fun v _ => v = .int .i64 r) := by
  unfold F_slices_IndexFunc_111_txn_Holds_1 at hF
  refine ev_of hw rfl at_111 rfl rfl (go_seg0 ?_)
  refine go_seq ?_
  refine go_region ?_
  refine gAc rfl rfl ?_
  refine go_nil ?_
  refine go_seq ?_
  refine go_seq ?_
  refine go_region ?_
  refine gM rfl rfl ?_
  refine gr rfl (r_len rfl (os1 (ot rfl) os0) (fun _ _ => ln_59)) ?_
  refine gMc rfl rfl ?_
  refine go_nil ?_
  replace hF := obind hF
  obtain ⟨s1, hF, hK1⟩ := hF
  refine go_joinc (β := (Unit)) (fun s h' => s1 = .go s) (fun s => [(4, true, .int .i64 0)]) (fun s => (List.flatten [] : List Blk)) ?_ (fun J1 => ?_)
  ·
    rintro _ h1 e1 w1 hs1
    subst hs1
    replace hF := lpgo hK1
    refine go_seq ?_
    refine go_region ?_
    refine gAc rfl rfl ?_
    refine go_nil ?_
    obtain rfl := someI hF
    exact g_ret (rst rfl rs0) (fun h1 hf hs => ⟨(e1.trans hs.hext), rfl⟩)
  ·
    refine go_block ?_
    refine go_loop (α := (List TCmp) × Nat × Heap) (fun a => a.1 = List.drop a.2.1 p0 ∧ HExt h a.2.2 ∧ Wf a.2.2 ∧ F_slices_IndexFunc_111_txn_Holds_1_L1 n p1c0 a.1 a.2.1 = some s1) (fun a => a.1.length) (fun a => [(0, true, .slice a0_0 p0.length c0_0), (1, true, .func (.func 99) #[] #[.pointer (some ⟨b1c0, 0, none⟩)]), (4, true, .int .i64 0), (7, true, .int .i64 (p0.length : Int)), (8, true, .int .i64 (a.2.1 : Int))]) (fun a => (List.flatten [] : List Blk)) (fun a => a.2.2) ?_ (p0, 0, h) ⟨rfl, HExt.refl _, hw, hF⟩ (Sub.cons (Sub.cons (Sub.cons (Sub.cons (Sub.cons (Sub.nil _) rfl) rfl) rfl) rfl) rfl) rfl rfl
    rintro ⟨r2, i2, h2⟩ ⟨hr2, e2, w2, hF⟩ ih2
    rcases r2 with _ | ⟨z2, r2⟩
    ·
      have hi2 := drop_nil hr2
      rw [F_slices_IndexFunc_111_txn_Holds_1_L1.eq_1] at hF
      refine go_seq ?_
      refine go_region ?_
      refine gr rfl (r_bin (ot rfl) (ot rfl) rfl) ?_
      refine go_cast (.bool false) (congrArg Value.bool (decide_eq_false hi2)) ?_
      refine go_nil ?_
      refine go_seq ?_
      refine g_cond (b := false) (ot rfl) (fun hc3 => ?_) (fun hc3 => ?_)
      · cases hc3
      refine go_exit rfl ?_
      obtain rfl := someI hF
      exact Goes.weak (J1 () _ e2 w2 rfl) (Sub.cons (Sub.nil _) rfl)
    ·
      obtain ⟨hi2, hx2, hr2⟩ := drop_cons hr2
      have hb2 := (f0_0.ext e2.kn).1
      rw [F_slices_IndexFunc_111_txn_Holds_1_L1.eq_2] at hF
      refine go_seq ?_
      refine go_region ?_
      refine gr rfl (r_bin (ot rfl) (ot rfl) rfl) ?_
      refine go_cast (.bool true) (congrArg Value.bool (decide_eq_true (Int.ofNat_lt.mpr hi2))) ?_
      refine go_nil ?_
      refine go_seq ?_
      refine g_cond (b := true) (ot rfl) (fun hc4 => ?_) (fun hc4 => ?_)
      rotate_left
      · cases hc4
      refine go_skip ?_
      refine go_seq ?_
      refine go_block ?_
      refine go_seq ?_
      refine go_region ?_
      refine gM rfl rfl ?_
      refine gA rfl rfl ?_
      refine go_nil ?_
      refine go_seq ?_
      refine go_region ?_
      refine gM rfl rfl ?_
      refine gM rfl rfl ?_
      refine gM rfl rfl ?_
      obtain ⟨q5, row5, i5, cl5, rc5, sp5⟩ := ix (ik := .i64) (cap := c0_0) (E := EE) (f0_0.ext e2.kn) ((getI_nat _ _).trans hx2) ut_59 sz_133 rfl
      obtain rfl := rc5
      refine gr rfl (r_ia (ot rfl) (ot rfl) i5) ?_
      refine gr rfl (r_load (ot rfl) (v := .agg #[.int .i64 z2.Kind, .string z2.Key, .string z2.Val, .int .i64 z2.Rev]) (lo_e (fun hf kn => ld_of (r := [.int .i64 z2.Kind, .string z2.Key, .string z2.Val, .int .i64 z2.Rev]) ag_133 sz_133 (kn.cellsAt cl5)))) ?_
      replace hF := obind hF
      obtain ⟨x6, hx6, hF⟩ := hF
      refine g_callp (v := .bool x6) EE_fr rfl (ot rfl) (os1 (ot rfl) os0) hb_99 (fun _ => rfl) (fun hf kn w => by exact s_txn_Holds_1 n w z2 p1c0 ((f1c0_0.ext e2.kn).ext kn) ((g1c0.ext e2.kn).ext kn) hx6) ?_
      refine go_nil ?_
      refine g_cond (b := x6) (ot rfl) (fun hc7 => ?_) (fun hc7 => ?_)
      ·
        replace hF := ifT hc7 hF
        refine go_seq ?_
        refine go_region ?_
        refine gM rfl rfl ?_
        refine gA rfl rfl ?_
        refine go_nil ?_
        obtain rfl := someI hF
        obtain rfl := someI hK1
        exact g_ret (rst rfl rs0) (fun h1 hf hs => ⟨(e2.trans hs.hext), rfl⟩)
      ·
        replace hF := ifF hc7 hF
        refine go_skip ?_
        refine go_endb ?_
        refine go_region ?_
        refine gr rfl (r_bin (ot rfl) (oc rfl) rfl) ?_
        refine gM rfl rfl ?_
        refine go_nil ?_
        refine go_re 8 (v2 := .int .i64 ((i2 + 1 : Nat) : Int)) rfl (wrap_succ hi2 hb2) ?_
        exact Goes.weak (ih2 (r2, i2 + 1, h2) ⟨hr2, e2, w2, hF⟩ (Nat.lt_succ_self _)) (Sub.cons (Sub.cons (Sub.cons (Sub.cons (Sub.cons (Sub.nil _) rfl) rfl) rfl) rfl) rfl)
theorem s_slices_ContainsFunc_96_txn_Holds_1 (n : Nat) {h : Heap} (hw : Wf h) (p0 : (List TCmp)) (p1c0 : (List TKV)) {a0_0 : Option Addr} {c0_0 : Nat} {a1c0_0 : Option Addr} {c1c0_0 : Nat} {b1c0 : Nat} (f0_0 : RL R_TCmp h a0_0 c0_0 p0) (f1c0_0 : RL R_TKV h a1c0_0 c1c0_0 p1c0) (g1c0 : BK h b1c0 [.slice a1c0_0 p1c0.length c1c0_0] 28) {r : Bool} (hF : F_slices_ContainsFunc_96_txn_Holds_1 n p0 p1c0 = some r) :
    Ev EE 96 [.slice a0_0 p0.length c0_0, .func (.func 99) #[] #[.pointer (some ⟨b1c0, 0, none⟩)]] h (fun v _ => v = .bool r) := by
  unfold F_slices_ContainsFunc_96_txn_Holds_1 at hF
  refine ev_of hw rfl at_96 rfl rfl (go_seg0 ?_)
  refine go_seq ?_
  refine go_region ?_
  refine gAc rfl rfl ?_
  refine go_nil ?_
  refine go_seq ?_
  refine go_region ?_
  refine gM rfl rfl ?_
  refine gM rfl rfl ?_
  replace hF := obind hF
  obtain ⟨x1, hx1, hF⟩ := hF
  refine g_callp (v := .int .i64 x1) EE_fr rfl of (os1 (ot rfl) (os1 (ot rfl) os0)) hb_111 (fun _ => rfl) (fun hf kn w => by exact s_slices_IndexFunc_111_txn_Holds_1 n w p0 p1c0 (f0_0.ext kn) (f1c0_0.ext kn) (g1c0.ext kn) hx1) ?_
  refine gr rfl (r_bin (ot rfl) (oc rfl) rfl) ?_
  refine gA rfl rfl ?_
  refine go_nil ?_
  obtain rfl := someI hF
  exact g_ret (rst rfl rs0) (fun h1 hf hs => ⟨hs.hext, rfl⟩)
theorem s_txn_Holds (n : Nat) {h : Heap} (hw : Wf h) (p0 : (List TKV)) (p1 : (List TCmp)) {a0_0 : Option Addr} {c0_0 : Nat} {a1_0 : Option Addr} {c1_0 : Nat} (f0_0 : RL R_TKV h a0_0 c0_0 p0) (f1_0 : RL R_TCmp h a1_0 c1_0 p1) {r : Bool} (hF : F_txn_Holds n p0 p1 = some r) :
    Ev EE 72 [.slice a0_0 p0.length c0_0, .slice a1_0 p1.length c1_0] h (fun v _ => v = .bool r) := by
  unfold F_txn_Holds at hF
  refine ev_of hw rfl at_72 rfl rfl (go_seg0 ?_)
  refine go_seq ?_
  refine go_region ?_
  refine gs_box rfl (ot rfl) rfl ?_; intro b2_1
  refine gAc rfl rfl ?_
  refine go_nil ?_
  refine go_seq ?_
  refine go_region ?_
  refine gM rfl rfl ?_
  refine gr rfl (r_func os0 (os1 (ot rfl) os0)) ?_
  refine gs_pub .z (fun h3 e3 w3 hb3 => ?_)
  have g3_ : BK h3 b2_1 [.slice a0_0 p0.length c0_0] 28 := hb3
  replace hF := obind hF
  obtain ⟨x2, hx2, hF⟩ := hF
  refine g_callp (v := .bool x2) EE_fr rfl of (os1 (ot rfl) (os1 (ot rfl) os0)) hb_96 (fun _ => rfl) (fun hf kn w => by exact s_slices_ContainsFunc_96_txn_Holds_1 n w p1 p0 ((f1_0.ext e3.kn).ext kn) ((f0_0.ext e3.kn).ext kn) (g3_.ext kn) hx2) ?_
  refine gr rfl (r_un (ot rfl) rfl) ?_
  refine gA rfl rfl ?_
  refine go_nil ?_
  obtain rfl := someI hF
  exact g_ret (rst rfl rs0) (fun h1 hf hs => ⟨(e3.trans hs.hext), rfl⟩)
theorem s_txn_Plan (n : Nat) {h : Heap} (hw : Wf h) (p0 : (List TKV)) (p1 : TReq) {a0_0 : Option Addr} {c0_0 : Nat} {a1_4 : Option Addr} {c1_4 : Nat} {a1_5 : Option Addr} {c1_5 : Nat} {a1_6 : Option Addr} {c1_6 : Nat} (f0_0 : RL R_TKV h a0_0 c0_0 p0) (f1_4 : RL R_TCmp h a1_4 c1_4 p1.Cmps) (f1_5 : RL R_TOp h a1_5 c1_5 p1.Then) (f1_6 : RL R_TOp h a1_6 c1_6 p1.Else) {r : Bool × (List TOp)} (hF : F_txn_Plan n p0 p1 = some r) :
    Ev EE 30 [.slice a0_0 p0.length c0_0, .agg #[.int .i64 p1.Kind, .string p1.R.From, .string p1.R.To, .int .i64 p1.Rev, .slice a1_4 p1.Cmps.length c1_4, .slice a1_5 p1.Then.length c1_5, .slice a1_6 p1.Else.length c1_6]] h (fun v h1 => ∃ a0 c0, v = .tuple #[.bool r.1, .slice a0 r.2.length c0] ∧ RL R_TOp h1 a0 c0 r.2) := by
  unfold F_txn_Plan at hF
  refine ev_of hw rfl at_30 rfl rfl (go_seg0 ?_)
  refine go_seq ?_
  refine go_region ?_
  refine gs_box rfl (ot rfl) rfl ?_; intro b3_1
  refine gAc rfl rfl ?_
  refine gAc rfl rfl ?_
  refine go_nil ?_
  refine go_seq ?_
  refine go_region ?_
  refine gM rfl rfl ?_
  refine gr rfl (r_fa (ot rfl) (fa_61_3 _ _)) ?_
  refine gr rfl (r_load (ot rfl) (lm_s (mem_seg 0 rfl) ag_59 rfl)) ?_
  replace hF := obind hF
  obtain ⟨x2, hx2, hF⟩ := hF
  refine g_callp (v := .bool x2) EE_fr rfl of (os1 (ot rfl) (os1 (ot rfl) os0)) hb_72 (fun _ => rfl) (fun hf kn w => by exact s_txn_Holds n w p0 p1.Cmps (f0_0.ext kn) (f1_4.ext kn) hx2) ?_
  refine gA rfl rfl ?_
  refine go_nil ?_
  refine go_seq ?_
  refine go_region ?_
  refine gr rfl (r_fa (ot rfl) (fa_61_5 _ _)) ?_
  refine gr rfl (r_load (ot rfl) (lm_s (mem_seg 0 rfl) ag_39 rfl)) ?_
  refine gA rfl rfl ?_
  refine go_nil ?_
  refine go_seq ?_
  refine go_seq ?_
  refine go_region ?_
  refine gM rfl rfl ?_
  refine go_nil ?_
  replace hF := obind hF
  obtain ⟨s4, hF, hK4⟩ := hF
  refine go_joinc (β := Option Addr × Nat) (fun s h' => RL R_TOp h' s.1 s.2 s4) (fun s => [(0, true, .slice a0_0 p0.length c0_0), (4, true, .bool false), (5, true, .slice none 0 0), (6, true, .bool x2), (7, true, .slice s.1 s4.length s.2)]) (fun s => (List.flatten [[⟨b3_1, .cells [.int .i64 p1.Kind, .string p1.R.From, .string p1.R.To, .int .i64 p1.Rev, .slice a1_4 p1.Cmps.length c1_4, .slice a1_5 p1.Then.length c1_5, .slice a1_6 p1.Else.length c1_6] 61⟩]] : List Blk)) ?_ (fun J4 => ?_)
  ·
    rintro ⟨a4_0, a4_1⟩ h4 e4 w4 f4_0
    replace hF := hK4
    refine go_seq ?_
    refine go_region ?_
    refine gAc rfl rfl ?_
    refine go_nil ?_
    refine go_seq ?_
    refine go_seq ?_
    refine go_region ?_
    refine gM rfl rfl ?_
    refine gr rfl (r_len rfl (os1 (ot rfl) os0) (fun _ _ => ln_39)) ?_
    refine gMc rfl rfl ?_
    refine go_nil ?_
    replace hF := obind hF
    obtain ⟨s5, hF, hK5⟩ := hF
    refine go_joinc (β := Option Addr × List Blk) (fun s h' => AccR R_TOp 45 h' s.2 (.slice s.1 s5.length s5.length) s5) (fun s => [(4, true, .bool false), (5, true, .slice none 0 0), (6, true, .bool x2), (8, true, .slice s.1 s5.length s5.length)]) (fun s => (List.flatten [s.2, [⟨b3_1, .cells [.int .i64 p1.Kind, .string p1.R.From, .string p1.R.To, .int .i64 p1.Rev, .slice a1_4 p1.Cmps.length c1_4, .slice a1_5 p1.Then.length c1_5, .slice a1_6 p1.Else.length c1_6] 61⟩]] : List Blk)) ?_ (fun J5 => ?_)
    ·
      rintro ⟨a5_0, a5_1⟩ h5 e5 w5 f5_0
      replace hF := hK5
      refine go_seq ?_
      refine go_region ?_
      refine gM rfl rfl ?_
      refine gM rfl rfl ?_
      refine gA rfl rfl ?_
      refine gA rfl rfl ?_
      refine go_nil ?_
      refine gs_accpub .z f5_0 (fun h6 e6 w6 f6_ => ?_) rfl
      obtain rfl := someI hF
      exact g_ret (rst rfl (rst rfl rs0)) (fun h1 hf hs => ⟨(e4.trans (e5.trans (e6.trans hs.hext))), ⟨_, _, rfl, (f6_.ext hs.hext.kn)⟩⟩)
    ·
      refine go_block ?_
      refine go_loop (α := (List TOp) × Nat × (List TOp) × Option Addr × List Blk × Heap) (fun a => a.1 = List.drop a.2.1 s4 ∧ HExt h4 a.2.2.2.2.2 ∧ Wf a.2.2.2.2.2 ∧ F_txn_Plan_L1 n p0 a.1 a.2.1 a.2.2.1 = some s5 ∧ AccR R_TOp 45 a.2.2.2.2.2 a.2.2.2.2.1 (.slice a.2.2.2.1 a.2.2.1.length a.2.2.1.length) a.2.2.1) (fun a => a.1.length) (fun a => [(0, true, .slice a0_0 p0.length c0_0), (4, true, .bool false), (5, true, .slice none 0 0), (6, true, .bool x2), (8, true, .slice a.2.2.2.1 a.2.2.1.length a.2.2.1.length), (22, true, .slice a4_0 s4.length a4_1), (23, true, .int .i64 (s4.length : Int)), (24, true, .int .i64 (a.2.1 : Int))]) (fun a => (List.flatten [a.2.2.2.2.1, [⟨b3_1, .cells [.int .i64 p1.Kind, .string p1.R.From, .string p1.R.To, .int .i64 p1.Rev, .slice a1_4 p1.Cmps.length c1_4, .slice a1_5 p1.Then.length c1_5, .slice a1_6 p1.Else.length c1_6] 61⟩]] : List Blk)) (fun a => a.2.2.2.2.2) ?_ (s4, 0, ([] : List TOp), none, [], h4) ⟨rfl, HExt.refl _, w4, hF, (AccR.nil _ _ _)⟩ (Sub.cons (Sub.cons (Sub.cons (Sub.cons (Sub.cons (Sub.cons (Sub.cons (Sub.cons (Sub.nil _) rfl) rfl) rfl) rfl) rfl) rfl) rfl) rfl) rfl rfl
      rintro ⟨r7, i7, y7_0, a7_0, a7_1, h7⟩ ⟨hr7, e7, w7, hF, f7_0⟩ ih7
      rcases r7 with _ | ⟨z7, r7⟩
      ·
        have hi7 := drop_nil hr7
        rw [F_txn_Plan_L1.eq_1] at hF
        refine go_seq ?_
        refine go_region ?_
        refine gr rfl (r_bin (ot rfl) (ot rfl) rfl) ?_
        refine go_cast (.bool false) (congrArg Value.bool (decide_eq_false hi7)) ?_
        refine go_nil ?_
        refine go_seq ?_
        refine g_cond (b := false) (ot rfl) (fun hc8 => ?_) (fun hc8 => ?_)
        · cases hc8
        refine go_exit rfl ?_
        obtain rfl := someI hF
        exact Goes.weak (J5 (a7_0, a7_1) _ e7 w7 f7_0) (Sub.cons (Sub.cons (Sub.cons (Sub.cons (Sub.nil _) rfl) rfl) rfl) rfl)
      ·
        obtain ⟨hi7, hx7, hr7⟩ := drop_cons hr7
        have hb7 := (f4_0.ext e7.kn).1
        rw [F_txn_Plan_L1.eq_2] at hF
        refine go_seq ?_
        refine go_region ?_
        refine gr rfl (r_bin (ot rfl) (ot rfl) rfl) ?_
        refine go_cast (.bool true) (congrArg Value.bool (decide_eq_true (Int.ofNat_lt.mpr hi7))) ?_
        refine go_nil ?_
        refine go_seq ?_
        refine g_cond (b := true) (ot rfl) (fun hc9 => ?_) (fun hc9 => ?_)
        rotate_left
        · cases hc9
        refine go_skip ?_
        refine go_seq ?_
        refine go_block ?_
        refine go_seq ?_
        refine go_region ?_
        obtain ⟨q10, row10, i10, cl10, rc10, sp10⟩ := ix (ik := .i64) (cap := a4_1) (E := EE) (f4_0.ext e7.kn) ((getI_nat _ _).trans hx7) ut_39 sz_45 rfl
        obtain rfl := rc10
        refine gr rfl (r_ia (ot rfl) (ot rfl) i10) ?_
        refine gr rfl (r_load (ot rfl) (v := .agg #[.string z7.Key, .string z7.Val, .bool z7.Del]) (lo_e (fun hf kn => ld_of (r := [.string z7.Key, .string z7.Val, .bool z7.Del]) ag_45 sz_45 (kn.cellsAt cl10)))) ?_
        refine gs_alloc rfl zo_45 rfl ?_; intro b10_11
        refine gs_store (ot rfl) (ot rfl) sz_45 rfl rfl rfl rfl rfl .z ?_
        refine go_nil ?_
        refine go_seq ?_
        refine go_region ?_
        refine gM rfl rfl ?_
        refine gr rfl (r_fa (ot rfl) (fa_45_0 _ _)) ?_
        refine gr rfl (r_load (ot rfl) (lm_s (mem_seg 0 rfl) ag_9 rfl)) ?_
        replace hF := obind hF
        obtain ⟨x12, hx12, hF⟩ := hF
        refine g_callp (v := .tuple #[.agg #[.string x12.1.Key, .string x12.1.Val, .int .i64 x12.1.Rev], .bool x12.2]) EE_fr rfl of (os1 (ot rfl) (os1 (ot rfl) os0)) hb_73 (fun _ => rfl) (fun hf kn w => by exact s_txn_find n w p0 z7.Key (((f0_0.ext e4.kn).ext e7.kn).ext kn) hx12) ?_
        refine gM rfl rfl ?_
        refine gE rfl rfl rfl ?_
        refine gE rfl rfl rfl ?_
        refine gs_alloc rfl zo_47 rfl ?_; intro b11_13
        refine gs_store (ot rfl) (ot rfl) sz_47 rfl rfl rfl rfl rfl .z ?_
        refine gA rfl rfl ?_
        refine go_nil ?_
        refine go_seq ?_
        refine go_region ?_
        refine gM rfl rfl ?_
        refine gM rfl rfl ?_
        refine grf rfl rfl rfl rfl (r_fa (ot rfl) (fa_45_2 _ _)) ?_
        refine grf rfl rfl rfl rfl (r_load (og rfl id) (lm_s (mem_seg 1 rfl) ag_4 rfl)) ?_
        refine grf rfl rfl rfl rfl (r_un (og rfl id) rfl) ?_
        refine gr rfl (r_pickb (ot rfl) (oc rfl) (og rfl id)) ?_
        refine go_nil ?_
        refine g_cond (b := (bif x12.2 then true else (!z7.Del))) (ot rfl) (fun hc14 => ?_) (fun hc14 => ?_)
        ·
          replace hF := ifT hc14 hF
          refine go_region ?_
          refine gM rfl rfl ?_
          refine gr rfl (r_load (ot rfl) (lm_w (mem_seg 1 rfl) ag_45 sz_45 rfl)) ?_
          refine gs_bslice (cs := [.string z7.Key, .string z7.Val, .bool z7.Del]) rfl (op1 (ot rfl) op0) ut_39 sz_45 zo_45 rfl rfl ?_; intro b43_15
          replace hF := obind hF
          obtain ⟨x16, hx16, hF⟩ := hF
          obtain ⟨hr16, hz16_⟩ := appL_some hx16; subst x16
          refine gs_front (.s (.s (.s (.z)))) ?_
          refine gs_app (rows2 := [[.string z7.Key, .string z7.Val, .bool z7.Del]]) (R := R_TOp) rfl (os1 (ot rfl) (os1 (ot rfl) os0)) rfl ut_39 sz_45 rfl (by decide) by_45 zo_45 rfl zs_39_39 rfl rfl (first_m (mem_seg 1 rfl) rfl (by decide)) (Rws.one (x := z7) rfl) f7_0 hr16 (fun p16_ tl16 f16_ => ?_)
          refine gA rfl rfl ?_
          refine go_nil ?_
          refine go_endb ?_
          refine go_region ?_
          refine gr rfl (r_bin (ot rfl) (oc rfl) rfl) ?_
          refine gM rfl rfl ?_
          refine go_nil ?_
          refine gs_sub (.cons_cons _ (.cons _ (.cons _ (.cons _ (.cons_cons _ (.refl _)))))) ?_
          refine go_re 24 (v2 := .int .i64 ((i7 + 1 : Nat) : Int)) rfl (wrap_succ hi7 hb7) ?_
          exact Goes.weak (ih7 (r7, i7 + 1, (y7_0 ++ ([z7] : List TOp)), p16_, tl16, h7) ⟨hr7, e7, w7, hF, f16_⟩ (Nat.lt_succ_self _)) (Sub.cons (Sub.cons (Sub.cons (Sub.cons (Sub.cons (Sub.cons (Sub.cons (Sub.cons (Sub.nil _) rfl) rfl) rfl) rfl) rfl) rfl) rfl) rfl)
        ·
          replace hF := ifF hc14 hF
          refine go_skip ?_
          refine go_endb ?_
          refine go_region ?_
          refine gr rfl (r_bin (ot rfl) (oc rfl) rfl) ?_
          refine gM rfl rfl ?_
          refine go_nil ?_
          refine gs_sub (.cons _ (.cons _ (.cons_cons _ (.cons_cons _ (.refl _))))) ?_
          refine go_re 24 (v2 := .int .i64 ((i7 + 1 : Nat) : Int)) rfl (wrap_succ hi7 hb7) ?_
          exact Goes.weak (ih7 (r7, i7 + 1, y7_0, a7_0, a7_1, h7) ⟨hr7, e7, w7, hF, f7_0⟩ (Nat.lt_succ_self _)) (Sub.cons (Sub.cons (Sub.cons (Sub.cons (Sub.cons (Sub.cons (Sub.cons (Sub.cons (Sub.nil _) rfl) rfl) rfl) rfl) rfl) rfl) rfl) rfl)
  ·
    refine g_cond (b := x2) (ot rfl) (fun hc3 => ?_) (fun hc3 => ?_)
    ·
      replace hF := ifT hc3 hF
      refine go_region ?_
      refine gr rfl (r_fa (ot rfl) (fa_61_4 _ _)) ?_
      refine gr rfl (r_load (ot rfl) (lm_s (mem_seg 0 rfl) ag_39 rfl)) ?_
      refine gA rfl rfl ?_
      refine go_nil ?_
      obtain rfl := someI hF
      exact Goes.weak (J4 (a1_5, c1_5) _ (HExt.refl _) hw f1_5) (Sub.cons (Sub.cons (Sub.cons (Sub.cons (Sub.cons (Sub.nil _) rfl) rfl) rfl) rfl) rfl)
    ·
      replace hF := ifF hc3 hF
      refine go_skip ?_
      obtain rfl := someI hF
      exact Goes.weak (J4 (a1_6, c1_6) _ (HExt.refl _) hw f1_6) (Sub.cons (Sub.cons (Sub.cons (Sub.cons (Sub.cons (Sub.nil _) rfl) rfl) rfl) rfl) rfl)
theorem s_txn_compares_1 {h : Heap} (hw : Wf h) (p0 : TCmp)   {r : Bool} (hF : F_txn_compares_1 p0 = some r) :
    Ev EE 94 [.agg #[.int .i64 p0.Kind, .string p0.Key, .string p0.Val, .int .i64 p0.Rev]] h (fun v _ => v = .bool r) := by
  unfold F_txn_compares_1 at hF
  refine ev_of hw rfl at_94 rfl rfl (go_seg0 ?_)
  refine go_seq ?_
  refine go_region ?_
  refine gs_box rfl (ot rfl) rfl ?_; intro b1_1
  refine gAc rfl rfl ?_
  refine go_nil ?_
  refine go_seq ?_
  refine go_region ?_
  refine gr rfl (r_fa (ot rfl) (fa_133_1 _ _)) ?_
  refine gr rfl (r_load (ot rfl) (lm_s (mem_seg 0 rfl) ag_9 rfl)) ?_
  replace hF := obind hF
  obtain ⟨x2, hx2, hF⟩ := hF
  refine g_callp (v := .bool x2) EE_fr rfl of (os1 (ot rfl) os0) hb_95 (fun _ => rfl) (fun hf kn w => by exact s_key_May w p0.Key  hx2) ?_
  refine gr rfl (r_un (ot rfl) rfl) ?_
  refine gM rfl rfl ?_
  refine grf rfl rfl rfl rfl (r_fa (ot rfl) (fa_133_0 _ _)) ?_
  refine grf rfl rfl rfl rfl (r_load (og rfl id) (lm_s (mem_seg 0 rfl) ag_3 rfl)) ?_
  refine grf rfl rfl rfl rfl (r_bin (og rfl id) (oc rfl) rfl) ?_
  refine grf rfl rfl rfl rfl (r_move (og rfl id)) ?_
  refine grt' rfl rfl rfl rfl (r_fa (ot rfl) (fa_133_0 _ _)) ?_
  refine grt' rfl rfl rfl rfl (r_load (og rfl id) (lm_s (mem_seg 0 rfl) ag_3 rfl)) ?_
  refine grt' rfl rfl rfl rfl (r_bin (og rfl id) (oc rfl) rfl) ?_
  refine grf rfl rfl rfl rfl (r_pickb (og rfl id) (og rfl id) (oc rfl)) ?_
  refine gr rfl (r_pickb (ot rfl) (oc rfl) (og rfl id)) ?_
  refine gM rfl rfl ?_
  refine grf rfl rfl rfl rfl (r_fa (ot rfl) (fa_133_2 _ _)) ?_
  refine grf rfl rfl rfl rfl (r_load (og rfl id) (lm_s (mem_seg 0 rfl) ag_9 rfl)) ?_
  refine grf rfl rfl rfl rfl (r_len rfl (os1 (og rfl id) os0) (fun _ _ => ln_9)) ?_
  refine grf rfl rfl rfl rfl (r_bin (og rfl id) (oc rfl) rfl) ?_
  refine gr rfl (r_pickb (ot rfl) (oc rfl) (og rfl id)) ?_
  refine gM rfl rfl ?_
  refine grf rfl rfl rfl rfl (r_fa (ot rfl) (fa_133_3 _ _)) ?_
  refine grf rfl rfl rfl rfl (r_load (og rfl id) (lm_s (mem_seg 0 rfl) ag_3 rfl)) ?_
  refine grf rfl rfl rfl rfl (r_bin (og rfl id) (oc rfl) rfl) ?_
  refine gr rfl (r_pickb (ot rfl) (oc rfl) (og rfl id)) ?_
  refine gA rfl rfl ?_
  refine go_nil ?_
  obtain rfl := someI hF
  exact g_ret (rst rfl rs0) (fun h1 hf hs => ⟨hs.hext, rfl⟩)
theorem s_slices_IndexFunc_111_txn_compares_1 {h : Heap} (hw : Wf h) (p0 : (List TCmp)) {a0_0 : Option Addr} {c0_0 : Nat} (f0_0 : RL R_TCmp h a0_0 c0_0 p0) {r : Int} (hF : F_slices_IndexFunc_111_txn_compares_1 p0 = some r) :
    Ev EE 111 [.slice a0_0 p0.length c0_0, .func (.func 94) #[] #[]] h (fun v _ => v = .int .i64 r) := by
  unfold F_slices_IndexFunc_111_txn_compares_1 at hF
  refine ev_of hw rfl at_111 rfl rfl (go_seg0 ?_)
  refine go_seq ?_
  refine go_region ?_
  refine gAc rfl rfl ?_
  refine go_nil ?_
  refine go_seq ?_
  refine go_seq ?_
  refine go_region ?_
  refine gM rfl rfl ?_
  refine gr rfl (r_len rfl (os1 (ot rfl) os0) (fun _ _ => ln_59)) ?_
  refine gMc rfl rfl ?_
  refine go_nil ?_
  replace hF := obind hF
  obtain ⟨s1, hF, hK1⟩ := hF
  refine go_joinc (β := (Unit)) (fun s h' => s1 = .go s) (fun s => [(4, true, .int .i64 0)]) (fun s => (List.flatten [] : List Blk)) ?_ (fun J1 => ?_)
  ·
    rintro _ h1 e1 w1 hs1
    subst hs1
    replace hF := lpgo hK1
    refine go_seq ?_
    refine go_region ?_
    refine gAc rfl rfl ?_
    refine go_nil ?_
    obtain rfl := someI hF
    exact g_ret (rst rfl rs0) (fun h1 hf hs => ⟨(e1.trans hs.hext), rfl⟩)
  ·
    refine go_block ?_
    refine go_loop (α := (List TCmp) × Nat × Heap) (fun a => a.1 = List.drop a.2.1 p0 ∧ HExt h a.2.2 ∧ Wf a.2.2 ∧ F_slices_IndexFunc_111_txn_compares_1_L1 a.1 a.2.1 = some s1) (fun a => a.1.length) (fun a => [(0, true, .slice a0_0 p0.length c0_0), (1, true, .func (.func 94) #[] #[]), (4, true, .int .i64 0), (7, true, .int .i64 (p0.length : Int)), (8, true, .int .i64 (a.2.1 : Int))]) (fun a => (List.flatten [] : List Blk)) (fun a => a.2.2) ?_ (p0, 0, h) ⟨rfl, HExt.refl _, hw, hF⟩ (Sub.cons (Sub.cons (Sub.cons (Sub.cons (Sub.cons (Sub.nil _) rfl) rfl) rfl) rfl) rfl) rfl rfl
    rintro ⟨r2, i2, h2⟩ ⟨hr2, e2, w2, hF⟩ ih2
    rcases r2 with _ | ⟨z2, r2⟩
    ·
      have hi2 := drop_nil hr2
      rw [F_slices_IndexFunc_111_txn_compares_1_L1.eq_1] at hF
      refine go_seq ?_
      refine go_region ?_
      refine gr rfl (r_bin (ot rfl) (ot rfl) rfl) ?_
      refine go_cast (.bool false) (congrArg Value.bool (decide_eq_false hi2)) ?_
      refine go_nil ?_
      refine go_seq ?_
      refine g_cond (b := false) (ot rfl) (fun hc3 => ?_) (fun hc3 => ?_)
      · cases hc3
      refine go_exit rfl ?_
      obtain rfl := someI hF
      exact Goes.weak (J1 () _ e2 w2 rfl) (Sub.cons (Sub.nil _) rfl)
    ·
      obtain ⟨hi2, hx2, hr2⟩ := drop_cons hr2
      have hb2 := (f0_0.ext e2.kn).1
      rw [F_slices_IndexFunc_111_txn_compares_1_L1.eq_2] at hF
      refine go_seq ?_
      refine go_region ?_
      refine gr rfl (r_bin (ot rfl) (ot rfl) rfl) ?_
      refine go_cast (.bool true) (congrArg Value.bool (decide_eq_true (Int.ofNat_lt.mpr hi2))) ?_
      refine go_nil ?_
      refine go_seq ?_
      refine g_cond (b := true) (ot rfl) (fun hc4 => ?_) (fun hc4 => ?_)
      rotate_left
      · cases hc4
      refine go_skip ?_
      refine go_seq ?_
      refine go_block ?_
      refine go_seq ?_
      refine go_region ?_
      refine gM rfl rfl ?_
      refine gA rfl rfl ?_
      refine go_nil ?_
      refine go_seq ?_
      refine go_region ?_
      refine gM rfl rfl ?_
      refine gM rfl rfl ?_
      refine gM rfl rfl ?_
      obtain ⟨q5, row5, i5, cl5, rc5, sp5⟩ := ix (ik := .i64) (cap := c0_0) (E := EE) (f0_0.ext e2.kn) ((getI_nat _ _).trans hx2) ut_59 sz_133 rfl
      obtain rfl := rc5
      refine gr rfl (r_ia (ot rfl) (ot rfl) i5) ?_
      refine gr rfl (r_load (ot rfl) (v := .agg #[.int .i64 z2.Kind, .string z2.Key, .string z2.Val, .int .i64 z2.Rev]) (lo_e (fun hf kn => ld_of (r := [.int .i64 z2.Kind, .string z2.Key, .string z2.Val, .int .i64 z2.Rev]) ag_133 sz_133 (kn.cellsAt cl5)))) ?_
      replace hF := obind hF
      obtain ⟨x6, hx6, hF⟩ := hF
      refine g_callp (v := .bool x6) EE_fr rfl (ot rfl) (os1 (ot rfl) os0) hb_94 (fun _ => rfl) (fun hf kn w => by exact s_txn_compares_1 w z2  hx6) ?_
      refine go_nil ?_
      refine g_cond (b := x6) (ot rfl) (fun hc7 => ?_) (fun hc7 => ?_)
      ·
        replace hF := ifT hc7 hF
        refine go_seq ?_
        refine go_region ?_
        refine gM rfl rfl ?_
        refine gA rfl rfl ?_
        refine go_nil ?_
        obtain rfl := someI hF
        obtain rfl := someI hK1
        exact g_ret (rst rfl rs0) (fun h1 hf hs => ⟨(e2.trans hs.hext), rfl⟩)
      ·
        replace hF := ifF hc7 hF
        refine go_skip ?_
        refine go_endb ?_
        refine go_region ?_
        refine gr rfl (r_bin (ot rfl) (oc rfl) rfl) ?_
        refine gM rfl rfl ?_
        refine go_nil ?_
        refine go_re 8 (v2 := .int .i64 ((i2 + 1 : Nat) : Int)) rfl (wrap_succ hi2 hb2) ?_
        exact Goes.weak (ih2 (r2, i2 + 1, h2) ⟨hr2, e2, w2, hF⟩ (Nat.lt_succ_self _)) (Sub.cons (Sub.cons (Sub.cons (Sub.cons (Sub.cons (Sub.nil _) rfl) rfl) rfl) rfl) rfl)
theorem s_slices_ContainsFunc_96_txn_compares_1 {h : Heap} (hw : Wf h) (p0 : (List TCmp)) {a0_0 : Option Addr} {c0_0 : Nat} (f0_0 : RL R_TCmp h a0_0 c0_0 p0) {r : Bool} (hF : F_slices_ContainsFunc_96_txn_compares_1 p0 = some r) :
    Ev EE 96 [.slice a0_0 p0.length c0_0, .func (.func 94) #[] #[]] h (fun v _ => v = .bool r) := by
  unfold F_slices_ContainsFunc_96_txn_compares_1 at hF
  refine ev_of hw rfl at_96 rfl rfl (go_seg0 ?_)
  refine go_seq ?_
  refine go_region ?_
  refine gAc rfl rfl ?_
  refine go_nil ?_
  refine go_seq ?_
  refine go_region ?_
  refine gM rfl rfl ?_
  refine gM rfl rfl ?_
  replace hF := obind hF
  obtain ⟨x1, hx1, hF⟩ := hF
  refine g_callp (v := .int .i64 x1) EE_fr rfl of (os1 (ot rfl) (os1 (ot rfl) os0)) hb_111 (fun _ => rfl) (fun hf kn w => by exact s_slices_IndexFunc_111_txn_compares_1 w p0 (f0_0.ext kn) hx1) ?_
  refine gr rfl (r_bin (ot rfl) (oc rfl) rfl) ?_
  refine gA rfl rfl ?_
  refine go_nil ?_
  obtain rfl := someI hF
  exact g_ret (rst rfl rs0) (fun h1 hf hs => ⟨hs.hext, rfl⟩)
theorem s_txn_compares {h : Heap} (hw : Wf h) (p0 : (List TCmp)) {a0_0 : Option Addr} {c0_0 : Nat} (f0_0 : RL R_TCmp h a0_0 c0_0 p0) {r : Bool} (hF : F_txn_compares p0 = some r) :
    Ev EE 69 [.slice a0_0 p0.length c0_0] h (fun v _ => v = .bool r) := by
  unfold F_txn_compares at hF
  refine ev_of hw rfl at_69 rfl rfl (go_seg0 ?_)
  refine go_seq ?_
  refine go_region ?_
  refine gAc rfl rfl ?_
  refine go_nil ?_
  refine go_seq ?_
  refine go_region ?_
  refine gr rfl (r_assign of) ?_
  refine go_nil ?_
  refine go_seq ?_
  refine go_region ?_
  refine gM rfl rfl ?_
  refine gr rfl (r_len rfl (os1 (ot rfl) os0) (fun _ _ => ln_59)) ?_
  refine gr rfl (r_bin (ot rfl) (oc rfl) rfl) ?_
  refine gM rfl rfl ?_
  replace hF := obind hF
  obtain ⟨s2, hF, hK2⟩ := hF
  refine go_joinr 5 (β := Unit) (fun s h' => True) (fun s => [(2, true, .bool false), (12, true, .bool s2)]) (fun s => (List.flatten [] : List Blk)) ?_ (fun J2 => ?_)
  ·
    rintro _ h2 e2 w2 _
    replace hF := hK2
    refine gA rfl rfl ?_
    refine go_nil ?_
    obtain rfl := someI hF
    exact g_ret (rst rfl rs0) (fun h1 hf hs => ⟨(e2.trans hs.hext), rfl⟩)
  ·
    rcases Bool.eq_false_or_eq_true (decide ((p0.length : Int) ≤ 4)) with hb1 | hb1
    ·
      replace hF := ifT hb1 hF
      refine go_re 7 (v2 := .bool true) rfl (congrArg Value.bool hb1) ?_
      refine g_do rfl rfl rfl ?_
      refine gM rfl rfl ?_
      refine g_do rfl rfl rfl ?_
      refine gM rfl rfl ?_
      refine g_do rfl rfl rfl ?_
      replace hF := obind hF
      obtain ⟨x3, hx3, hF⟩ := hF
      refine g_callp (v := .bool x3) EE_fr rfl of (os1 (ot rfl) (os1 (ot rfl) os0)) hb_96 (fun _ => rfl) (fun hf kn w => by exact s_slices_ContainsFunc_96_txn_compares_1 w p0 (f0_0.ext kn) hx3) ?_
      refine g_do rfl rfl rfl ?_
      refine gr rfl (r_un (ot rfl) rfl) ?_
      refine gr rfl (r_pkT (ot rfl) (ot rfl)) ?_
      obtain rfl := someI hF
      exact Goes.weak (J2 () _ (HExt.refl _) hw trivial) (Sub.cons (Sub.cons (Sub.nil _) rfl) rfl)
    ·
      replace hF := ifF hb1 hF
      refine go_re 7 (v2 := .bool false) rfl (congrArg Value.bool hb1) ?_
      refine g_no rfl rfl rfl rfl rfl ?_
      refine g_no rfl rfl rfl rfl rfl ?_
      refine g_no rfl rfl rfl rfl rfl ?_
      refine g_no rfl rfl rfl rfl rfl ?_
      refine gr rfl (r_pkF (ot rfl) (oc rfl)) ?_
      obtain rfl := someI hF
      exact Goes.weak (J2 () _ (HExt.refl _) hw trivial) (Sub.cons (Sub.cons (Sub.nil _) rfl) rfl)
theorem s_txn_ops {h : Heap} (hw : Wf h) (p0 : (List TOp)) {a0_0 : Option Addr} {c0_0 : Nat} (f0_0 : RL R_TOp h a0_0 c0_0 p0) {r : Bool} (hF : F_txn_ops p0 = some r) :
    Ev EE 70 [.slice a0_0 p0.length c0_0] h (fun v _ => v = .bool r) := by
  unfold F_txn_ops at hF
  refine ev_of hw rfl at_70 rfl rfl (go_seg0 ?_)
  refine go_seq ?_
  refine go_region ?_
  refine gAc rfl rfl ?_
  refine go_nil ?_
  refine go_seq ?_
  refine go_region ?_
  refine gs_mkmap (ke := kS) (ve := vB) rfl ?_; intro b6_1
  refine gA rfl rfl ?_
  refine go_nil ?_
  refine go_seq ?_
  refine go_seq ?_
  refine go_region ?_
  refine gM rfl rfl ?_
  refine gr rfl (r_len rfl (os1 (ot rfl) os0) (fun _ _ => ln_39)) ?_
  refine gMc rfl rfl ?_
  refine go_nil ?_
  replace hF := obind hF
  obtain ⟨s2, hF, hK2⟩ := hF
  refine go_joinc (β := ((List (ByteArray × Bool)))) (fun s h' => s2 = .go s) (fun s => [(0, true, .slice a0_0 p0.length c0_0), (2, true, .bool false)]) (fun s => (List.flatten [[⟨b6_1, .map (encM kS vB s)⟩]] : List Blk)) ?_ (fun J2 => ?_)
  ·
    rintro x2_0 h2 e2 w2 hs2
    subst hs2
    replace hF := lpgo hK2
    refine go_seq ?_
    refine go_region ?_
    refine gM rfl rfl ?_
    refine gr rfl (r_len rfl (os1 (ot rfl) os0) (fun _ _ => ln_39)) ?_
    refine gr rfl (r_bin (ot rfl) (oc rfl) rfl) ?_
    refine gA rfl rfl ?_
    refine go_nil ?_
    obtain rfl := someI hF
    exact g_ret (rst rfl rs0) (fun h1 hf hs => ⟨(e2.trans hs.hext), rfl⟩)
  ·
    refine go_block ?_
    refine go_loop (α := (List TOp) × Nat × (List (ByteArray × Bool)) × Heap) (fun a => a.1 = List.drop a.2.1 p0 ∧ HExt h a.2.2.2 ∧ Wf a.2.2.2 ∧ F_txn_ops_L1 a.1 a.2.1 a.2.2.1 = some s2) (fun a => a.1.length) (fun a => [(0, true, .slice a0_0 p0.length c0_0), (2, true, .bool false), (3, true, .map (some b6_1)), (7, true, .slice a0_0 p0.length c0_0), (8, true, .int .i64 (p0.length : Int)), (9, true, .int .i64 (a.2.1 : Int))]) (fun a => (List.flatten [[⟨b6_1, .map (encM kS vB a.2.2.1)⟩]] : List Blk)) (fun a => a.2.2.2) ?_ (p0, 0, ([] : (List (ByteArray × Bool))), h) ⟨rfl, HExt.refl _, hw, hF⟩ (Sub.cons (Sub.cons (Sub.cons (Sub.cons (Sub.cons (Sub.cons (Sub.nil _) rfl) rfl) rfl) rfl) rfl) rfl) rfl rfl
    rintro ⟨r3, i3, y3_0, h3⟩ ⟨hr3, e3, w3, hF⟩ ih3
    rcases r3 with _ | ⟨z3, r3⟩
    ·
      have hi3 := drop_nil hr3
      rw [F_txn_ops_L1.eq_1] at hF
      refine go_seq ?_
      refine go_region ?_
      refine gr rfl (r_bin (ot rfl) (ot rfl) rfl) ?_
      refine go_cast (.bool false) (congrArg Value.bool (decide_eq_false hi3)) ?_
      refine go_nil ?_
      refine go_seq ?_
      refine g_cond (b := false) (ot rfl) (fun hc4 => ?_) (fun hc4 => ?_)
      · cases hc4
      refine go_exit rfl ?_
      obtain rfl := someI hF
      exact Goes.weak (J2 y3_0 _ e3 w3 rfl) (Sub.cons (Sub.cons (Sub.nil _) rfl) rfl)
    ·
      obtain ⟨hi3, hx3, hr3⟩ := drop_cons hr3
      have hb3 := (f0_0.ext e3.kn).1
      rw [F_txn_ops_L1.eq_2] at hF
      refine go_seq ?_
      refine go_region ?_
      refine gr rfl (r_bin (ot rfl) (ot rfl) rfl) ?_
      refine go_cast (.bool true) (congrArg Value.bool (decide_eq_true (Int.ofNat_lt.mpr hi3))) ?_
      refine go_nil ?_
      refine go_seq ?_
      refine g_cond (b := true) (ot rfl) (fun hc5 => ?_) (fun hc5 => ?_)
      rotate_left
      · cases hc5
      refine go_skip ?_
      refine go_seq ?_
      refine go_block ?_
      refine go_seq ?_
      refine go_region ?_
      obtain ⟨q6, row6, i6, cl6, rc6, sp6⟩ := ix (ik := .i64) (cap := c0_0) (E := EE) (f0_0.ext e3.kn) ((getI_nat _ _).trans hx3) ut_39 sz_45 rfl
      obtain rfl := rc6
      refine gr rfl (r_ia (ot rfl) (ot rfl) i6) ?_
      refine gr rfl (r_load (ot rfl) (v := .agg #[.string z3.Key, .string z3.Val, .bool z3.Del]) (lo_e (fun hf kn => ld_of (r := [.string z3.Key, .string z3.Val, .bool z3.Del]) ag_45 sz_45 (kn.cellsAt cl6)))) ?_
      refine gs_alloc rfl zo_45 rfl ?_; intro b5_7
      refine gs_store (ot rfl) (ot rfl) sz_45 rfl rfl rfl rfl rfl .z ?_
      refine go_nil ?_
      refine go_seq ?_
      refine go_seq ?_
      refine go_region ?_
      refine gr rfl (r_fa (ot rfl) (fa_45_0 _ _)) ?_
      refine gr rfl (r_load (ot rfl) (lm_s (mem_seg 0 rfl) ag_9 rfl)) ?_
      replace hF := obind hF
      obtain ⟨x8, hx8, hF⟩ := hF
      refine g_callp (v := .bool x8) EE_fr rfl of (os1 (ot rfl) os0) hb_95 (fun _ => rfl) (fun hf kn w => by exact s_key_May w z3.Key  hx8) ?_
      refine gr rfl (r_un (ot rfl) rfl) ?_
      refine gM rfl rfl ?_
      refine grf rfl rfl rfl rfl (r_fa (ot rfl) (fa_45_1 _ _)) ?_
      refine grf rfl rfl rfl rfl (r_load (og rfl id) (lm_s (mem_seg 0 rfl) ag_9 rfl)) ?_
      refine grf rfl rfl rfl rfl (r_len rfl (os1 (og rfl id) os0) (fun _ _ => ln_9)) ?_
      refine grf rfl rfl rfl rfl (r_bin (og rfl id) (oc rfl) rfl) ?_
      refine gr rfl (r_pickb (ot rfl) (oc rfl) (og rfl id)) ?_
      refine gM rfl rfl ?_
      refine grf rfl rfl rfl rfl (r_fa (ot rfl) (fa_45_2 _ _)) ?_
      refine grf rfl rfl rfl rfl (r_load (og rfl id) (lm_s (mem_seg 0 rfl) ag_4 rfl)) ?_
      refine grf rfl rfl rfl rfl (r_move (og rfl id)) ?_
      refine grt' rfl rfl rfl rfl (r_fa (ot rfl) (fa_45_1 _ _)) ?_
      refine grt' rfl rfl rfl rfl (r_load (og rfl id) (lm_s (mem_seg 0 rfl) ag_9 rfl)) ?_
      refine grt' rfl rfl rfl rfl (r_bin (og rfl id) (oc rfl) rfl) ?_
      refine grf rfl rfl rfl rfl (r_pickb (og rfl id) (og rfl id) (oc rfl)) ?_
      refine gr rfl (r_pickb (ot rfl) (oc rfl) (og rfl id)) ?_
      refine gM rfl rfl ?_
      replace hF := obind hF
      obtain ⟨s10, hF, hK10⟩ := hF
      refine go_joinr 5 (β := Unit) (fun s h' => True) (fun s => [(0, true, .slice a0_0 p0.length c0_0), (2, true, .bool false), (3, true, .map (some b6_1)), (5, true, .pointer (some ⟨b5_7, 0, none⟩)), (7, true, .slice a0_0 p0.length c0_0), (8, true, .int .i64 (p0.length : Int)), (9, true, .int .i64 (i3 : Int)), (10, true, .bool true), (11, true, .pointer (some q6)), (12, true, .agg #[.string z3.Key, .string z3.Val, .bool z3.Del]), (13, true, .pointer (some ⟨b5_7, 0, none⟩)), (14, true, .string z3.Key), (15, true, .bool x8), (16, true, .bool (!x8)), (17, true, .bool (!x8)), (22, true, .bool (bif (!x8) then true else (decide ((z3.Val.size : Int) > 8)))), (23, true, .bool (bif (!x8) then true else (decide ((z3.Val.size : Int) > 8)))), (31, true, .bool (bif (bif (!x8) then true else (decide ((z3.Val.size : Int) > 8))) then true else (bif z3.Del then (!eqB z3.Val ByteArray.empty) else false))), (32, true, .bool s10.1), (37, true, .bool s10.2)]) (fun s => (List.flatten [[⟨b5_7, .cells [.string z3.Key, .string z3.Val, .bool z3.Del] 45⟩], [⟨b6_1, .map (encM kS vB y3_0)⟩]] : List Blk)) ?_ (fun J10 => ?_)
      ·
        rintro _ h10 e10 w10 _
        replace hF := hK10
        refine go_nil ?_
        refine g_cond (b := s10.2) (ot rfl) (fun hc11 => ?_) (fun hc11 => ?_)
        ·
          replace hF := ifT hc11 hF
          refine go_seq ?_
          refine go_region ?_
          refine gAc rfl rfl ?_
          refine go_nil ?_
          obtain rfl := someI hF
          obtain rfl := someI hK2
          exact g_ret (rst rfl rs0) (fun h1 hf hs => ⟨(e3.trans (e10.trans hs.hext)), rfl⟩)
        ·
          replace hF := ifF hc11 hF
          refine go_skip ?_
          refine go_region ?_
          refine gM rfl rfl ?_
          refine gr rfl (r_fa (ot rfl) (fa_45_0 _ _)) ?_
          refine gr rfl (r_load (ot rfl) (lm_s (mem_seg 0 rfl) ag_9 rfl)) ?_
          refine gs_mset (ke := kS) (ve := vB) (es := y3_0) (kv := z3.Key) (v := true) (ot rfl) (ot rfl) (oc rfl) um_156 rfl sc_9 sameS (.s (.z)) ?_
          refine go_nil ?_
          refine go_endb ?_
          refine go_region ?_
          refine gr rfl (r_bin (ot rfl) (oc rfl) rfl) ?_
          refine gM rfl rfl ?_
          refine go_nil ?_
          refine gs_sub (.cons _ (.cons_cons _ (.refl _))) ?_
          refine go_re 9 (v2 := .int .i64 ((i3 + 1 : Nat) : Int)) rfl (wrap_succ hi3 hb3) ?_
          exact Goes.weak (ih3 (r3, i3 + 1, (mset y3_0 z3.Key true), h10) ⟨hr3, (e3.trans e10), w10, hF⟩ (Nat.lt_succ_self _)) (Sub.cons (Sub.cons (Sub.cons (Sub.cons (Sub.cons (Sub.cons (Sub.nil _) rfl) rfl) rfl) rfl) rfl) rfl)
      ·
        rcases Bool.eq_false_or_eq_true (bif (bif (!x8) then true else (decide ((z3.Val.size : Int) > 8))) then true else (bif z3.Del then (!eqB z3.Val ByteArray.empty) else false)) with hb9 | hb9
        ·
          replace hF := ifT hb9 hF
          refine go_re 32 (v2 := .bool true) rfl (congrArg Value.bool hb9) ?_
          refine g_no rfl rfl rfl rfl rfl ?_
          refine g_no rfl rfl rfl rfl rfl ?_
          refine g_no rfl rfl rfl rfl rfl ?_
          refine g_no rfl rfl rfl rfl rfl ?_
          refine gr rfl (r_pkT (ot rfl) (oc rfl)) ?_
          obtain rfl := someI hF
          exact Goes.weak (J10 () _ (HExt.refl _) w3 trivial) (Sub.cons (Sub.cons (Sub.cons (Sub.cons (Sub.cons (Sub.cons (Sub.cons (Sub.cons (Sub.cons (Sub.cons (Sub.cons (Sub.cons (Sub.cons (Sub.cons (Sub.cons (Sub.cons (Sub.cons (Sub.cons (Sub.cons (Sub.cons (Sub.nil _) rfl) rfl) rfl) rfl) rfl) rfl) rfl) rfl) rfl) rfl) rfl) rfl) rfl) rfl) rfl) rfl) rfl) rfl) rfl) rfl)
        ·
          replace hF := ifF hb9 hF
          refine go_re 32 (v2 := .bool false) rfl (congrArg Value.bool hb9) ?_
          refine g_do rfl rfl rfl ?_
          refine gM rfl rfl ?_
          refine g_do rfl rfl rfl ?_
          refine gr rfl (r_fa (ot rfl) (fa_45_0 _ _)) ?_
          refine g_do rfl rfl rfl ?_
          refine gr rfl (r_load (ot rfl) (lm_s (mem_seg 0 rfl) ag_9 rfl)) ?_
          refine g_do rfl rfl rfl ?_
          refine gr rfl (r_lookm (ke := kS) (ve := vB) (es := y3_0) (kv := z3.Key) (z := false) (ok := false) (ot rfl) (ot rfl) (mem_seg 1 rfl) um_156 rfl sc_9 sameS rfl) ?_
          refine go_cast (.bool ((mget y3_0 z3.Key).getD false)) rfl ?_
          refine gr rfl (r_pkF (ot rfl) (ot rfl)) ?_
          obtain rfl := someI hF
          exact Goes.weak (J10 () _ (HExt.refl _) w3 trivial) (Sub.cons (Sub.cons (Sub.cons (Sub.cons (Sub.cons (Sub.cons (Sub.cons (Sub.cons (Sub.cons (Sub.cons (Sub.cons (Sub.cons (Sub.cons (Sub.cons (Sub.cons (Sub.cons (Sub.cons (Sub.cons (Sub.cons (Sub.cons (Sub.nil _) rfl) rfl) rfl) rfl) rfl) rfl) rfl) rfl) rfl) rfl) rfl) rfl) rfl) rfl) rfl) rfl) rfl) rfl) rfl) rfl)
theorem s_txn_May {h : Heap} (hw : Wf h) (p0 : TReq) {a0_4 : Option Addr} {c0_4 : Nat} {a0_5 : Option Addr} {c0_5 : Nat} {a0_6 : Option Addr} {c0_6 : Nat} (f0_4 : RL R_TCmp h a0_4 c0_4 p0.Cmps) (f0_5 : RL R_TOp h a0_5 c0_5 p0.Then) (f0_6 : RL R_TOp h a0_6 c0_6 p0.Else) {r : Int} (hF : F_txn_May p0 = some r) :
    Ev EE 28 [.agg #[.int .i64 p0.Kind, .string p0.R.From, .string p0.R.To, .int .i64 p0.Rev, .slice a0_4 p0.Cmps.length c0_4, .slice a0_5 p0.Then.length c0_5, .slice a0_6 p0.Else.length c0_6]] h (fun v _ => v = .int .i64 r) := by
  unfold F_txn_May at hF
  refine ev_of hw rfl at_28 rfl rfl (go_seg0 ?_)
  refine go_seq ?_
  refine go_region ?_
  refine gs_box rfl (ot rfl) rfl ?_; intro b1_1
  refine gAc rfl rfl ?_
  refine go_nil ?_
  refine go_seq ?_
  refine go_region ?_
  refine gAc rfl rfl ?_
  refine go_nil ?_
  refine go_seq ?_
  refine go_seq ?_
  refine go_region ?_
  refine gr rfl (r_fa (ot rfl) (fa_61_0 _ _)) ?_
  refine gr rfl (r_load (ot rfl) (lm_s (mem_seg 0 rfl) ag_3 rfl)) ?_
  refine go_nil ?_
  refine go_block ?_
  refine go_seq ?_
  refine go_region ?_
  refine gr rfl (r_bin (ot rfl) (oc rfl) rfl) ?_
  refine gA rfl rfl ?_
  refine go_nil ?_
  replace hF := obind hF
  obtain ⟨s3, hF, hK3⟩ := hF
  refine go_joinc (β := Unit) (fun s h' => True) (fun s => [(2, true, .int .i64 0), (3, true, .bool s3)]) (fun s => (List.flatten [[⟨b1_1, .cells [.int .i64 p0.Kind, .string p0.R.From, .string p0.R.To, .int .i64 p0.Rev, .slice a0_4 p0.Cmps.length c0_4, .slice a0_5 p0.Then.length c0_5, .slice a0_6 p0.Else.length c0_6] 61⟩]] : List Blk)) ?_ (fun J3 => ?_)
  ·
    rintro _ h3 e3 w3 _
    replace hF := hK3
    refine go_endb ?_
    refine go_seq ?_
    refine go_seq ?_
    refine go_region ?_
    refine gM rfl rfl ?_
    refine gr rfl (r_un (ot rfl) rfl) ?_
    refine go_nil ?_
    refine g_cond (b := (!s3)) (ot rfl) (fun hc4 => ?_) (fun hc4 => ?_)
    ·
      replace hF := ifT hc4 hF
      refine go_seq ?_
      refine go_region ?_
      refine gAc rfl rfl ?_
      refine go_nil ?_
      obtain rfl := someI hF
      exact g_ret (rst rfl rs0) (fun h1 hf hs => ⟨(e3.trans hs.hext), rfl⟩)
    ·
      replace hF := ifF hc4 hF
      refine go_skip ?_
      refine go_seq ?_
      refine go_region ?_
      refine gAc rfl rfl ?_
      refine go_nil ?_
      obtain rfl := someI hF
      exact g_ret (rst rfl rs0) (fun h1 hf hs => ⟨(e3.trans hs.hext), rfl⟩)
  ·
    refine g_cond (b := (p0.Kind == 1)) (ot rfl) (fun hc2 => ?_) (fun hc2 => ?_)
    ·
      replace hF := ifT hc2 hF
      refine go_region ?_
      refine gr rfl (r_fa (ot rfl) (fa_61_3 _ _)) ?_
      refine gr rfl (r_load (ot rfl) (lm_s (mem_seg 0 rfl) ag_59 rfl)) ?_
      replace hF := obind hF
      obtain ⟨x5, hx5, hF⟩ := hF
      refine g_callp (v := .bool x5) EE_fr rfl of (os1 (ot rfl) os0) hb_69 (fun _ => rfl) (fun hf kn w => by exact s_txn_compares w p0.Cmps (f0_4.ext kn) hx5) ?_
      refine gM rfl rfl ?_
      replace hF := obind hF
      obtain ⟨s7, hF, hK7⟩ := hF
      refine go_joinr 4 (β := Unit) (fun s h' => True) (fun s => [(1, true, .pointer (some ⟨b1_1, 0, none⟩)), (2, true, .int .i64 0), (3, true, .bool false), (15, true, .bool s7)]) (fun s => (List.flatten [[⟨b1_1, .cells [.int .i64 p0.Kind, .string p0.R.From, .string p0.R.To, .int .i64 p0.Rev, .slice a0_4 p0.Cmps.length c0_4, .slice a0_5 p0.Then.length c0_5, .slice a0_6 p0.Else.length c0_6] 61⟩]] : List Blk)) ?_ (fun J7 => ?_)
      ·
        rintro _ h7 e7 w7 _
        replace hF := hK7
        refine gM rfl rfl ?_
        replace hF := obind hF
        obtain ⟨s9, hF, hK9⟩ := hF
        refine go_joinr 4 (β := Unit) (fun s h' => True) (fun s => [(2, true, .int .i64 0), (3, true, .bool false), (20, true, .bool s9)]) (fun s => (List.flatten [[⟨b1_1, .cells [.int .i64 p0.Kind, .string p0.R.From, .string p0.R.To, .int .i64 p0.Rev, .slice a0_4 p0.Cmps.length c0_4, .slice a0_5 p0.Then.length c0_5, .slice a0_6 p0.Else.length c0_6] 61⟩]] : List Blk)) ?_ (fun J9 => ?_)
        ·
          rintro _ h9 e9 w9 _
          replace hF := hK9
          refine gA rfl rfl ?_
          refine go_nil ?_
          obtain rfl := someI hF
          exact Goes.weak (J3 () _ (e7.trans e9) w9 trivial) (Sub.cons (Sub.cons (Sub.nil _) rfl) rfl)
        ·
          rcases Bool.eq_false_or_eq_true s7 with hb8 | hb8
          ·
            replace hF := ifT hb8 hF
            refine go_re 16 (v2 := .bool true) rfl (congrArg Value.bool hb8) ?_
            refine g_do rfl rfl rfl ?_
            refine gr rfl (r_fa (ot rfl) (fa_61_5 _ _)) ?_
            refine g_do rfl rfl rfl ?_
            refine gr rfl (r_load (ot rfl) (lm_s (mem_seg 0 rfl) ag_39 rfl)) ?_
            refine g_do rfl rfl rfl ?_
            replace hF := obind hF
            obtain ⟨x10, hx10, hF⟩ := hF
            refine g_callp (v := .bool x10) EE_fr rfl of (os1 (ot rfl) os0) hb_70 (fun _ => rfl) (fun hf kn w => by exact s_txn_ops w p0.Else ((f0_6.ext e7.kn).ext kn) hx10) ?_
            refine gr rfl (r_pkT (ot rfl) (ot rfl)) ?_
            obtain rfl := someI hF
            exact Goes.weak (J9 () _ (HExt.refl _) w7 trivial) (Sub.cons (Sub.cons (Sub.cons (Sub.nil _) rfl) rfl) rfl)
          ·
            replace hF := ifF hb8 hF
            refine go_re 16 (v2 := .bool false) rfl (congrArg Value.bool hb8) ?_
            refine g_no rfl rfl rfl rfl rfl ?_
            refine g_no rfl rfl rfl rfl rfl ?_
            refine g_no rfl rfl rfl rfl rfl ?_
            refine gr rfl (r_pkF (ot rfl) (oc rfl)) ?_
            obtain rfl := someI hF
            exact Goes.weak (J9 () _ (HExt.refl _) w7 trivial) (Sub.cons (Sub.cons (Sub.cons (Sub.nil _) rfl) rfl) rfl)
      ·
        rcases Bool.eq_false_or_eq_true x5 with hb6 | hb6
        ·
          replace hF := ifT hb6 hF
          refine go_re 11 (v2 := .bool true) rfl (congrArg Value.bool hb6) ?_
          refine g_do rfl rfl rfl ?_
          refine gr rfl (r_fa (ot rfl) (fa_61_4 _ _)) ?_
          refine g_do rfl rfl rfl ?_
          refine gr rfl (r_load (ot rfl) (lm_s (mem_seg 0 rfl) ag_39 rfl)) ?_
          refine g_do rfl rfl rfl ?_
          replace hF := obind hF
          obtain ⟨x11, hx11, hF⟩ := hF
          refine g_callp (v := .bool x11) EE_fr rfl of (os1 (ot rfl) os0) hb_70 (fun _ => rfl) (fun hf kn w => by exact s_txn_ops w p0.Then (f0_5.ext kn) hx11) ?_
          refine gr rfl (r_pkT (ot rfl) (ot rfl)) ?_
          obtain rfl := someI hF
          exact Goes.weak (J7 () _ (HExt.refl _) hw trivial) (Sub.cons (Sub.cons (Sub.cons (Sub.cons (Sub.nil _) rfl) rfl) rfl) rfl)
        ·
          replace hF := ifF hb6 hF
          refine go_re 11 (v2 := .bool false) rfl (congrArg Value.bool hb6) ?_
          refine g_no rfl rfl rfl rfl rfl ?_
          refine g_no rfl rfl rfl rfl rfl ?_
          refine g_no rfl rfl rfl rfl rfl ?_
          refine gr rfl (r_pkF (ot rfl) (oc rfl)) ?_
          obtain rfl := someI hF
          exact Goes.weak (J7 () _ (HExt.refl _) hw trivial) (Sub.cons (Sub.cons (Sub.cons (Sub.cons (Sub.nil _) rfl) rfl) rfl) rfl)
    ·
      replace hF := ifF hc2 hF
      refine go_seq ?_
      refine go_region ?_
      refine gr rfl (r_bin (ot rfl) (oc rfl) rfl) ?_
      refine gA rfl rfl ?_
      refine go_nil ?_
      replace hF := obind hF
      obtain ⟨s13, hF, hK13⟩ := hF
      refine go_joinc (β := Unit) (fun s h' => True) (fun s => [(2, true, .int .i64 0), (3, true, .bool s13)]) (fun s => (List.flatten [[⟨b1_1, .cells [.int .i64 p0.Kind, .string p0.R.From, .string p0.R.To, .int .i64 p0.Rev, .slice a0_4 p0.Cmps.length c0_4, .slice a0_5 p0.Then.length c0_5, .slice a0_6 p0.Else.length c0_6] 61⟩]] : List Blk)) ?_ (fun J13 => ?_)
      ·
        rintro _ h13 e13 w13 _
        replace hF := hK13
        obtain rfl := someI hF
        exact Goes.weak (J3 () _ e13 w13 trivial) (Sub.cons (Sub.cons (Sub.nil _) rfl) rfl)
      ·
        refine g_cond (b := (p0.Kind == 2)) (ot rfl) (fun hc12 => ?_) (fun hc12 => ?_)
        ·
          replace hF := ifT hc12 hF
          refine go_region ?_
          refine gr rfl (r_fa (ot rfl) (fa_61_1 _ _)) ?_
          refine gr rfl (r_load (ot rfl) (lm_a (vs := [_, _]) (mem_seg 0 rfl) ag_33 sz_33 rfl rfl)) ?_
          replace hF := obind hF
          obtain ⟨x14, hx14, hF⟩ := hF
          refine g_callp (v := .bool x14) EE_fr rfl of (os1 (ot rfl) os0) hb_71 (fun _ => rfl) (fun hf kn w => by exact s_key_MayRange w p0.R  hx14) ?_
          refine gM rfl rfl ?_
          refine grt rfl rfl rfl rfl (r_fa (ot rfl) (fa_61_2 _ _)) ?_
          refine grt rfl rfl rfl rfl (r_load (og rfl id) (lm_s (mem_seg 0 rfl) ag_3 rfl)) ?_
          refine grt rfl rfl rfl rfl (r_bin (og rfl id) (oc rfl) rfl) ?_
          refine gr rfl (r_pickb (ot rfl) (og rfl id) (oc rfl)) ?_
          refine gA rfl rfl ?_
          refine go_nil ?_
          obtain rfl := someI hF
          exact Goes.weak (J13 () _ (HExt.refl _) hw trivial) (Sub.cons (Sub.cons (Sub.nil _) rfl) rfl)
        ·
          replace hF := ifF hc12 hF
          refine go_seq ?_
          refine go_region ?_
          refine gr rfl (r_bin (ot rfl) (oc rfl) rfl) ?_
          refine gA rfl rfl ?_
          refine go_nil ?_
          replace hF := obind hF
          obtain ⟨s16, hF, hK16⟩ := hF
          refine go_joinc (β := Unit) (fun s h' => True) (fun s => [(2, true, .int .i64 0), (3, true, .bool s16)]) (fun s => (List.flatten [[⟨b1_1, .cells [.int .i64 p0.Kind, .string p0.R.From, .string p0.R.To, .int .i64 p0.Rev, .slice a0_4 p0.Cmps.length c0_4, .slice a0_5 p0.Then.length c0_5, .slice a0_6 p0.Else.length c0_6] 61⟩]] : List Blk)) ?_ (fun J16 => ?_)
          ·
            rintro _ h16 e16 w16 _
            replace hF := hK16
            obtain rfl := someI hF
            exact Goes.weak (J13 () _ e16 w16 trivial) (Sub.cons (Sub.cons (Sub.nil _) rfl) rfl)
          ·
            refine g_cond (b := (p0.Kind == 3)) (ot rfl) (fun hc15 => ?_) (fun hc15 => ?_)
            ·
              replace hF := ifT hc15 hF
              refine go_region ?_
              refine gr rfl (r_fa (ot rfl) (fa_61_2 _ _)) ?_
              refine gr rfl (r_load (ot rfl) (lm_s (mem_seg 0 rfl) ag_3 rfl)) ?_
              refine gr rfl (r_bin (ot rfl) (oc rfl) rfl) ?_
              refine gA rfl rfl ?_
              refine go_nil ?_
              obtain rfl := someI hF
              exact Goes.weak (J16 () _ (HExt.refl _) hw trivial) (Sub.cons (Sub.cons (Sub.nil _) rfl) rfl)
            ·
              replace hF := ifF hc15 hF
              refine go_skip ?_
              obtain rfl := someI hF
              exact Goes.weak (J16 () _ (HExt.refl _) hw trivial) (Sub.cons (Sub.cons (Sub.nil _) rfl) rfl)
theorem s_txn_Put {h : Heap} (hw : Wf h) (p0 : ByteArray) (p1 : ByteArray)   {r : TReq} (hF : F_txn_Put p0 p1 = some r) :
    Ev EE 38 [.string p0, .string p1] h (fun v h1 => ∃ a0 c0 a1 c1 a2 c2, v = .agg #[.int .i64 r.Kind, .string r.R.From, .string r.R.To, .int .i64 r.Rev, .slice a0 r.Cmps.length c0, .slice a1 r.Then.length c1, .slice a2 r.Else.length c2] ∧ RL R_TCmp h1 a0 c0 r.Cmps ∧ RL R_TOp h1 a1 c1 r.Then ∧ RL R_TOp h1 a2 c2 r.Else) := by
  unfold F_txn_Put at hF
  refine ev_of hw rfl at_38 rfl rfl (go_seg0 ?_)
  refine go_seq ?_
  refine go_region ?_
  refine gs_alloc rfl zo_61 rfl ?_; intro b4_1
  refine go_nil ?_
  refine go_seq ?_
  refine go_region ?_
  refine gM rfl rfl ?_
  refine gM rfl rfl ?_
  refine gr rfl (r_build (op1 (ot rfl) (op1 (ot rfl) op0)) rfl) ?_
  refine gs_bslice (cs := [.string p0, .string p1, .bool false]) rfl (op1 (ot rfl) op0) ut_39 sz_45 zo_45 rfl rfl ?_; intro b8_2
  refine gr rfl (r_build (op1 (oc rfl) (op1 (ot rfl) op0)) rfl) ?_
  refine gs_store (ot rfl) (ot rfl) sz_61 rfl rfl rfl rfl rfl (.s (.z)) ?_
  refine go_nil ?_
  refine gs_pub .z (fun h3 e3 w3 hb3 => ?_)
  have f3_ : RL R_TOp h3 (some ⟨b8_2, 0, none⟩) 1 ([(⟨p0, p1, false⟩ : TOp)] : List TOp) := RL.of_blk (R := R_TOp) (rows := [[.string p0, .string p1, .bool false]]) (.inl rfl) hb3 rfl (Rws.cons (x := (⟨p0, p1, false⟩ : TOp)) rfl Rws.nil) (by simp) (by simp) rfl
  obtain rfl := someI hF
  exact g_ret (rsc rfl (lm_w (mem_seg 0 rfl) ag_61 sz_61 rfl) rs0) (fun h1 hf hs => ⟨(e3.trans hs.hext), ⟨_, _, _, _, _, _, rfl, (RL.nil _ _ _), (f3_.ext hs.hext.kn), (RL.nil _ _ _)⟩⟩)
theorem s_txn_Swap {h : Heap} (hw : Wf h) (p0 : ByteArray) (p1 : ByteArray) (p2 : ByteArray)   {r : TReq} (hF : F_txn_Swap p0 p1 p2 = some r) :
    Ev EE 39 [.string p0, .string p1, .string p2] h (fun v h1 => ∃ a0 c0 a1 c1 a2 c2, v = .agg #[.int .i64 r.Kind, .string r.R.From, .string r.R.To, .int .i64 r.Rev, .slice a0 r.Cmps.length c0, .slice a1 r.Then.length c1, .slice a2 r.Else.length c2] ∧ RL R_TCmp h1 a0 c0 r.Cmps ∧ RL R_TOp h1 a1 c1 r.Then ∧ RL R_TOp h1 a2 c2 r.Else) := by
  unfold F_txn_Swap at hF
  refine ev_of hw rfl at_39 rfl rfl (go_seg0 ?_)
  refine go_seq ?_
  refine go_region ?_
  refine gs_alloc rfl zo_61 rfl ?_; intro b6_1
  refine go_nil ?_
  refine go_seq ?_
  refine go_region ?_
  refine gM rfl rfl ?_
  refine gM rfl rfl ?_
  replace hF := obind hF
  obtain ⟨x2, hx2, hF⟩ := hF
  refine g_call EE_fr (fun _ h => by cases h; rfl) of (os1 (ot rfl) (os1 (ot rfl) os0)) hb_38 (fun hf kn w => by exact s_txn_Put w p0 p2  hx2) ?_
  rintro v2 h2 e2 w2 ⟨a2_0, c2_0, a2_1, c2_1, a2_2, c2_2, rfl, f2_0, f2_1, f2_2⟩
  refine gs_alloc rfl zo_61 rfl ?_; intro b7_3
  refine gs_store (ot rfl) (ot rfl) sz_61 rfl rfl rfl rfl rfl .z ?_
  refine go_nil ?_
  refine go_seq ?_
  refine go_region ?_
  refine gM rfl rfl ?_
  refine gM rfl rfl ?_
  refine gr rfl (r_build (op1 (oc rfl) (op1 (ot rfl) (op1 (ot rfl) op0))) rfl) ?_
  refine gs_bslice (cs := [.int .i64 1, .string p0, .string p1, .int .i64 0]) rfl (op1 (ot rfl) op0) ut_59 sz_133 zo_133 rfl rfl ?_; intro b14_4
  refine gr rfl (r_fa (ot rfl) (fa_61_3 _ _)) ?_
  refine gs_store (ot rfl) (ot rfl) sz_59 rfl rfl rfl rfl rfl (.s (.z)) ?_
  refine go_nil ?_
  refine go_seq ?_
  refine go_region ?_
  refine gr rfl (r_load (ot rfl) (lm_w (mem_seg 1 rfl) ag_61 sz_61 rfl)) ?_
  refine gs_store (ot rfl) (ot rfl) sz_61 rfl rfl rfl rfl rfl (.s (.s (.z))) ?_
  refine go_nil ?_
  refine gs_pub .z (fun h5 e5 w5 hb5 => ?_)
  have f5_ : RL R_TCmp h5 (some ⟨b14_4, 0, none⟩) 1 ([(⟨1, p0, p1, 0⟩ : TCmp)] : List TCmp) := RL.of_blk (R := R_TCmp) (rows := [[.int .i64 1, .string p0, .string p1, .int .i64 0]]) (.inl rfl) hb5 rfl (Rws.cons (x := (⟨1, p0, p1, 0⟩ : TCmp)) rfl Rws.nil) (by simp) (by simp) rfl
  obtain rfl := someI hF
  exact g_ret (rsc rfl (lm_w (mem_seg 1 rfl) ag_61 sz_61 rfl) rs0) (fun h1 hf hs => ⟨(e2.trans (e5.trans hs.hext)), ⟨_, _, _, _, _, _, rfl, (f5_.ext hs.hext.kn), ((f2_1.ext e5.kn).ext hs.hext.kn), ((f2_2.ext e5.kn).ext hs.hext.kn)⟩⟩)
end Go.Proofs.Ytpfdandpmpmbiaa.V
