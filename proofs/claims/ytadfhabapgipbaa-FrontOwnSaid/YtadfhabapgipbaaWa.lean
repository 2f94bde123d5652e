/- Walks.
   No condition: these are laws of the clean machine and of this program. -/
import Derived.Test.YtadfhabapgipbaaPT
namespace Go.Proofs.Ytadfhabapgipbaa.V
open Go
set_option linter.unusedVariables false
set_option linter.unusedSimpArgs false
set_option maxRecDepth 100000
theorem s_cmp_isNaN {h : Heap} (hw : Wf h) (p0 : ByteArray)   {r : Bool} (hF : F_cmp_isNaN p0 = some r) :
    Ev EE 80 [.string p0] h (fun v _ => v = .bool r) := by
  unfold F_cmp_isNaN at hF
  refine ev_of hw rfl at_80 rfl rfl (go_seg0 ?_)
  refine go_seq ?_
  refine go_region ?_
  refine gAc rfl rfl ?_
  refine go_nil ?_
  refine go_seq ?_
  refine go_region ?_
  refine gM rfl rfl ?_
  refine gM rfl rfl ?_
  refine gr rfl (r_bin (ot rfl) (ot rfl) rfl) ?_
  refine gA rfl rfl ?_
  refine go_nil ?_
  obtain rfl := someI hF
  exact g_ret (rst rfl rs0) (fun h1 hf hs => ⟨hs.hext, rfl⟩)
theorem s_cmp_Compare {h : Heap} (hw : Wf h) (p0 : ByteArray) (p1 : ByteArray)   {r : Int} (hF : F_cmp_Compare p0 p1 = some r) :
    Ev EE 64 [.string p0, .string p1] h (fun v _ => v = .int .i64 r) := by
  unfold F_cmp_Compare at hF
  refine ev_of hw rfl at_64 rfl rfl (go_seg0 ?_)
  refine go_seq ?_
  refine go_region ?_
  refine gAc rfl rfl ?_
  refine go_nil ?_
  refine go_seq ?_
  refine go_region ?_
  refine gM rfl rfl ?_
  replace hF := obind hF
  obtain ⟨x1, hx1, hF⟩ := hF
  refine g_callp (v := .bool x1) EE_fr rfl of (os1 (ot rfl) os0) hb_80 (fun _ => rfl) (fun hf kn w => by exact s_cmp_isNaN w p0  hx1) ?_
  refine gA rfl rfl ?_
  refine go_nil ?_
  refine go_seq ?_
  refine go_region ?_
  refine gM rfl rfl ?_
  replace hF := obind hF
  obtain ⟨x2, hx2, hF⟩ := hF
  refine g_callp (v := .bool x2) EE_fr rfl of (os1 (ot rfl) os0) hb_80 (fun _ => rfl) (fun hf kn w => by exact s_cmp_isNaN w p1  hx2) ?_
  refine gA rfl rfl ?_
  refine go_nil ?_
  refine go_seq ?_
  refine go_seq ?_
  refine go_region ?_
  refine gM rfl rfl ?_
  refine go_nil ?_
  refine g_cond (b := x1) (ot rfl) (fun hc3 => ?_) (fun hc3 => ?_)
  ·
    replace hF := ifT hc3 hF
    refine go_seq ?_
    refine go_seq ?_
    refine go_region ?_
    refine gM rfl rfl ?_
    refine go_nil ?_
    refine g_cond (b := x2) (ot rfl) (fun hc4 => ?_) (fun hc4 => ?_)
    ·
      replace hF := ifT hc4 hF
      refine go_seq ?_
      refine go_region ?_
      refine gAc rfl rfl ?_
      refine go_nil ?_
      obtain rfl := someI hF
      exact g_ret (rst rfl rs0) (fun h1 hf hs => ⟨hs.hext, rfl⟩)
    ·
      replace hF := ifF hc4 hF
      refine go_skip ?_
      refine go_seq ?_
      refine go_region ?_
      refine gAc rfl rfl ?_
      refine go_nil ?_
      obtain rfl := someI hF
      exact g_ret (rst rfl rs0) (fun h1 hf hs => ⟨hs.hext, rfl⟩)
  ·
    replace hF := ifF hc3 hF
    refine go_skip ?_
    refine go_seq ?_
    refine go_seq ?_
    refine go_region ?_
    refine gM rfl rfl ?_
    refine go_nil ?_
    refine g_cond (b := x2) (ot rfl) (fun hc5 => ?_) (fun hc5 => ?_)
    ·
      replace hF := ifT hc5 hF
      refine go_seq ?_
      refine go_region ?_
      refine gAc rfl rfl ?_
      refine go_nil ?_
      obtain rfl := someI hF
      exact g_ret (rst rfl rs0) (fun h1 hf hs => ⟨hs.hext, rfl⟩)
    ·
      replace hF := ifF hc5 hF
      refine go_skip ?_
      refine go_seq ?_
      refine go_seq ?_
      refine go_region ?_
      refine gM rfl rfl ?_
      refine gM rfl rfl ?_
      refine gr rfl (r_bin (ot rfl) (ot rfl) rfl) ?_
      refine go_nil ?_
      refine g_cond (b := (lessB p0 p1)) (ot rfl) (fun hc6 => ?_) (fun hc6 => ?_)
      ·
        replace hF := ifT hc6 hF
        refine go_seq ?_
        refine go_region ?_
        refine gAc rfl rfl ?_
        refine go_nil ?_
        obtain rfl := someI hF
        exact g_ret (rst rfl rs0) (fun h1 hf hs => ⟨hs.hext, rfl⟩)
      ·
        replace hF := ifF hc6 hF
        refine go_skip ?_
        refine go_seq ?_
        refine go_seq ?_
        refine go_region ?_
        refine gM rfl rfl ?_
        refine gM rfl rfl ?_
        refine gr rfl (r_bin (ot rfl) (ot rfl) rfl) ?_
        refine go_nil ?_
        refine g_cond (b := (!leB p0 p1)) (ot rfl) (fun hc7 => ?_) (fun hc7 => ?_)
        ·
          replace hF := ifT hc7 hF
          refine go_seq ?_
          refine go_region ?_
          refine gAc rfl rfl ?_
          refine go_nil ?_
          obtain rfl := someI hF
          exact g_ret (rst rfl rs0) (fun h1 hf hs => ⟨hs.hext, rfl⟩)
        ·
          replace hF := ifF hc7 hF
          refine go_skip ?_
          refine go_seq ?_
          refine go_region ?_
          refine gAc rfl rfl ?_
          refine go_nil ?_
          obtain rfl := someI hF
          exact g_ret (rst rfl rs0) (fun h1 hf hs => ⟨hs.hext, rfl⟩)
theorem s_txn_find_1 {h : Heap} (hw : Wf h) (p0 : KV) (p1 : ByteArray)   {r : Int} (hF : F_txn_find_1 p0 p1 = some r) :
    Ev EE 63 [.agg #[.string p0.key, .string p0.val, .int .i64 p0.rev], .string p1] h (fun v _ => v = .int .i64 r) := by
  unfold F_txn_find_1 at hF
  refine ev_of hw rfl at_63 rfl rfl (go_seg0 ?_)
  refine go_seq ?_
  refine go_region ?_
  refine gs_box rfl (ot rfl) rfl ?_; intro b2_1
  refine gAc rfl rfl ?_
  refine go_nil ?_
  refine go_seq ?_
  refine go_region ?_
  refine gr rfl (r_fa (ot rfl) (fa_52_0 _ _)) ?_
  refine gr rfl (r_load (ot rfl) (lm_s (mem_seg 0 rfl) ag_9 rfl)) ?_
  refine gM rfl rfl ?_
  replace hF := obind hF
  obtain ⟨x2, hx2, hF⟩ := hF
  refine g_callp (v := .int .i64 x2) EE_fr rfl of (os1 (ot rfl) (os1 (ot rfl) os0)) hb_64 (fun _ => rfl) (fun hf kn w => by exact s_cmp_Compare w p0.key p1  hx2) ?_
  refine gA rfl rfl ?_
  refine go_nil ?_
  obtain rfl := someI hF
  exact g_ret (rst rfl rs0) (fun h1 hf hs => ⟨hs.hext, rfl⟩)
theorem s_slices_BinarySearchFunc_txn_find_1 (n : Nat) {h : Heap} (hw : Wf h) (p0 : (List KV)) (p1 : ByteArray) {a0_0 : Option Addr} {c0_0 : Nat} (f0_0 : RL R_KV h a0_0 c0_0 p0) {r : Int × Bool} (hF : F_slices_BinarySearchFunc_txn_find_1 n p0 p1 = some r) :
    Ev EE 62 [.slice a0_0 p0.length c0_0, .string p1, .func (.func 63) #[] #[]] h (fun v _ => v = .tuple #[.int .i64 r.1, .bool r.2]) := by
  unfold F_slices_BinarySearchFunc_txn_find_1 at hF
  refine ev_of hw rfl at_62 rfl rfl (go_seg0 ?_)
  refine go_seq ?_
  refine go_region ?_
  refine gAc rfl rfl ?_
  refine gAc rfl rfl ?_
  refine go_nil ?_
  refine go_seq ?_
  refine go_region ?_
  refine gM rfl rfl ?_
  refine gr rfl (r_len rfl (os1 (ot rfl) os0) (fun _ _ => ln_28)) ?_
  refine gA rfl rfl ?_
  refine go_nil ?_
  refine go_seq ?_
  refine go_region ?_
  refine gM rfl rfl ?_
  refine gAc rfl rfl ?_
  refine gA rfl rfl ?_
  refine go_nil ?_
  refine go_seq ?_
  replace hF := obind hF
  obtain ⟨s1, hF, hK1⟩ := hF
  refine go_joinc (β := Unit) (fun s h' => True) (fun s => [(0, true, .slice a0_0 p0.length c0_0), (1, true, .string p1), (2, true, .func (.func 63) #[] #[]), (6, true, .int .i64 0), (7, true, .bool false), (8, true, .int .i64 (p0.length : Int)), (9, true, .int .i64 s1)]) (fun s => (List.flatten [] : List Blk)) ?_ (fun J1 => ?_)
  ·
    rintro _ h1 e1 w1 _
    replace hF := hK1
    refine go_seq ?_
    refine go_region ?_
    refine gM rfl rfl ?_
    refine gM rfl rfl ?_
    refine gM rfl rfl ?_
    refine gr rfl (r_bin (ot rfl) (ot rfl) rfl) ?_
    refine gM rfl rfl ?_
    replace hF := obind hF
    obtain ⟨s3, hF, hK3⟩ := hF
    refine go_joinr 9 (β := Unit) (fun s h' => True) (fun s => [(6, true, .int .i64 0), (7, true, .bool false), (35, true, .int .i64 s1), (48, true, .bool s3)]) (fun s => (List.flatten [] : List Blk)) ?_ (fun J3 => ?_)
    ·
      rintro _ h3 e3 w3 _
      replace hF := hK3
      refine gA rfl rfl ?_
      refine gA rfl rfl ?_
      refine go_nil ?_
      obtain rfl := someI hF
      exact g_ret (rst rfl (rst rfl rs0)) (fun h1 hf hs => ⟨(e1.trans (e3.trans hs.hext)), rfl⟩)
    ·
      rcases Bool.eq_false_or_eq_true (decide (s1 < (p0.length : Int))) with hb2 | hb2
      ·
        replace hF := ifT hb2 hF
        refine go_re 39 (v2 := .bool true) rfl (congrArg Value.bool hb2) ?_
        refine g_do rfl rfl rfl ?_
        refine gM rfl rfl ?_
        refine g_do rfl rfl rfl ?_
        refine gM rfl rfl ?_
        refine g_do rfl rfl rfl ?_
        refine gM rfl rfl ?_
        refine g_do rfl rfl rfl ?_
        replace hF := obind hF
        obtain ⟨x4, hx4, hF⟩ := hF
        obtain ⟨q4, row4, i4, cl4, rc4, sp4⟩ := ix (ik := .i64) (cap := c0_0) (E := EE) (f0_0.ext e1.kn) hx4 ut_28 sz_52 rfl
        obtain rfl := rc4
        refine gr rfl (r_ia (ot rfl) (ot rfl) i4) ?_
        refine g_do rfl rfl rfl ?_
        refine gr rfl (r_load (ot rfl) (v := .agg #[.string x4.key, .string x4.val, .int .i64 x4.rev]) (lo_e (fun hf kn => ld_of (r := [.string x4.key, .string x4.val, .int .i64 x4.rev]) ag_52 sz_52 (kn.cellsAt cl4)))) ?_
        refine g_do rfl rfl rfl ?_
        refine gM rfl rfl ?_
        refine g_do rfl rfl rfl ?_
        replace hF := obind hF
        obtain ⟨x5, hx5, hF⟩ := hF
        refine g_callp (v := .int .i64 x5) EE_fr rfl (ot rfl) (os1 (ot rfl) (os1 (ot rfl) os0)) hb_63 (fun _ => rfl) (fun hf kn w => by exact s_txn_find_1 w x4 p1  hx5) ?_
        refine g_do rfl rfl rfl ?_
        refine gr rfl (r_bin (ot rfl) (oc rfl) rfl) ?_
        refine gr rfl (r_pkT (ot rfl) (ot rfl)) ?_
        obtain rfl := someI hF
        exact Goes.weak (J3 () _ (HExt.refl _) w1 trivial) (Sub.cons (Sub.cons (Sub.cons (Sub.cons (Sub.nil _) rfl) rfl) rfl) rfl)
      ·
        replace hF := ifF hb2 hF
        refine go_re 39 (v2 := .bool false) rfl (congrArg Value.bool hb2) ?_
        refine g_no rfl rfl rfl rfl rfl ?_
        refine g_no rfl rfl rfl rfl rfl ?_
        refine g_no rfl rfl rfl rfl rfl ?_
        refine g_no rfl rfl rfl rfl rfl ?_
        refine g_no rfl rfl rfl rfl rfl ?_
        refine g_no rfl rfl rfl rfl rfl ?_
        refine g_no rfl rfl rfl rfl rfl ?_
        refine g_no rfl rfl rfl rfl rfl ?_
        refine gr rfl (r_pkF (ot rfl) (oc rfl)) ?_
        obtain rfl := someI hF
        exact Goes.weak (J3 () _ (HExt.refl _) w1 trivial) (Sub.cons (Sub.cons (Sub.cons (Sub.cons (Sub.nil _) rfl) rfl) rfl) rfl)
  ·
    refine go_block ?_
    refine go_loop (α := Nat × Int × Int × Heap) (fun a => HExt h a.2.2.2 ∧ Wf a.2.2.2 ∧ F_slices_BinarySearchFunc_txn_find_1_L1 p0 p1 a.1 a.2.1 a.2.2.1 = some s1) (fun a => a.1) (fun a => [(0, true, .slice a0_0 p0.length c0_0), (1, true, .string p1), (2, true, .func (.func 63) #[] #[]), (6, true, .int .i64 0), (7, true, .bool false), (8, true, .int .i64 (p0.length : Int)), (9, true, .int .i64 a.2.1), (10, true, .int .i64 a.2.2.1)]) (fun a => (List.flatten [] : List Blk)) (fun a => a.2.2.2) ?_ (n, 0, (p0.length : Int), h) ⟨HExt.refl _, hw, hF⟩ (Sub.cons (Sub.cons (Sub.cons (Sub.cons (Sub.cons (Sub.cons (Sub.cons (Sub.cons (Sub.nil _) rfl) rfl) rfl) rfl) rfl) rfl) rfl) rfl) rfl rfl
    rintro ⟨m6, y6_0, y6_1, h6⟩ ⟨e6, w6, hF⟩ ih6
    rcases m6 with _ | m6
    ·
      rw [F_slices_BinarySearchFunc_txn_find_1_L1.eq_1] at hF; cases hF
    ·
      rw [F_slices_BinarySearchFunc_txn_find_1_L1.eq_2] at hF
      refine go_seq ?_
      refine go_seq ?_
      refine go_region ?_
      refine gM rfl rfl ?_
      refine gM rfl rfl ?_
      refine gr rfl (r_bin (ot rfl) (ot rfl) rfl) ?_
      refine go_nil ?_
      refine g_cond (b := (decide (y6_0 < y6_1))) (ot rfl) (fun hc7 => ?_) (fun hc7 => ?_)
      ·
        replace hF := ifT hc7 hF
        refine go_skip ?_
        refine go_block ?_
        refine go_seq ?_
        refine go_region ?_
        refine gM rfl rfl ?_
        refine gM rfl rfl ?_
        refine gr rfl (r_bin (ot rfl) (ot rfl) rfl) ?_
        refine gr rfl (r_conv (ot rfl) rfl) ?_
        refine gr rfl (r_bin (ot rfl) (oc rfl) rfl) ?_
        refine gr rfl (r_conv (ot rfl) rfl) ?_
        refine gA rfl rfl ?_
        refine go_nil ?_
        refine go_seq ?_
        refine go_region ?_
        refine gM rfl rfl ?_
        refine gM rfl rfl ?_
        refine gM rfl rfl ?_
        replace hF := obind hF
        obtain ⟨x8, hx8, hF⟩ := hF
        obtain ⟨q8, row8, i8, cl8, rc8, sp8⟩ := ix (ik := .i64) (cap := c0_0) (E := EE) (f0_0.ext e6.kn) hx8 ut_28 sz_52 rfl
        obtain rfl := rc8
        refine gr rfl (r_ia (ot rfl) (ot rfl) i8) ?_
        refine gr rfl (r_load (ot rfl) (v := .agg #[.string x8.key, .string x8.val, .int .i64 x8.rev]) (lo_e (fun hf kn => ld_of (r := [.string x8.key, .string x8.val, .int .i64 x8.rev]) ag_52 sz_52 (kn.cellsAt cl8)))) ?_
        refine gM rfl rfl ?_
        replace hF := obind hF
        obtain ⟨x9, hx9, hF⟩ := hF
        refine g_callp (v := .int .i64 x9) EE_fr rfl (ot rfl) (os1 (ot rfl) (os1 (ot rfl) os0)) hb_63 (fun _ => rfl) (fun hf kn w => by exact s_txn_find_1 w x8 p1  hx9) ?_
        refine gr rfl (r_bin (ot rfl) (oc rfl) rfl) ?_
        refine go_nil ?_
        refine g_cond (b := (decide (x9 < 0))) (ot rfl) (fun hc10 => ?_) (fun hc10 => ?_)
        ·
          replace hF := ifT hc10 hF
          refine go_region ?_
          refine gM rfl rfl ?_
          refine gr rfl (r_bin (ot rfl) (oc rfl) rfl) ?_
          refine gA rfl rfl ?_
          refine go_nil ?_
          refine go_endb ?_
          exact Goes.weak (ih6 (m6, (IntKind.i64.wrap ((IntKind.i64.wrap (shrI .u64 (IntKind.u64.wrap (IntKind.i64.wrap (y6_0 + y6_1))) 1)) + 1)), y6_1, h6) ⟨e6, w6, hF⟩ (Nat.lt_succ_self _)) (Sub.cons (Sub.cons (Sub.cons (Sub.cons (Sub.cons (Sub.cons (Sub.cons (Sub.cons (Sub.nil _) rfl) rfl) rfl) rfl) rfl) rfl) rfl) rfl)
        ·
          replace hF := ifF hc10 hF
          refine go_region ?_
          refine gM rfl rfl ?_
          refine gA rfl rfl ?_
          refine go_nil ?_
          refine go_endb ?_
          exact Goes.weak (ih6 (m6, y6_0, (IntKind.i64.wrap (shrI .u64 (IntKind.u64.wrap (IntKind.i64.wrap (y6_0 + y6_1))) 1)), h6) ⟨e6, w6, hF⟩ (Nat.lt_succ_self _)) (Sub.cons (Sub.cons (Sub.cons (Sub.cons (Sub.cons (Sub.cons (Sub.cons (Sub.cons (Sub.nil _) rfl) rfl) rfl) rfl) rfl) rfl) rfl) rfl)
      ·
        replace hF := ifF hc7 hF
        refine go_exit rfl ?_
        obtain rfl := someI hF
        exact Goes.weak (J1 () _ e6 w6 trivial) (Sub.cons (Sub.cons (Sub.cons (Sub.cons (Sub.cons (Sub.cons (Sub.cons (Sub.nil _) rfl) rfl) rfl) rfl) rfl) rfl) rfl)
theorem s_txn_find (n : Nat) {h : Heap} (hw : Wf h) (p0 : (List KV)) (p1 : ByteArray) {a0_0 : Option Addr} {c0_0 : Nat} (f0_0 : RL R_KV h a0_0 c0_0 p0) {r : KV × Bool} (hF : F_txn_find n p0 p1 = some r) :
    Ev EE 42 [.slice a0_0 p0.length c0_0, .string p1] h (fun v _ => v = .tuple #[.agg #[.string r.1.key, .string r.1.val, .int .i64 r.1.rev], .bool r.2]) := by
  unfold F_txn_find at hF
  refine ev_of hw rfl at_42 rfl rfl (go_seg0 ?_)
  refine go_seq ?_
  refine go_region ?_
  refine gs_alloc rfl zo_52 rfl ?_; intro b4_1
  refine gAc rfl rfl ?_
  refine go_nil ?_
  refine go_seq ?_
  refine go_region ?_
  refine gM rfl rfl ?_
  refine gM rfl rfl ?_
  replace hF := obind hF
  obtain ⟨x2, hx2, hF⟩ := hF
  refine g_callp (v := .tuple #[.int .i64 x2.1, .bool x2.2]) EE_fr rfl of (os1 (ot rfl) (os1 (ot rfl) (os1 of os0))) hb_62 (fun _ => rfl) (fun hf kn w => by exact s_slices_BinarySearchFunc_txn_find_1 n w p0 p1 (f0_0.ext kn) hx2) ?_
  refine gM rfl rfl ?_
  refine gE rfl rfl rfl ?_
  refine gE rfl rfl rfl ?_
  refine gA rfl rfl ?_
  refine gA rfl rfl ?_
  refine go_nil ?_
  refine go_seq ?_
  refine go_seq ?_
  refine go_region ?_
  refine gM rfl rfl ?_
  refine gr rfl (r_un (ot rfl) rfl) ?_
  refine go_nil ?_
  refine g_cond (b := (!x2.2)) (ot rfl) (fun hc3 => ?_) (fun hc3 => ?_)
  ·
    replace hF := ifT hc3 hF
    refine go_seq ?_
    refine go_region ?_
    refine gr rfl (r_build op0 rfl) ?_
    refine gs_store (ot rfl) (ot rfl) sz_52 rfl rfl rfl rfl rfl .z ?_
    refine gAc rfl rfl ?_
    refine go_nil ?_
    obtain rfl := someI hF
    exact g_ret (rsc rfl (lm_w (mem_seg 0 rfl) ag_52 sz_52 rfl) (rst rfl rs0)) (fun h1 hf hs => ⟨hs.hext, rfl⟩)
  ·
    replace hF := ifF hc3 hF
    refine go_skip ?_
    refine go_seq ?_
    refine go_region ?_
    refine gM rfl rfl ?_
    refine gM rfl rfl ?_
    replace hF := obind hF
    obtain ⟨x4, hx4, hF⟩ := hF
    obtain ⟨q4, row4, i4, cl4, rc4, sp4⟩ := ix (ik := .i64) (cap := c0_0) (E := EE) f0_0 hx4 ut_28 sz_52 rfl
    obtain rfl := rc4
    refine gr rfl (r_ia (ot rfl) (ot rfl) i4) ?_
    refine gr rfl (r_load (ot rfl) (v := .agg #[.string x4.key, .string x4.val, .int .i64 x4.rev]) (lo_e (fun hf kn => ld_of (r := [.string x4.key, .string x4.val, .int .i64 x4.rev]) ag_52 sz_52 (kn.cellsAt cl4)))) ?_
    refine gs_store (ot rfl) (ot rfl) sz_52 rfl rfl rfl rfl rfl .z ?_
    refine gAc rfl rfl ?_
    refine go_nil ?_
    obtain rfl := someI hF
    exact g_ret (rsc rfl (lm_w (mem_seg 0 rfl) ag_52 sz_52 rfl) (rst rfl rs0)) (fun h1 hf hs => ⟨hs.hext, rfl⟩)
theorem s_txn_Holds_1 (n : Nat) {h : Heap} (hw : Wf h) (p0 : Cmp) (p1 : (List KV)) {a1_0 : Option Addr} {c1_0 : Nat} {b1 : Nat} (f1_0 : RL R_KV h a1_0 c1_0 p1) (g1 : BK h b1 [.slice a1_0 p1.length c1_0] 28) {r : Bool} (hF : F_txn_Holds_1 n p0 p1 = some r) :
    Ev EE 44 [.agg #[.int .i64 p0.kind, .string p0.key, .string p0.val, .int .i64 p0.rev], .pointer (some ⟨b1, 0, none⟩)] h (fun v _ => v = .bool r) := by
  unfold F_txn_Holds_1 at hF
  refine ev_of hw rfl at_44 rfl rfl (go_seg0 ?_)
  refine go_seq ?_
  refine go_region ?_
  refine gs_box rfl (ot rfl) rfl ?_; intro b2_1
  refine gAc rfl rfl ?_
  refine go_nil ?_
  refine go_seq ?_
  refine go_region ?_
  refine gr rfl (r_load (ot rfl) (v := .slice a1_0 p1.length c1_0) (lo_e (fun hf kn => ld_cell ag_28 (g1.ext kn) rfl))) ?_
  refine gr rfl (r_fa (ot rfl) (fa_65_1 _ _)) ?_
  refine gr rfl (r_load (ot rfl) (lm_s (mem_seg 0 rfl) ag_9 rfl)) ?_
  replace hF := obind hF
  obtain ⟨x2, hx2, hF⟩ := hF
  refine g_callp (v := .tuple #[.agg #[.string x2.1.key, .string x2.1.val, .int .i64 x2.1.rev], .bool x2.2]) EE_fr rfl of (os1 (ot rfl) (os1 (ot rfl) os0)) hb_42 (fun _ => rfl) (fun hf kn w => by exact s_txn_find n w p1 p0.key (f1_0.ext kn) hx2) ?_
  refine gM rfl rfl ?_
  refine gE rfl rfl rfl ?_
  refine gE rfl rfl rfl ?_
  refine gs_alloc rfl zo_52 rfl ?_; intro b4_3
  refine gs_store (ot rfl) (ot rfl) sz_52 rfl rfl rfl rfl rfl .z ?_
  refine gA rfl rfl ?_
  refine go_nil ?_
  refine go_seq ?_
  refine go_block ?_
  refine go_seq ?_
  refine go_region ?_
  refine gr rfl (r_fa (ot rfl) (fa_65_0 _ _)) ?_
  refine gr rfl (r_load (ot rfl) (lm_s (mem_seg 1 rfl) ag_3 rfl)) ?_
  refine gr rfl (r_bin (ot rfl) (oc rfl) rfl) ?_
  refine gA rfl rfl ?_
  refine go_nil ?_
  refine g_cond (b := (p0.kind == 1)) (ot rfl) (fun hc4 => ?_) (fun hc4 => ?_)
  ·
    replace hF := ifT hc4 hF
    refine go_seq ?_
    refine go_region ?_
    refine gM rfl rfl ?_
    refine gr rfl (r_un (ot rfl) rfl) ?_
    refine gM rfl rfl ?_
    refine grf rfl rfl rfl rfl (r_fa (ot rfl) (fa_52_1 _ _)) ?_
    refine grf rfl rfl rfl rfl (r_load (og rfl id) (lm_s (mem_seg 0 rfl) ag_9 rfl)) ?_
    refine grf rfl rfl rfl rfl (r_fa (ot rfl) (fa_65_2 _ _)) ?_
    refine grf rfl rfl rfl rfl (r_load (og rfl id) (lm_s (mem_seg 1 rfl) ag_9 rfl)) ?_
    refine grf rfl rfl rfl rfl (r_bin (og rfl id) (og rfl id) rfl) ?_
    refine gr rfl (r_pickb (ot rfl) (oc rfl) (og rfl id)) ?_
    refine gA rfl rfl ?_
    refine go_nil ?_
    obtain rfl := someI hF
    exact g_ret (rst rfl rs0) (fun h1 hf hs => ⟨hs.hext, rfl⟩)
  ·
    replace hF := ifF hc4 hF
    refine go_seq ?_
    refine go_region ?_
    refine gr rfl (r_fa (ot rfl) (fa_65_0 _ _)) ?_
    refine gr rfl (r_load (ot rfl) (lm_s (mem_seg 1 rfl) ag_3 rfl)) ?_
    refine gr rfl (r_bin (ot rfl) (oc rfl) rfl) ?_
    refine gM rfl rfl ?_
    refine grt rfl rfl rfl rfl (r_fa (ot rfl) (fa_65_3 _ _)) ?_
    refine grt rfl rfl rfl rfl (r_load (og rfl id) (lm_s (mem_seg 1 rfl) ag_3 rfl)) ?_
    refine grt rfl rfl rfl rfl (r_bin (og rfl id) (oc rfl) rfl) ?_
    refine gr rfl (r_pickb (ot rfl) (og rfl id) (oc rfl)) ?_
    refine gA rfl rfl ?_
    refine go_nil ?_
    refine g_cond (b := (bif (p0.kind == 2) then (p0.rev == 0) else false)) (ot rfl) (fun hc5 => ?_) (fun hc5 => ?_)
    ·
      replace hF := ifT hc5 hF
      refine go_seq ?_
      refine go_region ?_
      refine gM rfl rfl ?_
      refine gA rfl rfl ?_
      refine go_nil ?_
      obtain rfl := someI hF
      exact g_ret (rst rfl rs0) (fun h1 hf hs => ⟨hs.hext, rfl⟩)
    ·
      replace hF := ifF hc5 hF
      refine go_seq ?_
      refine go_region ?_
      refine gr rfl (r_fa (ot rfl) (fa_65_0 _ _)) ?_
      refine gr rfl (r_load (ot rfl) (lm_s (mem_seg 1 rfl) ag_3 rfl)) ?_
      refine gr rfl (r_bin (ot rfl) (oc rfl) rfl) ?_
      refine gA rfl rfl ?_
      refine go_nil ?_
      refine g_cond (b := (p0.kind == 2)) (ot rfl) (fun hc6 => ?_) (fun hc6 => ?_)
      ·
        replace hF := ifT hc6 hF
        refine go_seq ?_
        refine go_region ?_
        refine gM rfl rfl ?_
        refine gr rfl (r_un (ot rfl) rfl) ?_
        refine gM rfl rfl ?_
        refine grf rfl rfl rfl rfl (r_fa (ot rfl) (fa_52_2 _ _)) ?_
        refine grf rfl rfl rfl rfl (r_load (og rfl id) (lm_s (mem_seg 0 rfl) ag_3 rfl)) ?_
        refine grf rfl rfl rfl rfl (r_fa (ot rfl) (fa_65_3 _ _)) ?_
        refine grf rfl rfl rfl rfl (r_load (og rfl id) (lm_s (mem_seg 1 rfl) ag_3 rfl)) ?_
        refine grf rfl rfl rfl rfl (r_bin (og rfl id) (og rfl id) rfl) ?_
        refine gr rfl (r_pickb (ot rfl) (oc rfl) (og rfl id)) ?_
        refine gA rfl rfl ?_
        refine go_nil ?_
        obtain rfl := someI hF
        exact g_ret (rst rfl rs0) (fun h1 hf hs => ⟨hs.hext, rfl⟩)
      ·
        replace hF := ifF hc6 hF
        refine go_skip ?_
        refine go_endb ?_
        refine go_seq ?_
        refine go_region ?_
        refine gAc rfl rfl ?_
        refine go_nil ?_
        obtain rfl := someI hF
        exact g_ret (rst rfl rs0) (fun h1 hf hs => ⟨hs.hext, rfl⟩)
theorem s_slices_IndexFunc_txn_Holds_1 (n : Nat) {h : Heap} (hw : Wf h) (p0 : (List Cmp)) (p1c0 : (List KV)) {a0_0 : Option Addr} {c0_0 : Nat} {a1c0_0 : Option Addr} {c1c0_0 : Nat} {b1c0 : Nat} (f0_0 : RL R_Cmp h a0_0 c0_0 p0) (f1c0_0 : RL R_KV h a1c0_0 c1c0_0 p1c0) (g1c0 : BK h b1c0 [.slice a1c0_0 p1c0.length c1c0_0] 28) {r : Int} (hF : F_slices_IndexFunc_txn_Holds_1 n p0 p1c0 = some r) :
    Ev EE 65 [.slice a0_0 p0.length c0_0, .func (.func 44) #[] #[.pointer (some ⟨b1c0, 0, none⟩)]] h (fun v _ => v = .int .i64 r) := by
  unfold F_slices_IndexFunc_txn_Holds_1 at hF
  refine ev_of hw rfl at_65 rfl rfl (go_seg0 ?_)
  refine go_seq ?_
  refine go_region ?_
  refine gAc rfl rfl ?_
  refine go_nil ?_
  refine go_seq ?_
  refine go_seq ?_
  refine go_region ?_
  refine gM rfl rfl ?_
  refine gr rfl (r_len rfl (os1 (ot rfl) os0) (fun _ _ => ln_24)) ?_
  refine gMc rfl rfl ?_
  refine go_nil ?_
  replace hF := obind hF
  obtain ⟨s1, hF, hK1⟩ := hF
  refine go_joinc (β := (Unit)) (fun s h' => s1 = .go s) (fun s => [(4, true, .int .i64 0)]) (fun s => (List.flatten [] : List Blk)) ?_ (fun J1 => ?_)
  ·
    rintro _ h1 e1 w1 hs1
    subst hs1
    replace hF := hK1
    refine go_seq ?_
    refine go_region ?_
    refine gAc rfl rfl ?_
    refine go_nil ?_
    obtain rfl := someI hF
    exact g_ret (rst rfl rs0) (fun h1 hf hs => ⟨(e1.trans hs.hext), rfl⟩)
  ·
    refine go_block ?_
    refine go_loop (α := (List Cmp) × Nat × Heap) (fun a => a.1 = List.drop a.2.1 p0 ∧ HExt h a.2.2 ∧ Wf a.2.2 ∧ F_slices_IndexFunc_txn_Holds_1_L1 n p1c0 a.1 a.2.1 = some s1) (fun a => a.1.length) (fun a => [(0, true, .slice a0_0 p0.length c0_0), (1, true, .func (.func 44) #[] #[.pointer (some ⟨b1c0, 0, none⟩)]), (4, true, .int .i64 0), (7, true, .int .i64 (p0.length : Int)), (8, true, .int .i64 (a.2.1 : Int))]) (fun a => (List.flatten [] : List Blk)) (fun a => a.2.2) ?_ (p0, 0, h) ⟨rfl, HExt.refl _, hw, hF⟩ (Sub.cons (Sub.cons (Sub.cons (Sub.cons (Sub.cons (Sub.nil _) rfl) rfl) rfl) rfl) rfl) rfl rfl
    rintro ⟨r2, i2, h2⟩ ⟨hr2, e2, w2, hF⟩ ih2
    rcases r2 with _ | ⟨z2, r2⟩
    ·
      have hi2 := drop_nil hr2
      rw [F_slices_IndexFunc_txn_Holds_1_L1.eq_1] at hF
      refine go_seq ?_
      refine go_region ?_
      refine gr rfl (r_bin (ot rfl) (ot rfl) rfl) ?_
      refine go_cast (.bool false) (congrArg Value.bool (decide_eq_false hi2)) ?_
      refine go_nil ?_
      refine go_seq ?_
      refine g_cond (b := false) (ot rfl) (fun hc3 => ?_) (fun hc3 => ?_)
      · cases hc3
      refine go_exit rfl ?_
      obtain rfl := someI hF
      exact Goes.weak (J1 () _ e2 w2 rfl) (Sub.cons (Sub.nil _) rfl)
    ·
      obtain ⟨hi2, hx2, hr2⟩ := drop_cons hr2
      have hb2 := (f0_0.ext e2.kn).1
      rw [F_slices_IndexFunc_txn_Holds_1_L1.eq_2] at hF
      refine go_seq ?_
      refine go_region ?_
      refine gr rfl (r_bin (ot rfl) (ot rfl) rfl) ?_
      refine go_cast (.bool true) (congrArg Value.bool (decide_eq_true (Int.ofNat_lt.mpr hi2))) ?_
      refine go_nil ?_
      refine go_seq ?_
      refine g_cond (b := true) (ot rfl) (fun hc4 => ?_) (fun hc4 => ?_)
      rotate_left
      · cases hc4
      refine go_skip ?_
      refine go_seq ?_
      refine go_block ?_
      refine go_seq ?_
      refine go_region ?_
      refine gM rfl rfl ?_
      refine gA rfl rfl ?_
      refine go_nil ?_
      refine go_seq ?_
      refine go_region ?_
      refine gM rfl rfl ?_
      refine gM rfl rfl ?_
      refine gM rfl rfl ?_
      obtain ⟨q5, row5, i5, cl5, rc5, sp5⟩ := ix (ik := .i64) (cap := c0_0) (E := EE) (f0_0.ext e2.kn) ((getI_nat _ _).trans hx2) ut_24 sz_65 rfl
      obtain rfl := rc5
      refine gr rfl (r_ia (ot rfl) (ot rfl) i5) ?_
      refine gr rfl (r_load (ot rfl) (v := .agg #[.int .i64 z2.kind, .string z2.key, .string z2.val, .int .i64 z2.rev]) (lo_e (fun hf kn => ld_of (r := [.int .i64 z2.kind, .string z2.key, .string z2.val, .int .i64 z2.rev]) ag_65 sz_65 (kn.cellsAt cl5)))) ?_
      replace hF := obind hF
      obtain ⟨x6, hx6, hF⟩ := hF
      refine g_callp (v := .bool x6) EE_fr rfl (ot rfl) (os1 (ot rfl) os0) hb_44 (fun _ => rfl) (fun hf kn w => by exact s_txn_Holds_1 n w z2 p1c0 ((f1c0_0.ext e2.kn).ext kn) ((g1c0.ext e2.kn).ext kn) hx6) ?_
      refine go_nil ?_
      refine g_cond (b := x6) (ot rfl) (fun hc7 => ?_) (fun hc7 => ?_)
      ·
        replace hF := ifT hc7 hF
        refine go_seq ?_
        refine go_region ?_
        refine gM rfl rfl ?_
        refine gA rfl rfl ?_
        refine go_nil ?_
        obtain rfl := someI hF
        obtain rfl := someI hK1
        exact g_ret (rst rfl rs0) (fun h1 hf hs => ⟨(e2.trans hs.hext), rfl⟩)
      ·
        replace hF := ifF hc7 hF
        refine go_skip ?_
        refine go_endb ?_
        refine go_region ?_
        refine gr rfl (r_bin (ot rfl) (oc rfl) rfl) ?_
        refine gM rfl rfl ?_
        refine go_nil ?_
        refine go_re 8 (v2 := .int .i64 ((i2 + 1 : Nat) : Int)) rfl (wrap_succ hi2 hb2) ?_
        exact Goes.weak (ih2 (r2, i2 + 1, h2) ⟨hr2, e2, w2, hF⟩ (Nat.lt_succ_self _)) (Sub.cons (Sub.cons (Sub.cons (Sub.cons (Sub.cons (Sub.nil _) rfl) rfl) rfl) rfl) rfl)
theorem s_slices_ContainsFunc_txn_Holds_1 (n : Nat) {h : Heap} (hw : Wf h) (p0 : (List Cmp)) (p1c0 : (List KV)) {a0_0 : Option Addr} {c0_0 : Nat} {a1c0_0 : Option Addr} {c1c0_0 : Nat} {b1c0 : Nat} (f0_0 : RL R_Cmp h a0_0 c0_0 p0) (f1c0_0 : RL R_KV h a1c0_0 c1c0_0 p1c0) (g1c0 : BK h b1c0 [.slice a1c0_0 p1c0.length c1c0_0] 28) {r : Bool} (hF : F_slices_ContainsFunc_txn_Holds_1 n p0 p1c0 = some r) :
    Ev EE 43 [.slice a0_0 p0.length c0_0, .func (.func 44) #[] #[.pointer (some ⟨b1c0, 0, none⟩)]] h (fun v _ => v = .bool r) := by
  unfold F_slices_ContainsFunc_txn_Holds_1 at hF
  refine ev_of hw rfl at_43 rfl rfl (go_seg0 ?_)
  refine go_seq ?_
  refine go_region ?_
  refine gAc rfl rfl ?_
  refine go_nil ?_
  refine go_seq ?_
  refine go_region ?_
  refine gM rfl rfl ?_
  refine gM rfl rfl ?_
  replace hF := obind hF
  obtain ⟨x1, hx1, hF⟩ := hF
  refine g_callp (v := .int .i64 x1) EE_fr rfl of (os1 (ot rfl) (os1 (ot rfl) os0)) hb_65 (fun _ => rfl) (fun hf kn w => by exact s_slices_IndexFunc_txn_Holds_1 n w p0 p1c0 (f0_0.ext kn) (f1c0_0.ext kn) (g1c0.ext kn) hx1) ?_
  refine gr rfl (r_bin (ot rfl) (oc rfl) rfl) ?_
  refine gA rfl rfl ?_
  refine go_nil ?_
  obtain rfl := someI hF
  exact g_ret (rst rfl rs0) (fun h1 hf hs => ⟨hs.hext, rfl⟩)
theorem s_txn_Holds (n : Nat) {h : Heap} (hw : Wf h) (p0 : (List KV)) (p1 : (List Cmp)) {a0_0 : Option Addr} {c0_0 : Nat} {a1_0 : Option Addr} {c1_0 : Nat} (f0_0 : RL R_KV h a0_0 c0_0 p0) (f1_0 : RL R_Cmp h a1_0 c1_0 p1) {r : Bool} (hF : F_txn_Holds n p0 p1 = some r) :
    Ev EE 27 [.slice a0_0 p0.length c0_0, .slice a1_0 p1.length c1_0] h (fun v _ => v = .bool r) := by
  unfold F_txn_Holds at hF
  refine ev_of hw rfl at_27 rfl rfl (go_seg0 ?_)
  refine go_seq ?_
  refine go_region ?_
  refine gs_box rfl (ot rfl) rfl ?_; intro b2_1
  refine gAc rfl rfl ?_
  refine go_nil ?_
  refine go_seq ?_
  refine go_region ?_
  refine gM rfl rfl ?_
  refine gr rfl (r_func os0 (os1 (ot rfl) os0)) ?_
  refine gs_pub .z (fun h3 e3 w3 hb3 => ?_)
  have g3_ : BK h3 b2_1 [.slice a0_0 p0.length c0_0] 28 := hb3
  replace hF := obind hF
  obtain ⟨x2, hx2, hF⟩ := hF
  refine g_callp (v := .bool x2) EE_fr rfl of (os1 (ot rfl) (os1 (ot rfl) os0)) hb_43 (fun _ => rfl) (fun hf kn w => by exact s_slices_ContainsFunc_txn_Holds_1 n w p1 p0 ((f1_0.ext e3.kn).ext kn) ((f0_0.ext e3.kn).ext kn) (g3_.ext kn) hx2) ?_
  refine gr rfl (r_un (ot rfl) rfl) ?_
  refine gA rfl rfl ?_
  refine go_nil ?_
  obtain rfl := someI hF
  exact g_ret (rst rfl rs0) (fun h1 hf hs => ⟨(e3.trans hs.hext), rfl⟩)
theorem s_txn_Plan (n : Nat) {h : Heap} (hw : Wf h) (p0 : (List KV)) (p1 : TReq) {a0_0 : Option Addr} {c0_0 : Nat} {a1_4 : Option Addr} {c1_4 : Nat} {a1_5 : Option Addr} {c1_5 : Nat} {a1_6 : Option Addr} {c1_6 : Nat} (f0_0 : RL R_KV h a0_0 c0_0 p0) (f1_4 : RL R_Cmp h a1_4 c1_4 p1.Cmps) (f1_5 : RL R_OpX h a1_5 c1_5 p1.Then) (f1_6 : RL R_OpX h a1_6 c1_6 p1.Else) {r : Bool × (List OpX)} (hF : F_txn_Plan n p0 p1 = some r) :
    Ev EE 25 [.slice a0_0 p0.length c0_0, .agg #[.int .i64 p1.Kind, .string p1.R.From, .string p1.R.To, .int .i64 p1.Rev, .slice a1_4 p1.Cmps.length c1_4, .slice a1_5 p1.Then.length c1_5, .slice a1_6 p1.Else.length c1_6]] h (fun v h1 => ∃ a0 c0, v = .tuple #[.bool r.1, .slice a0 r.2.length c0] ∧ RL R_OpX h1 a0 c0 r.2) := by
  unfold F_txn_Plan at hF
  refine ev_of hw rfl at_25 rfl rfl (go_seg0 ?_)
  refine go_seq ?_
  refine go_region ?_
  refine gs_box rfl (ot rfl) rfl ?_; intro b3_1
  refine gAc rfl rfl ?_
  refine gAc rfl rfl ?_
  refine go_nil ?_
  refine go_seq ?_
  refine go_region ?_
  refine gM rfl rfl ?_
  refine gr rfl (r_fa (ot rfl) (fa_27_3 _ _)) ?_
  refine gr rfl (r_load (ot rfl) (lm_s (mem_seg 0 rfl) ag_24 rfl)) ?_
  replace hF := obind hF
  obtain ⟨x2, hx2, hF⟩ := hF
  refine g_callp (v := .bool x2) EE_fr rfl of (os1 (ot rfl) (os1 (ot rfl) os0)) hb_27 (fun _ => rfl) (fun hf kn w => by exact s_txn_Holds n w p0 p1.Cmps (f0_0.ext kn) (f1_4.ext kn) hx2) ?_
  refine gA rfl rfl ?_
  refine go_nil ?_
  refine go_seq ?_
  refine go_region ?_
  refine gr rfl (r_fa (ot rfl) (fa_27_5 _ _)) ?_
  refine gr rfl (r_load (ot rfl) (lm_s (mem_seg 0 rfl) ag_25 rfl)) ?_
  refine gA rfl rfl ?_
  refine go_nil ?_
  refine go_seq ?_
  refine go_seq ?_
  refine go_region ?_
  refine gM rfl rfl ?_
  refine go_nil ?_
  replace hF := obind hF
  obtain ⟨s4, hF, hK4⟩ := hF
  refine go_joinc (β := Option Addr × Nat) (fun s h' => RL R_OpX h' s.1 s.2 s4) (fun s => [(0, true, .slice a0_0 p0.length c0_0), (4, true, .bool false), (5, true, .slice none 0 0), (6, true, .bool x2), (7, true, .slice s.1 s4.length s.2)]) (fun s => (List.flatten [[⟨b3_1, .cells [.int .i64 p1.Kind, .string p1.R.From, .string p1.R.To, .int .i64 p1.Rev, .slice a1_4 p1.Cmps.length c1_4, .slice a1_5 p1.Then.length c1_5, .slice a1_6 p1.Else.length c1_6] 27⟩]] : List Blk)) ?_ (fun J4 => ?_)
  ·
    rintro ⟨a4_0, a4_1⟩ h4 e4 w4 f4_0
    replace hF := hK4
    refine go_seq ?_
    refine go_region ?_
    refine gAc rfl rfl ?_
    refine go_nil ?_
    refine go_seq ?_
    refine go_seq ?_
    refine go_region ?_
    refine gM rfl rfl ?_
    refine gr rfl (r_len rfl (os1 (ot rfl) os0) (fun _ _ => ln_25)) ?_
    refine gMc rfl rfl ?_
    refine go_nil ?_
    replace hF := obind hF
    obtain ⟨s5, hF, hK5⟩ := hF
    refine go_joinc (β := Option Addr × List Blk) (fun s h' => AccR R_OpX 69 h' s.2 (.slice s.1 s5.length s5.length) s5) (fun s => [(4, true, .bool false), (5, true, .slice none 0 0), (6, true, .bool x2), (8, true, .slice s.1 s5.length s5.length)]) (fun s => (List.flatten [s.2, [⟨b3_1, .cells [.int .i64 p1.Kind, .string p1.R.From, .string p1.R.To, .int .i64 p1.Rev, .slice a1_4 p1.Cmps.length c1_4, .slice a1_5 p1.Then.length c1_5, .slice a1_6 p1.Else.length c1_6] 27⟩]] : List Blk)) ?_ (fun J5 => ?_)
    ·
      rintro ⟨a5_0, a5_1⟩ h5 e5 w5 f5_0
      replace hF := hK5
      refine go_seq ?_
      refine go_region ?_
      refine gM rfl rfl ?_
      refine gM rfl rfl ?_
      refine gA rfl rfl ?_
      refine gA rfl rfl ?_
      refine go_nil ?_
      refine gs_accpub .z f5_0 (fun h6 e6 w6 f6_ => ?_) rfl
      obtain rfl := someI hF
      exact g_ret (rst rfl (rst rfl rs0)) (fun h1 hf hs => ⟨(e4.trans (e5.trans (e6.trans hs.hext))), ⟨_, _, rfl, (f6_.ext hs.hext.kn)⟩⟩)
    ·
      refine go_block ?_
      refine go_loop (α := (List OpX) × Nat × (List OpX) × Option Addr × List Blk × Heap) (fun a => a.1 = List.drop a.2.1 s4 ∧ HExt h4 a.2.2.2.2.2 ∧ Wf a.2.2.2.2.2 ∧ F_txn_Plan_L1 n p0 a.1 a.2.1 a.2.2.1 = some s5 ∧ AccR R_OpX 69 a.2.2.2.2.2 a.2.2.2.2.1 (.slice a.2.2.2.1 a.2.2.1.length a.2.2.1.length) a.2.2.1) (fun a => a.1.length) (fun a => [(0, true, .slice a0_0 p0.length c0_0), (4, true, .bool false), (5, true, .slice none 0 0), (6, true, .bool x2), (8, true, .slice a.2.2.2.1 a.2.2.1.length a.2.2.1.length), (22, true, .slice a4_0 s4.length a4_1), (23, true, .int .i64 (s4.length : Int)), (24, true, .int .i64 (a.2.1 : Int))]) (fun a => (List.flatten [a.2.2.2.2.1, [⟨b3_1, .cells [.int .i64 p1.Kind, .string p1.R.From, .string p1.R.To, .int .i64 p1.Rev, .slice a1_4 p1.Cmps.length c1_4, .slice a1_5 p1.Then.length c1_5, .slice a1_6 p1.Else.length c1_6] 27⟩]] : List Blk)) (fun a => a.2.2.2.2.2) ?_ (s4, 0, ([] : List OpX), none, [], h4) ⟨rfl, HExt.refl _, w4, hF, (AccR.nil _ _ _)⟩ (Sub.cons (Sub.cons (Sub.cons (Sub.cons (Sub.cons (Sub.cons (Sub.cons (Sub.cons (Sub.nil _) rfl) rfl) rfl) rfl) rfl) rfl) rfl) rfl) rfl rfl
      rintro ⟨r7, i7, y7_0, a7_0, a7_1, h7⟩ ⟨hr7, e7, w7, hF, f7_0⟩ ih7
      rcases r7 with _ | ⟨z7, r7⟩
      ·
        have hi7 := drop_nil hr7
        rw [F_txn_Plan_L1.eq_1] at hF
        refine go_seq ?_
        refine go_region ?_
        refine gr rfl (r_bin (ot rfl) (ot rfl) rfl) ?_
        refine go_cast (.bool false) (congrArg Value.bool (decide_eq_false hi7)) ?_
        refine go_nil ?_
        refine go_seq ?_
        refine g_cond (b := false) (ot rfl) (fun hc8 => ?_) (fun hc8 => ?_)
        · cases hc8
        refine go_exit rfl ?_
        obtain rfl := someI hF
        exact Goes.weak (J5 (a7_0, a7_1) _ e7 w7 f7_0) (Sub.cons (Sub.cons (Sub.cons (Sub.cons (Sub.nil _) rfl) rfl) rfl) rfl)
      ·
        obtain ⟨hi7, hx7, hr7⟩ := drop_cons hr7
        have hb7 := (f4_0.ext e7.kn).1
        rw [F_txn_Plan_L1.eq_2] at hF
        refine go_seq ?_
        refine go_region ?_
        refine gr rfl (r_bin (ot rfl) (ot rfl) rfl) ?_
        refine go_cast (.bool true) (congrArg Value.bool (decide_eq_true (Int.ofNat_lt.mpr hi7))) ?_
        refine go_nil ?_
        refine go_seq ?_
        refine g_cond (b := true) (ot rfl) (fun hc9 => ?_) (fun hc9 => ?_)
        rotate_left
        · cases hc9
        refine go_skip ?_
        refine go_seq ?_
        refine go_block ?_
        refine go_seq ?_
        refine go_region ?_
        obtain ⟨q10, row10, i10, cl10, rc10, sp10⟩ := ix (ik := .i64) (cap := a4_1) (E := EE) (f4_0.ext e7.kn) ((getI_nat _ _).trans hx7) ut_25 sz_69 rfl
        obtain rfl := rc10
        refine gr rfl (r_ia (ot rfl) (ot rfl) i10) ?_
        refine gr rfl (r_load (ot rfl) (v := .agg #[.string z7.key, .string z7.val, .bool z7.del]) (lo_e (fun hf kn => ld_of (r := [.string z7.key, .string z7.val, .bool z7.del]) ag_69 sz_69 (kn.cellsAt cl10)))) ?_
        refine gs_alloc rfl zo_69 rfl ?_; intro b10_11
        refine gs_store (ot rfl) (ot rfl) sz_69 rfl rfl rfl rfl rfl .z ?_
        refine go_nil ?_
        refine go_seq ?_
        refine go_region ?_
        refine gM rfl rfl ?_
        refine gr rfl (r_fa (ot rfl) (fa_69_0 _ _)) ?_
        refine gr rfl (r_load (ot rfl) (lm_s (mem_seg 0 rfl) ag_9 rfl)) ?_
        replace hF := obind hF
        obtain ⟨x12, hx12, hF⟩ := hF
        refine g_callp (v := .tuple #[.agg #[.string x12.1.key, .string x12.1.val, .int .i64 x12.1.rev], .bool x12.2]) EE_fr rfl of (os1 (ot rfl) (os1 (ot rfl) os0)) hb_42 (fun _ => rfl) (fun hf kn w => by exact s_txn_find n w p0 z7.key (((f0_0.ext e4.kn).ext e7.kn).ext kn) hx12) ?_
        refine gM rfl rfl ?_
        refine gE rfl rfl rfl ?_
        refine gE rfl rfl rfl ?_
        refine gs_alloc rfl zo_52 rfl ?_; intro b11_13
        refine gs_store (ot rfl) (ot rfl) sz_52 rfl rfl rfl rfl rfl .z ?_
        refine gA rfl rfl ?_
        refine go_nil ?_
        refine go_seq ?_
        refine go_region ?_
        refine gM rfl rfl ?_
        refine gM rfl rfl ?_
        refine grf rfl rfl rfl rfl (r_fa (ot rfl) (fa_69_2 _ _)) ?_
        refine grf rfl rfl rfl rfl (r_load (og rfl id) (lm_s (mem_seg 1 rfl) ag_4 rfl)) ?_
        refine grf rfl rfl rfl rfl (r_un (og rfl id) rfl) ?_
        refine gr rfl (r_pickb (ot rfl) (oc rfl) (og rfl id)) ?_
        refine go_nil ?_
        refine g_cond (b := (bif x12.2 then true else (!z7.del))) (ot rfl) (fun hc14 => ?_) (fun hc14 => ?_)
        ·
          replace hF := ifT hc14 hF
          refine go_region ?_
          refine gM rfl rfl ?_
          refine gr rfl (r_load (ot rfl) (lm_w (mem_seg 1 rfl) ag_69 sz_69 rfl)) ?_
          refine gs_bslice (cs := [.string z7.key, .string z7.val, .bool z7.del]) rfl (op1 (ot rfl) op0) ut_25 sz_69 zo_69 rfl rfl ?_; intro b43_15
          replace hF := obind hF
          obtain ⟨x16, hx16, hF⟩ := hF
          obtain ⟨hr16, rfl⟩ := appL_some hx16
          refine gs_front (.s (.s (.s (.z)))) ?_
          refine gs_app (rows2 := [[.string z7.key, .string z7.val, .bool z7.del]]) (R := R_OpX) rfl (os1 (ot rfl) (os1 (ot rfl) os0)) rfl ut_25 sz_69 rfl (by decide) by_69 zo_69 rfl zs_25_25 rfl rfl (first_m (mem_seg 1 rfl) rfl (by decide)) (Rws.one (x := z7) rfl) f7_0 hr16 (fun p16_ tl16 f16_ => ?_)
          refine gA rfl rfl ?_
          refine go_nil ?_
          refine go_endb ?_
          refine go_region ?_
          refine gr rfl (r_bin (ot rfl) (oc rfl) rfl) ?_
          refine gM rfl rfl ?_
          refine go_nil ?_
          refine gs_sub (.cons_cons _ (.cons _ (.cons _ (.cons _ (.cons_cons _ (.refl _)))))) ?_
          refine go_re 24 (v2 := .int .i64 ((i7 + 1 : Nat) : Int)) rfl (wrap_succ hi7 hb7) ?_
          exact Goes.weak (ih7 (r7, i7 + 1, (y7_0 ++ ([z7] : List OpX)), p16_, tl16, h7) ⟨hr7, e7, w7, hF, f16_⟩ (Nat.lt_succ_self _)) (Sub.cons (Sub.cons (Sub.cons (Sub.cons (Sub.cons (Sub.cons (Sub.cons (Sub.cons (Sub.nil _) rfl) rfl) rfl) rfl) rfl) rfl) rfl) rfl)
        ·
          replace hF := ifF hc14 hF
          refine go_skip ?_
          refine go_endb ?_
          refine go_region ?_
          refine gr rfl (r_bin (ot rfl) (oc rfl) rfl) ?_
          refine gM rfl rfl ?_
          refine go_nil ?_
          refine gs_sub (.cons _ (.cons _ (.cons_cons _ (.cons_cons _ (.refl _))))) ?_
          refine go_re 24 (v2 := .int .i64 ((i7 + 1 : Nat) : Int)) rfl (wrap_succ hi7 hb7) ?_
          exact Goes.weak (ih7 (r7, i7 + 1, y7_0, a7_0, a7_1, h7) ⟨hr7, e7, w7, hF, f7_0⟩ (Nat.lt_succ_self _)) (Sub.cons (Sub.cons (Sub.cons (Sub.cons (Sub.cons (Sub.cons (Sub.cons (Sub.cons (Sub.nil _) rfl) rfl) rfl) rfl) rfl) rfl) rfl) rfl)
  ·
    refine g_cond (b := x2) (ot rfl) (fun hc3 => ?_) (fun hc3 => ?_)
    ·
      replace hF := ifT hc3 hF
      refine go_region ?_
      refine gr rfl (r_fa (ot rfl) (fa_27_4 _ _)) ?_
      refine gr rfl (r_load (ot rfl) (lm_s (mem_seg 0 rfl) ag_25 rfl)) ?_
      refine gA rfl rfl ?_
      refine go_nil ?_
      obtain rfl := someI hF
      exact Goes.weak (J4 (a1_5, c1_5) _ (HExt.refl _) hw f1_5) (Sub.cons (Sub.cons (Sub.cons (Sub.cons (Sub.cons (Sub.nil _) rfl) rfl) rfl) rfl) rfl)
    ·
      replace hF := ifF hc3 hF
      refine go_skip ?_
      obtain rfl := someI hF
      exact Goes.weak (J4 (a1_6, c1_6) _ (HExt.refl _) hw f1_6) (Sub.cons (Sub.cons (Sub.cons (Sub.cons (Sub.cons (Sub.nil _) rfl) rfl) rfl) rfl) rfl)
theorem s_ref06_Get {h : Heap} (hw : Wf h) (p0 : (List KV)) (p1 : ByteArray) {a0_0 : Option Addr} {c0_0 : Nat} (f0_0 : RL R_KV h a0_0 c0_0 p0) {r : KV × Bool} (hF : F_ref06_Get p0 p1 = some r) :
    Ev EE 24 [.slice a0_0 p0.length c0_0, .string p1] h (fun v _ => v = .tuple #[.agg #[.string r.1.key, .string r.1.val, .int .i64 r.1.rev], .bool r.2]) := by
  unfold F_ref06_Get at hF
  refine ev_of hw rfl at_24 rfl rfl (go_seg0 ?_)
  refine go_seq ?_
  refine go_region ?_
  refine gs_alloc rfl zo_52 rfl ?_; intro b4_1
  refine gAc rfl rfl ?_
  refine go_nil ?_
  refine go_seq ?_
  refine go_seq ?_
  refine go_region ?_
  refine gAc rfl rfl ?_
  refine go_nil ?_
  replace hF := obind hF
  obtain ⟨s2, hF, hK2⟩ := hF
  refine go_joinc (β := (Unit)) (fun s h' => s2 = .go s) (fun s => [(4, true, .pointer (some ⟨b4_1, 0, none⟩)), (5, true, .bool false)]) (fun s => (List.flatten [[⟨b4_1, .cells [.string ByteArray.empty, .string ByteArray.empty, .int .i64 0] 52⟩]] : List Blk)) ?_ (fun J2 => ?_)
  ·
    rintro _ h2 e2 w2 hs2
    subst hs2
    replace hF := hK2
    refine go_seq ?_
    refine go_region ?_
    refine gr rfl (r_build op0 rfl) ?_
    refine gs_store (ot rfl) (ot rfl) sz_52 rfl rfl rfl rfl rfl .z ?_
    refine gAc rfl rfl ?_
    refine go_nil ?_
    obtain rfl := someI hF
    exact g_ret (rsc rfl (lm_w (mem_seg 0 rfl) ag_52 sz_52 rfl) (rst rfl rs0)) (fun h1 hf hs => ⟨(e2.trans hs.hext), rfl⟩)
  ·
    refine go_block ?_
    refine go_loop (α := (List KV) × Nat × Heap) (fun a => a.1 = List.drop a.2.1 p0 ∧ HExt h a.2.2 ∧ Wf a.2.2 ∧ F_ref06_Get_L1 p1 a.1 a.2.1 = some s2) (fun a => a.1.length) (fun a => [(0, true, .slice a0_0 p0.length c0_0), (1, true, .string p1), (4, true, .pointer (some ⟨b4_1, 0, none⟩)), (5, true, .bool false), (6, true, .int .i64 (a.2.1 : Int))]) (fun a => (List.flatten [[⟨b4_1, .cells [.string ByteArray.empty, .string ByteArray.empty, .int .i64 0] 52⟩]] : List Blk)) (fun a => a.2.2) ?_ (p0, 0, h) ⟨rfl, HExt.refl _, hw, hF⟩ (Sub.cons (Sub.cons (Sub.cons (Sub.cons (Sub.cons (Sub.nil _) rfl) rfl) rfl) rfl) rfl) rfl rfl
    rintro ⟨r3, i3, h3⟩ ⟨hr3, e3, w3, hF⟩ ih3
    rcases r3 with _ | ⟨z3, r3⟩
    ·
      have hi3 := drop_nil hr3
      rw [F_ref06_Get_L1.eq_1] at hF
      refine go_seq ?_
      refine go_seq ?_
      refine go_region ?_
      refine gM rfl rfl ?_
      refine gM rfl rfl ?_
      refine gr rfl (r_len rfl (os1 (ot rfl) os0) (fun _ _ => ln_28)) ?_
      refine gr rfl (r_bin (ot rfl) (ot rfl) rfl) ?_
      refine go_cast (.bool false) (congrArg Value.bool (decide_eq_false hi3)) ?_
      refine go_nil ?_
      refine g_cond (b := false) (ot rfl) (fun hc4 => ?_) (fun hc4 => ?_)
      · cases hc4
      refine go_exit rfl ?_
      obtain rfl := someI hF
      exact Goes.weak (J2 () _ e3 w3 rfl) (Sub.cons (Sub.cons (Sub.nil _) rfl) rfl)
    ·
      obtain ⟨hi3, hx3, hr3⟩ := drop_cons hr3
      have hb3 := (f0_0.ext e3.kn).1
      rw [F_ref06_Get_L1.eq_2] at hF
      refine go_seq ?_
      refine go_seq ?_
      refine go_region ?_
      refine gM rfl rfl ?_
      refine gM rfl rfl ?_
      refine gr rfl (r_len rfl (os1 (ot rfl) os0) (fun _ _ => ln_28)) ?_
      refine gr rfl (r_bin (ot rfl) (ot rfl) rfl) ?_
      refine go_cast (.bool true) (congrArg Value.bool (decide_eq_true (Int.ofNat_lt.mpr hi3))) ?_
      refine go_nil ?_
      refine g_cond (b := true) (ot rfl) (fun hc5 => ?_) (fun hc5 => ?_)
      rotate_left
      · cases hc5
      refine go_skip ?_
      refine go_seq ?_
      refine go_block ?_
      refine go_seq ?_
      refine go_region ?_
      refine gM rfl rfl ?_
      refine gM rfl rfl ?_
      obtain ⟨q6, row6, i6, cl6, rc6, sp6⟩ := ix (ik := .i64) (cap := c0_0) (E := EE) (f0_0.ext e3.kn) ((getI_nat _ _).trans hx3) ut_28 sz_52 rfl
      obtain rfl := rc6
      refine gr rfl (r_ia (ot rfl) (ot rfl) i6) ?_
      refine gr rfl (r_fa (ot rfl) (fs_52_0 sp6)) ?_
      refine gr rfl (r_load (ot rfl) (v := .string z3.key) (lo_e (fun hf kn => ld_field (r := [.string z3.key, .string z3.val, .int .i64 z3.rev]) ag_9 (kn.cellsAt cl6) rfl))) ?_
      refine gM rfl rfl ?_
      refine gr rfl (r_bin (ot rfl) (ot rfl) rfl) ?_
      refine go_nil ?_
      refine g_cond (b := (eqB z3.key p1)) (ot rfl) (fun hc7 => ?_) (fun hc7 => ?_)
      ·
        replace hF := ifT hc7 hF
        refine go_seq ?_
        refine go_region ?_
        refine gM rfl rfl ?_
        refine gM rfl rfl ?_
        obtain ⟨q8, row8, i8, cl8, rc8, sp8⟩ := ix (ik := .i64) (cap := c0_0) (E := EE) (f0_0.ext e3.kn) ((getI_nat _ _).trans hx3) ut_28 sz_52 rfl
        obtain rfl := rc8
        refine gr rfl (r_ia (ot rfl) (ot rfl) i8) ?_
        refine gr rfl (r_load (ot rfl) (v := .agg #[.string z3.key, .string z3.val, .int .i64 z3.rev]) (lo_e (fun hf kn => ld_of (r := [.string z3.key, .string z3.val, .int .i64 z3.rev]) ag_52 sz_52 (kn.cellsAt cl8)))) ?_
        refine gs_store (ot rfl) (ot rfl) sz_52 rfl rfl rfl rfl rfl .z ?_
        refine gAc rfl rfl ?_
        refine go_nil ?_
        obtain rfl := someI hF
        obtain rfl := someI hK2
        exact g_ret (rsc rfl (lm_w (mem_seg 0 rfl) ag_52 sz_52 rfl) (rst rfl rs0)) (fun h1 hf hs => ⟨(e3.trans hs.hext), rfl⟩)
      ·
        replace hF := ifF hc7 hF
        refine go_skip ?_
        refine go_endb ?_
        refine go_region ?_
        refine gM rfl rfl ?_
        refine gr rfl (r_bin (ot rfl) (oc rfl) rfl) ?_
        refine gA rfl rfl ?_
        refine go_nil ?_
        refine go_re 6 (v2 := .int .i64 ((i3 + 1 : Nat) : Int)) rfl (wrap_succ hi3 hb3) ?_
        exact Goes.weak (ih3 (r3, i3 + 1, h3) ⟨hr3, e3, w3, hF⟩ (Nat.lt_succ_self _)) (Sub.cons (Sub.cons (Sub.cons (Sub.cons (Sub.cons (Sub.nil _) rfl) rfl) rfl) rfl) rfl)
theorem s_ref07_Ops {h : Heap} (hw : Wf h) (p0 : (List OpX)) (p1 : (List OpX)) {a0_0 : Option Addr} {c0_0 : Nat} {a1_0 : Option Addr} {c1_0 : Nat} (f0_0 : RL R_OpX h a0_0 c0_0 p0) (f1_0 : RL R_OpX h a1_0 c1_0 p1) {r : Bool} (hF : F_ref07_Ops p0 p1 = some r) :
    Ev EE 26 [.slice a0_0 p0.length c0_0, .slice a1_0 p1.length c1_0] h (fun v _ => v = .bool r) := by
  unfold F_ref07_Ops at hF
  refine ev_of hw rfl at_26 rfl rfl (go_seg0 ?_)
  refine go_seq ?_
  refine go_region ?_
  refine gAc rfl rfl ?_
  refine go_nil ?_
  refine go_seq ?_
  refine go_seq ?_
  refine go_region ?_
  refine gM rfl rfl ?_
  refine gr rfl (r_len rfl (os1 (ot rfl) os0) (fun _ _ => ln_25)) ?_
  refine gM rfl rfl ?_
  refine gr rfl (r_len rfl (os1 (ot rfl) os0) (fun _ _ => ln_25)) ?_
  refine gr rfl (r_bin (ot rfl) (ot rfl) rfl) ?_
  refine go_nil ?_
  refine g_cond (b := ((p0.length : Int) != (p1.length : Int))) (ot rfl) (fun hc1 => ?_) (fun hc1 => ?_)
  ·
    replace hF := ifT hc1 hF
    refine go_seq ?_
    refine go_region ?_
    refine gAc rfl rfl ?_
    refine go_nil ?_
    obtain rfl := someI hF
    exact g_ret (rst rfl rs0) (fun h1 hf hs => ⟨hs.hext, rfl⟩)
  ·
    replace hF := ifF hc1 hF
    refine go_skip ?_
    refine go_seq ?_
    refine go_seq ?_
    refine go_region ?_
    refine gAc rfl rfl ?_
    refine go_nil ?_
    replace hF := obind hF
    obtain ⟨s2, hF, hK2⟩ := hF
    refine go_joinc (β := (Unit)) (fun s h' => s2 = .go s) (fun s => [(4, true, .bool false)]) (fun s => (List.flatten [] : List Blk)) ?_ (fun J2 => ?_)
    ·
      rintro _ h2 e2 w2 hs2
      subst hs2
      replace hF := hK2
      refine go_seq ?_
      refine go_region ?_
      refine gAc rfl rfl ?_
      refine go_nil ?_
      obtain rfl := someI hF
      exact g_ret (rst rfl rs0) (fun h1 hf hs => ⟨(e2.trans hs.hext), rfl⟩)
    ·
      refine go_block ?_
      refine go_loop (α := (List OpX) × Nat × Heap) (fun a => a.1 = List.drop a.2.1 p0 ∧ HExt h a.2.2 ∧ Wf a.2.2 ∧ F_ref07_Ops_L1 p1 a.1 a.2.1 = some s2) (fun a => a.1.length) (fun a => [(0, true, .slice a0_0 p0.length c0_0), (1, true, .slice a1_0 p1.length c1_0), (4, true, .bool false), (5, true, .int .i64 (a.2.1 : Int))]) (fun a => (List.flatten [] : List Blk)) (fun a => a.2.2) ?_ (p0, 0, h) ⟨rfl, HExt.refl _, hw, hF⟩ (Sub.cons (Sub.cons (Sub.cons (Sub.cons (Sub.nil _) rfl) rfl) rfl) rfl) rfl rfl
      rintro ⟨r3, i3, h3⟩ ⟨hr3, e3, w3, hF⟩ ih3
      rcases r3 with _ | ⟨z3, r3⟩
      ·
        have hi3 := drop_nil hr3
        rw [F_ref07_Ops_L1.eq_1] at hF
        refine go_seq ?_
        refine go_seq ?_
        refine go_region ?_
        refine gM rfl rfl ?_
        refine gM rfl rfl ?_
        refine gr rfl (r_len rfl (os1 (ot rfl) os0) (fun _ _ => ln_25)) ?_
        refine gr rfl (r_bin (ot rfl) (ot rfl) rfl) ?_
        refine go_cast (.bool false) (congrArg Value.bool (decide_eq_false hi3)) ?_
        refine go_nil ?_
        refine g_cond (b := false) (ot rfl) (fun hc4 => ?_) (fun hc4 => ?_)
        · cases hc4
        refine go_exit rfl ?_
        obtain rfl := someI hF
        exact Goes.weak (J2 () _ e3 w3 rfl) (Sub.cons (Sub.nil _) rfl)
      ·
        obtain ⟨hi3, hx3, hr3⟩ := drop_cons hr3
        have hb3 := (f0_0.ext e3.kn).1
        rw [F_ref07_Ops_L1.eq_2] at hF
        refine go_seq ?_
        refine go_seq ?_
        refine go_region ?_
        refine gM rfl rfl ?_
        refine gM rfl rfl ?_
        refine gr rfl (r_len rfl (os1 (ot rfl) os0) (fun _ _ => ln_25)) ?_
        refine gr rfl (r_bin (ot rfl) (ot rfl) rfl) ?_
        refine go_cast (.bool true) (congrArg Value.bool (decide_eq_true (Int.ofNat_lt.mpr hi3))) ?_
        refine go_nil ?_
        refine g_cond (b := true) (ot rfl) (fun hc5 => ?_) (fun hc5 => ?_)
        rotate_left
        · cases hc5
        refine go_skip ?_
        refine go_seq ?_
        refine go_block ?_
        refine go_seq ?_
        refine go_regionq (by kernel_rfl) ?_
        refine gM rfl rfl ?_
        refine gM rfl rfl ?_
        obtain ⟨q6, row6, i6, cl6, rc6, sp6⟩ := ix (ik := .i64) (cap := c0_0) (E := EE) (f0_0.ext e3.kn) ((getI_nat _ _).trans hx3) ut_25 sz_69 rfl
        obtain rfl := rc6
        refine gr rfl (r_ia (ot rfl) (ot rfl) i6) ?_
        refine gr rfl (r_load (ot rfl) (v := .agg #[.string z3.key, .string z3.val, .bool z3.del]) (lo_e (fun hf kn => ld_of (r := [.string z3.key, .string z3.val, .bool z3.del]) ag_69 sz_69 (kn.cellsAt cl6)))) ?_
        refine gM rfl rfl ?_
        refine gM rfl rfl ?_
        replace hF := obind hF
        obtain ⟨x7, hx7, hF⟩ := hF
        obtain ⟨q7, row7, i7, cl7, rc7, sp7⟩ := ix (ik := .i64) (cap := c1_0) (E := EE) (f1_0.ext e3.kn) hx7 ut_25 sz_69 rfl
        obtain rfl := rc7
        refine gr rfl (r_ia (ot rfl) (ot rfl) i7) ?_
        refine gr rfl (r_load (ot rfl) (v := .agg #[.string x7.key, .string x7.val, .bool x7.del]) (lo_e (fun hf kn => ld_of (r := [.string x7.key, .string x7.val, .bool x7.del]) ag_69 sz_69 (kn.cellsAt cl7)))) ?_
        refine gr rfl (r_bin (ot rfl) (ot rfl) bn_69) ?_
        refine go_nil ?_
        refine g_cond (b := (!(eq_OpX z3 x7))) (ot rfl) (fun hc8 => ?_) (fun hc8 => ?_)
        ·
          replace hF := ifT hc8 hF
          refine go_seq ?_
          refine go_region ?_
          refine gAc rfl rfl ?_
          refine go_nil ?_
          obtain rfl := someI hF
          obtain rfl := someI hK2
          exact g_ret (rst rfl rs0) (fun h1 hf hs => ⟨(e3.trans hs.hext), rfl⟩)
        ·
          replace hF := ifF hc8 hF
          refine go_skip ?_
          refine go_endb ?_
          refine go_region ?_
          refine gM rfl rfl ?_
          refine gr rfl (r_bin (ot rfl) (oc rfl) rfl) ?_
          refine gA rfl rfl ?_
          refine go_nil ?_
          refine go_re 5 (v2 := .int .i64 ((i3 + 1 : Nat) : Int)) rfl (wrap_succ hi3 hb3) ?_
          exact Goes.weak (ih3 (r3, i3 + 1, h3) ⟨hr3, e3, w3, hF⟩ (Nat.lt_succ_self _)) (Sub.cons (Sub.cons (Sub.cons (Sub.cons (Sub.nil _) rfl) rfl) rfl) rfl)
theorem s_ref05_Map {h : Heap} (hw : Wf h) (p0 : (List KV)) {a0_0 : Option Addr} {c0_0 : Nat} (f0_0 : RL R_KV h a0_0 c0_0 p0) {r : Bool} (hF : F_ref05_Map p0 = some r) :
    Ev EE 13 [.slice a0_0 p0.length c0_0] h (fun v _ => v = .bool r) := by
  unfold F_ref05_Map at hF
  refine ev_of hw rfl at_13 rfl rfl (go_seg0 ?_)
  refine go_seq ?_
  refine go_region ?_
  refine gAc rfl rfl ?_
  refine go_nil ?_
  refine go_seq ?_
  refine go_seq ?_
  refine go_region ?_
  refine gAc rfl rfl ?_
  refine go_nil ?_
  replace hF := obind hF
  obtain ⟨s1, hF, hK1⟩ := hF
  refine go_joinc (β := (Unit)) (fun s h' => s1 = .go s) (fun s => [(2, true, .bool false)]) (fun s => (List.flatten [] : List Blk)) ?_ (fun J1 => ?_)
  ·
    rintro _ h1 e1 w1 hs1
    subst hs1
    replace hF := hK1
    refine go_seq ?_
    refine go_region ?_
    refine gAc rfl rfl ?_
    refine go_nil ?_
    obtain rfl := someI hF
    exact g_ret (rst rfl rs0) (fun h1 hf hs => ⟨(e1.trans hs.hext), rfl⟩)
  ·
    refine go_block ?_
    refine go_loop (α := (List KV) × Nat × Heap) (fun a => a.1 = List.drop a.2.1 p0 ∧ HExt h a.2.2 ∧ Wf a.2.2 ∧ F_ref05_Map_L1 p0 a.1 a.2.1 = some s1) (fun a => a.1.length) (fun a => [(0, true, .slice a0_0 p0.length c0_0), (2, true, .bool false), (3, true, .int .i64 (a.2.1 : Int))]) (fun a => (List.flatten [] : List Blk)) (fun a => a.2.2) ?_ ((List.drop 1 p0), 1, h) ⟨rfl, HExt.refl _, hw, hF⟩ (Sub.cons (Sub.cons (Sub.cons (Sub.nil _) rfl) rfl) rfl) rfl rfl
    rintro ⟨r2, i2, h2⟩ ⟨hr2, e2, w2, hF⟩ ih2
    rcases r2 with _ | ⟨z2, r2⟩
    ·
      have hi2 := drop_nil hr2
      rw [F_ref05_Map_L1.eq_1] at hF
      refine go_seq ?_
      refine go_seq ?_
      refine go_region ?_
      refine gM rfl rfl ?_
      refine gM rfl rfl ?_
      refine gr rfl (r_len rfl (os1 (ot rfl) os0) (fun _ _ => ln_28)) ?_
      refine gr rfl (r_bin (ot rfl) (ot rfl) rfl) ?_
      refine go_cast (.bool false) (congrArg Value.bool (decide_eq_false hi2)) ?_
      refine go_nil ?_
      refine g_cond (b := false) (ot rfl) (fun hc3 => ?_) (fun hc3 => ?_)
      · cases hc3
      refine go_exit rfl ?_
      obtain rfl := someI hF
      exact Goes.weak (J1 () _ e2 w2 rfl) (Sub.cons (Sub.nil _) rfl)
    ·
      obtain ⟨hi2, hx2, hr2⟩ := drop_cons hr2
      have hb2 := (f0_0.ext e2.kn).1
      rw [F_ref05_Map_L1.eq_2] at hF
      refine go_seq ?_
      refine go_seq ?_
      refine go_region ?_
      refine gM rfl rfl ?_
      refine gM rfl rfl ?_
      refine gr rfl (r_len rfl (os1 (ot rfl) os0) (fun _ _ => ln_28)) ?_
      refine gr rfl (r_bin (ot rfl) (ot rfl) rfl) ?_
      refine go_cast (.bool true) (congrArg Value.bool (decide_eq_true (Int.ofNat_lt.mpr hi2))) ?_
      refine go_nil ?_
      refine g_cond (b := true) (ot rfl) (fun hc4 => ?_) (fun hc4 => ?_)
      rotate_left
      · cases hc4
      refine go_skip ?_
      refine go_seq ?_
      refine go_block ?_
      refine go_seq ?_
      refine go_regionq (by kernel_rfl) ?_
      refine gM rfl rfl ?_
      refine gM rfl rfl ?_
      refine gr rfl (r_bin (ot rfl) (oc rfl) rfl) ?_
      replace hF := obind hF
      obtain ⟨x5, hx5, hF⟩ := hF
      obtain ⟨q5, row5, i5, cl5, rc5, sp5⟩ := ix (ik := .i64) (cap := c0_0) (E := EE) (f0_0.ext e2.kn) hx5 ut_28 sz_52 rfl
      obtain rfl := rc5
      refine gr rfl (r_ia (ot rfl) (ot rfl) i5) ?_
      refine gr rfl (r_fa (ot rfl) (fs_52_0 sp5)) ?_
      refine gr rfl (r_load (ot rfl) (v := .string x5.key) (lo_e (fun hf kn => ld_field (r := [.string x5.key, .string x5.val, .int .i64 x5.rev]) ag_9 (kn.cellsAt cl5) rfl))) ?_
      refine gM rfl rfl ?_
      refine gM rfl rfl ?_
      obtain ⟨q6, row6, i6, cl6, rc6, sp6⟩ := ix (ik := .i64) (cap := c0_0) (E := EE) (f0_0.ext e2.kn) ((getI_nat _ _).trans hx2) ut_28 sz_52 rfl
      obtain rfl := rc6
      refine gr rfl (r_ia (ot rfl) (ot rfl) i6) ?_
      refine gr rfl (r_fa (ot rfl) (fs_52_0 sp6)) ?_
      refine gr rfl (r_load (ot rfl) (v := .string z2.key) (lo_e (fun hf kn => ld_field (r := [.string z2.key, .string z2.val, .int .i64 z2.rev]) ag_9 (kn.cellsAt cl6) rfl))) ?_
      refine gr rfl (r_bin (ot rfl) (ot rfl) rfl) ?_
      refine go_nil ?_
      refine g_cond (b := (!lessB x5.key z2.key)) (ot rfl) (fun hc7 => ?_) (fun hc7 => ?_)
      ·
        replace hF := ifT hc7 hF
        refine go_seq ?_
        refine go_region ?_
        refine gAc rfl rfl ?_
        refine go_nil ?_
        obtain rfl := someI hF
        obtain rfl := someI hK1
        exact g_ret (rst rfl rs0) (fun h1 hf hs => ⟨(e2.trans hs.hext), rfl⟩)
      ·
        replace hF := ifF hc7 hF
        refine go_skip ?_
        refine go_endb ?_
        refine go_region ?_
        refine gM rfl rfl ?_
        refine gr rfl (r_bin (ot rfl) (oc rfl) rfl) ?_
        refine gA rfl rfl ?_
        refine go_nil ?_
        refine go_re 3 (v2 := .int .i64 ((i2 + 1 : Nat) : Int)) rfl (wrap_succ hi2 hb2) ?_
        exact Goes.weak (ih2 (r2, i2 + 1, h2) ⟨hr2, e2, w2, hF⟩ (Nat.lt_succ_self _)) (Sub.cons (Sub.cons (Sub.cons (Sub.nil _) rfl) rfl) rfl)
theorem s_slices_Concat {h : Heap} (hw : Wf h) (p0 : (List (List OpX))) {a0_0 : Option Addr} {c0_0 : Nat} (f0_0 : RL (Rep.sl R_OpX 25) h a0_0 c0_0 p0) {r : (List OpX)} (hF : F_slices_Concat p0 = some r) :
    Ev EE 38 [.slice a0_0 p0.length c0_0] h (fun v h1 => ∃ a0 c0, v = .slice a0 r.length c0 ∧ RL R_OpX h1 a0 c0 r) := by
  unfold F_slices_Concat at hF
  refine ev_of hw rfl at_38 rfl rfl (go_seg0 ?_)
  refine go_seq ?_
  refine go_region ?_
  refine gAc rfl rfl ?_
  refine go_nil ?_
  refine go_seq ?_
  refine go_region ?_
  refine gAc rfl rfl ?_
  refine go_nil ?_
  refine go_seq ?_
  refine go_seq ?_
  refine go_region ?_
  refine gM rfl rfl ?_
  refine gr rfl (r_len rfl (os1 (ot rfl) os0) (fun _ _ => ln_112)) ?_
  refine gMc rfl rfl ?_
  refine go_nil ?_
  replace hF := obind hF
  obtain ⟨s1, hF, hK1⟩ := hF
  refine go_joinc (β := Unit) (fun s h' => True) (fun s => [(0, true, .slice a0_0 p0.length c0_0), (2, true, .slice none 0 0), (3, true, .int .i64 s1)]) (fun s => (List.flatten [] : List Blk)) ?_ (fun J1 => ?_)
  ·
    rintro _ h1 e1 w1 _
    replace hF := hK1
    refine go_seq ?_
    refine go_region ?_
    refine gM rfl rfl ?_
    replace hF := obind hF
    obtain ⟨x2, hx2, hF⟩ := hF
    refine gs_call EE_fr w1 .nil (fun _ h => by cases h; rfl) of (os1 (oc rfl) (os1 (ot rfl) os0)) hb_59 (by exact evo_grow_59 R_OpX hx2) ?_
    rintro v2 S2 h2 e2 w2 ⟨q2, t2, rfl, rfl, f2_⟩
    simp only [List.cons_append, List.nil_append]
    refine gA rfl rfl ?_
    refine go_nil ?_
    refine go_seq ?_
    refine go_seq ?_
    refine go_region ?_
    refine gM rfl rfl ?_
    refine gr rfl (r_len rfl (os1 (ot rfl) os0) (fun _ _ => ln_112)) ?_
    refine gMc rfl rfl ?_
    refine go_nil ?_
    replace hF := obind hF
    obtain ⟨s3, hF, hK3⟩ := hF
    refine go_joinc (β := Option Addr × List Blk) (fun s h' => AccR R_OpX 69 h' s.2 (.slice s.1 s3.length s3.length) s3) (fun s => [(2, true, .slice none 0 0), (6, true, .slice s.1 s3.length s3.length)]) (fun s => (List.flatten [s.2] : List Blk)) ?_ (fun J3 => ?_)
    ·
      rintro ⟨a3_0, a3_1⟩ h3 e3 w3 f3_0
      replace hF := hK3
      refine go_seq ?_
      refine go_region ?_
      refine gM rfl rfl ?_
      refine gA rfl rfl ?_
      refine go_nil ?_
      refine gs_accpub .z f3_0 (fun h4 e4 w4 f4_ => ?_) rfl
      obtain rfl := someI hF
      exact g_ret (rst rfl rs0) (fun h1 hf hs => ⟨(e1.trans (e2.trans (e3.trans (e4.trans hs.hext)))), ⟨_, _, rfl, (f4_.ext hs.hext.kn)⟩⟩)
    ·
      refine go_block ?_
      refine go_loop (α := (List (List OpX)) × Nat × (List OpX) × Option Addr × List Blk × Heap) (fun a => a.1 = List.drop a.2.1 p0 ∧ HExt h2 a.2.2.2.2.2 ∧ Wf a.2.2.2.2.2 ∧ F_slices_Concat_L1 a.1 a.2.1 a.2.2.1 = some s3 ∧ AccR R_OpX 69 a.2.2.2.2.2 a.2.2.2.2.1 (.slice a.2.2.2.1 a.2.2.1.length a.2.2.1.length) a.2.2.1) (fun a => a.1.length) (fun a => [(2, true, .slice none 0 0), (6, true, .slice a.2.2.2.1 a.2.2.1.length a.2.2.1.length), (25, true, .slice a0_0 p0.length c0_0), (26, true, .int .i64 (p0.length : Int)), (27, true, .int .i64 (a.2.1 : Int))]) (fun a => (List.flatten [a.2.2.2.2.1] : List Blk)) (fun a => a.2.2.2.2.2) ?_ (p0, 0, ([] : List OpX), q2, t2, h2) ⟨rfl, HExt.refl _, w2, hF, f2_⟩ (Sub.cons (Sub.cons (Sub.cons (Sub.cons (Sub.cons (Sub.nil _) rfl) rfl) rfl) rfl) rfl) rfl rfl
      rintro ⟨r5, i5, y5_0, a5_0, a5_1, h5⟩ ⟨hr5, e5, w5, hF, f5_0⟩ ih5
      rcases r5 with _ | ⟨z5, r5⟩
      ·
        have hi5 := drop_nil hr5
        rw [F_slices_Concat_L1.eq_1] at hF
        refine go_seq ?_
        refine go_region ?_
        refine gr rfl (r_bin (ot rfl) (ot rfl) rfl) ?_
        refine go_cast (.bool false) (congrArg Value.bool (decide_eq_false hi5)) ?_
        refine go_nil ?_
        refine go_seq ?_
        refine g_cond (b := false) (ot rfl) (fun hc6 => ?_) (fun hc6 => ?_)
        · cases hc6
        refine go_exit rfl ?_
        obtain rfl := someI hF
        exact Goes.weak (J3 (a5_0, a5_1) _ e5 w5 f5_0) (Sub.cons (Sub.cons (Sub.nil _) rfl) rfl)
      ·
        obtain ⟨hi5, hx5, hr5⟩ := drop_cons hr5
        have hb5 := (((f0_0.ext e1.kn).ext e2.kn).ext e5.kn).1
        rw [F_slices_Concat_L1.eq_2] at hF
        refine go_seq ?_
        refine go_region ?_
        refine gr rfl (r_bin (ot rfl) (ot rfl) rfl) ?_
        refine go_cast (.bool true) (congrArg Value.bool (decide_eq_true (Int.ofNat_lt.mpr hi5))) ?_
        refine go_nil ?_
        refine go_seq ?_
        refine g_cond (b := true) (ot rfl) (fun hc7 => ?_) (fun hc7 => ?_)
        rotate_left
        · cases hc7
        refine go_skip ?_
        refine go_seq ?_
        refine go_block ?_
        refine go_seq ?_
        refine go_region ?_
        obtain ⟨q8, row8, i8, cl8, rc8, sp8⟩ := ix (ik := .i64) (cap := c0_0) (E := EE) (((f0_0.ext e1.kn).ext e2.kn).ext e5.kn) ((getI_nat _ _).trans hx5) ut_112 sz_25 rfl
        obtain ⟨a8_0, c8_0, rfl, f8_0⟩ := rc8
        refine gr rfl (r_ia (ot rfl) (ot rfl) i8) ?_
        refine gr rfl (r_load (ot rfl) (v := .slice a8_0 z5.length c8_0) (lo_e (fun hf kn => ld_one ag_25 (kn.cellsAt cl8)))) ?_
        refine gA rfl rfl ?_
        refine go_nil ?_
        refine go_region ?_
        refine gM rfl rfl ?_
        refine gM rfl rfl ?_
        replace hF := obind hF
        obtain ⟨x9, hx9, hF⟩ := hF
        obtain ⟨hr9, rfl⟩ := appL_some hx9
        obtain ⟨rw9, hw9, hq9⟩ := RL.first f8_0 (by decide)
        refine gs_app (rows2 := rw9) (R := R_OpX) rfl (os1 (ot rfl) (os1 (ot rfl) os0)) rfl ut_25 sz_69 rfl (by decide) by_69 zo_69 rfl zs_25_25 rfl rfl (first_e hq9 (fun h' kn => kn.firstV hq9)) hw9 f5_0 hr9 (fun p9_ tl9 f9_ => ?_)
        refine gA rfl rfl ?_
        refine go_nil ?_
        refine go_endb ?_
        refine go_region ?_
        refine gr rfl (r_bin (ot rfl) (oc rfl) rfl) ?_
        refine gM rfl rfl ?_
        refine go_nil ?_
        refine go_re 27 (v2 := .int .i64 ((i5 + 1 : Nat) : Int)) rfl (wrap_succ hi5 hb5) ?_
        exact Goes.weak (ih5 (r5, i5 + 1, (y5_0 ++ z5), p9_, tl9, h5) ⟨hr5, e5, w5, hF, f9_⟩ (Nat.lt_succ_self _)) (Sub.cons (Sub.cons (Sub.cons (Sub.cons (Sub.cons (Sub.nil _) rfl) rfl) rfl) rfl) rfl)
  ·
    refine go_block ?_
    refine go_loop (α := (List (List OpX)) × Nat × Int × Heap) (fun a => a.1 = List.drop a.2.1 p0 ∧ HExt h a.2.2.2 ∧ Wf a.2.2.2 ∧ F_slices_Concat_L2 a.1 a.2.1 a.2.2.1 = some s1) (fun a => a.1.length) (fun a => [(0, true, .slice a0_0 p0.length c0_0), (2, true, .slice none 0 0), (3, true, .int .i64 a.2.2.1), (9, true, .slice a0_0 p0.length c0_0), (10, true, .int .i64 (p0.length : Int)), (11, true, .int .i64 (a.2.1 : Int))]) (fun a => (List.flatten [] : List Blk)) (fun a => a.2.2.2) ?_ (p0, 0, 0, h) ⟨rfl, HExt.refl _, hw, hF⟩ (Sub.cons (Sub.cons (Sub.cons (Sub.cons (Sub.cons (Sub.cons (Sub.nil _) rfl) rfl) rfl) rfl) rfl) rfl) rfl rfl
    rintro ⟨r10, i10, y10_0, h10⟩ ⟨hr10, e10, w10, hF⟩ ih10
    rcases r10 with _ | ⟨z10, r10⟩
    ·
      have hi10 := drop_nil hr10
      rw [F_slices_Concat_L2.eq_1] at hF
      refine go_seq ?_
      refine go_region ?_
      refine gr rfl (r_bin (ot rfl) (ot rfl) rfl) ?_
      refine go_cast (.bool false) (congrArg Value.bool (decide_eq_false hi10)) ?_
      refine go_nil ?_
      refine go_seq ?_
      refine g_cond (b := false) (ot rfl) (fun hc11 => ?_) (fun hc11 => ?_)
      · cases hc11
      refine go_exit rfl ?_
      obtain rfl := someI hF
      exact Goes.weak (J1 () _ e10 w10 trivial) (Sub.cons (Sub.cons (Sub.cons (Sub.nil _) rfl) rfl) rfl)
    ·
      obtain ⟨hi10, hx10, hr10⟩ := drop_cons hr10
      have hb10 := (f0_0.ext e10.kn).1
      rw [F_slices_Concat_L2.eq_2] at hF
      refine go_seq ?_
      refine go_region ?_
      refine gr rfl (r_bin (ot rfl) (ot rfl) rfl) ?_
      refine go_cast (.bool true) (congrArg Value.bool (decide_eq_true (Int.ofNat_lt.mpr hi10))) ?_
      refine go_nil ?_
      refine go_seq ?_
      refine g_cond (b := true) (ot rfl) (fun hc12 => ?_) (fun hc12 => ?_)
      rotate_left
      · cases hc12
      refine go_skip ?_
      refine go_seq ?_
      refine go_block ?_
      refine go_seq ?_
      refine go_region ?_
      obtain ⟨q13, row13, i13, cl13, rc13, sp13⟩ := ix (ik := .i64) (cap := c0_0) (E := EE) (f0_0.ext e10.kn) ((getI_nat _ _).trans hx10) ut_112 sz_25 rfl
      obtain ⟨a13_0, c13_0, rfl, f13_0⟩ := rc13
      refine gr rfl (r_ia (ot rfl) (ot rfl) i13) ?_
      refine gr rfl (r_load (ot rfl) (v := .slice a13_0 z10.length c13_0) (lo_e (fun hf kn => ld_one ag_25 (kn.cellsAt cl13)))) ?_
      refine gA rfl rfl ?_
      refine go_nil ?_
      refine go_seq ?_
      refine go_region ?_
      refine gM rfl rfl ?_
      refine gM rfl rfl ?_
      refine gr rfl (r_len rfl (os1 (ot rfl) os0) (fun _ _ => ln_25)) ?_
      refine gr rfl (r_bin (ot rfl) (ot rfl) rfl) ?_
      refine gA rfl rfl ?_
      refine go_nil ?_
      refine go_seq ?_
      refine go_region ?_
      refine gM rfl rfl ?_
      refine gr rfl (r_bin (ot rfl) (oc rfl) rfl) ?_
      refine go_nil ?_
      refine g_cond (b := (decide ((IntKind.i64.wrap (y10_0 + (z10.length : Int))) < 0))) (ot rfl) (fun hc14 => ?_) (fun hc14 => ?_)
      ·
        replace hF := ifT hc14 hF
        refine go_region ?_
        cases hF
      ·
        replace hF := ifF hc14 hF
        refine go_skip ?_
        refine go_endb ?_
        refine go_region ?_
        refine gr rfl (r_bin (ot rfl) (oc rfl) rfl) ?_
        refine gM rfl rfl ?_
        refine go_nil ?_
        refine go_re 11 (v2 := .int .i64 ((i10 + 1 : Nat) : Int)) rfl (wrap_succ hi10 hb10) ?_
        exact Goes.weak (ih10 (r10, i10 + 1, (IntKind.i64.wrap (y10_0 + (z10.length : Int))), h10) ⟨hr10, e10, w10, hF⟩ (Nat.lt_succ_self _)) (Sub.cons (Sub.cons (Sub.cons (Sub.cons (Sub.cons (Sub.cons (Sub.nil _) rfl) rfl) rfl) rfl) rfl) rfl)
theorem s_txn_once {h : Heap} (hw : Wf h) (p0 : (List ByteArray)) {qA0 : Option Addr} {tA0 : List Blk} (fA0 : AccR (RS_ 9) 9 h tA0 (.slice qA0 p0.length p0.length) p0) {r : (List ByteArray)} (hF : F_txn_once p0 = some r) :
    EvO EE 39 [.slice qA0 p0.length p0.length] [tA0] h (fun v S h1 => ∃ a0 c0, v = .slice a0 r.length c0 ∧ S = [] ∧ RL (RS_ 9) h1 a0 c0 r) := by
  unfold F_txn_once at hF
  refine evo_of rfl at_39 rfl rfl ?_
  refine go_seq ?_
  refine go_region ?_
  refine gAc rfl rfl ?_
  refine go_nil ?_
  refine go_seq ?_
  refine go_region ?_
  refine gM rfl rfl ?_
  replace hF := obind hF
  obtain ⟨x1, hx1, hF⟩ := hF
  have hl1 := sortB_len hx1
  refine gs_call EE_fr hw (.cons .z .nil) (fun _ h => by cases h; rfl) of (os1 (ot rfl) os0) hb_60 (by exact evo_sortB rfl fA0 hx1) ?_
  rintro v1 S1 h1 e1 w1 ⟨t1, rfl, rfl, f1_⟩
  simp only [List.cons_append, List.nil_append]
  refine go_re 0 (v2 := .slice qA0 x1.length x1.length) rfl (by rw [hl1]) ?_
  refine go_re 3 (v2 := .slice qA0 x1.length x1.length) rfl (by rw [hl1]) ?_
  refine go_nil ?_
  refine go_seq ?_
  refine go_region ?_
  refine gM rfl rfl ?_
  replace hF := obind hF
  obtain ⟨x2, hx2, hF⟩ := hF
  refine gs_call EE_fr w1 (.cons .z .nil) (fun _ h => by cases h; rfl) of (os1 (ot rfl) os0) hb_61 (by exact evo_compB rfl comp_le f1_ hx2) ?_
  rintro v2 S2 h2 e2 w2 ⟨a2_, c2_, rfl, rfl, f2_⟩
  simp only [List.cons_append, List.nil_append]
  refine gA rfl rfl ?_
  refine go_nil ?_
  obtain rfl := someI hF
  exact g_ret (rst rfl rs0) (fun h1 hf hs => ⟨[], _, hf, (e1.trans e2), w2, hs, nd0, ⟨_, _, rfl, rfl, f2_⟩⟩)
theorem s_txn_Keys {h : Heap} (hw : Wf h) (p0 : TReq) {a0_4 : Option Addr} {c0_4 : Nat} {a0_5 : Option Addr} {c0_5 : Nat} {a0_6 : Option Addr} {c0_6 : Nat} (f0_4 : RL R_Cmp h a0_4 c0_4 p0.Cmps) (f0_5 : RL R_OpX h a0_5 c0_5 p0.Then) (f0_6 : RL R_OpX h a0_6 c0_6 p0.Else) {r : (List ByteArray)} (hF : F_txn_Keys p0 = some r) :
    Ev EE 19 [.agg #[.int .i64 p0.Kind, .string p0.R.From, .string p0.R.To, .int .i64 p0.Rev, .slice a0_4 p0.Cmps.length c0_4, .slice a0_5 p0.Then.length c0_5, .slice a0_6 p0.Else.length c0_6]] h (fun v h1 => ∃ a0 c0, v = .slice a0 r.length c0 ∧ RL (RS_ 9) h1 a0 c0 r) := by
  unfold F_txn_Keys at hF
  refine ev_of hw rfl at_19 rfl rfl (go_seg0 ?_)
  refine go_seq ?_
  refine go_region ?_
  refine gs_box rfl (ot rfl) rfl ?_; intro b1_1
  refine gAc rfl rfl ?_
  refine go_nil ?_
  refine go_seq ?_
  refine go_region ?_
  refine gAc rfl rfl ?_
  refine go_nil ?_
  refine go_seq ?_
  refine go_seq ?_
  refine go_region ?_
  refine gr rfl (r_fa (ot rfl) (fa_27_3 _ _)) ?_
  refine gr rfl (r_load (ot rfl) (lm_s (mem_seg 0 rfl) ag_24 rfl)) ?_
  refine gr rfl (r_len rfl (os1 (ot rfl) os0) (fun _ _ => ln_24)) ?_
  refine gMc rfl rfl ?_
  refine go_nil ?_
  replace hF := obind hF
  obtain ⟨s2, hF, hK2⟩ := hF
  refine go_joinc (β := Option Addr × List Blk) (fun s h' => AccR (RS_ 9) 9 h' s.2 (.slice s.1 s2.length s2.length) s2) (fun s => [(1, true, .pointer (some ⟨b1_1, 0, none⟩)), (2, true, .slice none 0 0), (3, true, .slice s.1 s2.length s2.length)]) (fun s => (List.flatten [s.2, [⟨b1_1, .cells [.int .i64 p0.Kind, .string p0.R.From, .string p0.R.To, .int .i64 p0.Rev, .slice a0_4 p0.Cmps.length c0_4, .slice a0_5 p0.Then.length c0_5, .slice a0_6 p0.Else.length c0_6] 27⟩]] : List Blk)) ?_ (fun J2 => ?_)
  ·
    rintro ⟨a2_0, a2_1⟩ h2 e2 w2 f2_0
    replace hF := hK2
    refine go_seq ?_
    refine go_seq ?_
    refine go_region ?_
    refine gr rfl (r_fa (ot rfl) (fa_27_4 _ _)) ?_
    refine gr rfl (r_load (ot rfl) (lm_s (mem_seg 1 rfl) ag_25 rfl)) ?_
    refine gr rfl (r_fa (ot rfl) (fa_27_5 _ _)) ?_
    refine gr rfl (r_load (ot rfl) (lm_s (mem_seg 1 rfl) ag_25 rfl)) ?_
    refine gs_bslice (cs := [.slice a0_5 p0.Then.length c0_5, .slice a0_6 p0.Else.length c0_6]) rfl (op1 (ot rfl) (op1 (ot rfl) op0)) ut_112 sz_25 zo_25 rfl rfl ?_; intro b25_3
    refine gs_pub .z (fun h5 e5 w5 hb5 => ?_)
    have f5_ : RL (Rep.sl R_OpX 25) h5 (some ⟨b25_3, 0, none⟩) 2 ([p0.Then, p0.Else] : List (List OpX)) := RL.of_blk (R := (Rep.sl R_OpX 25)) (rows := [[.slice a0_5 p0.Then.length c0_5], [.slice a0_6 p0.Else.length c0_6]]) (.inl rfl) hb5 rfl (Rws.cons (x := p0.Then) (sl_C ((f0_5.ext e2.kn).ext e5.kn)) (Rws.cons (x := p0.Else) (sl_C ((f0_6.ext e2.kn).ext e5.kn)) Rws.nil)) (by simp) (by simp) rfl
    replace hF := obind hF
    obtain ⟨x4, hx4, hF⟩ := hF
    refine g_call EE_fr (fun _ h => by cases h; rfl) of (os1 (ot rfl) os0) hb_38 (fun hf kn w => by exact s_slices_Concat w ([p0.Then, p0.Else] : List (List OpX)) (f5_.ext kn) hx4) ?_
    rintro v4 h4 e4 w4 ⟨a4_0, c4_0, rfl, f4_0⟩
    refine gr rfl (r_len rfl (os1 (ot rfl) os0) (fun _ _ => ln_25)) ?_
    refine gMc rfl rfl ?_
    refine go_nil ?_
    replace hF := obind hF
    obtain ⟨s6, hF, hK6⟩ := hF
    refine go_joinc (β := Option Addr × List Blk) (fun s h' => AccR (RS_ 9) 9 h' s.2 (.slice s.1 s6.length s6.length) s6) (fun s => [(2, true, .slice none 0 0), (3, true, .slice s.1 s6.length s6.length)]) (fun s => (List.flatten [s.2, [⟨b1_1, .cells [.int .i64 p0.Kind, .string p0.R.From, .string p0.R.To, .int .i64 p0.Rev, .slice a0_4 p0.Cmps.length c0_4, .slice a0_5 p0.Then.length c0_5, .slice a0_6 p0.Else.length c0_6] 27⟩]] : List Blk)) ?_ (fun J6 => ?_)
    ·
      rintro ⟨a6_0, a6_1⟩ h6 e6 w6 f6_0
      replace hF := hK6
      refine go_seq ?_
      refine go_region ?_
      refine gM rfl rfl ?_
      replace hF := obind hF
      obtain ⟨x7, hx7, hF⟩ := hF
      refine gs_call EE_fr w6 (.cons .z .nil) (fun _ h => by cases h; rfl) of (os1 (ot rfl) os0) hb_39 (by exact s_txn_once w6 s6 f6_0 hx7) ?_
      rintro v7 S7 h7 e7 w7 ⟨a7_0, c7_0, rfl, rfl, f7_0⟩
      simp only [List.cons_append, List.nil_append]
      refine gA rfl rfl ?_
      refine go_nil ?_
      obtain rfl := someI hF
      exact g_ret (rst rfl rs0) (fun h1 hf hs => ⟨(e2.trans (e5.trans (e4.trans (e6.trans (e7.trans hs.hext))))), ⟨_, _, rfl, (f7_0.ext hs.hext.kn)⟩⟩)
    ·
      refine go_block ?_
      refine go_loop (α := (List OpX) × Nat × (List ByteArray) × Option Addr × List Blk × Heap) (fun a => a.1 = List.drop a.2.1 x4 ∧ HExt h4 a.2.2.2.2.2 ∧ Wf a.2.2.2.2.2 ∧ F_txn_Keys_L1 a.1 a.2.1 a.2.2.1 = some s6 ∧ AccR (RS_ 9) 9 a.2.2.2.2.2 a.2.2.2.2.1 (.slice a.2.2.2.1 a.2.2.1.length a.2.2.1.length) a.2.2.1) (fun a => a.1.length) (fun a => [(2, true, .slice none 0 0), (3, true, .slice a.2.2.2.1 a.2.2.1.length a.2.2.1.length), (26, true, .slice a4_0 x4.length c4_0), (27, true, .int .i64 (x4.length : Int)), (28, true, .int .i64 (a.2.1 : Int))]) (fun a => (List.flatten [a.2.2.2.2.1, [⟨b1_1, .cells [.int .i64 p0.Kind, .string p0.R.From, .string p0.R.To, .int .i64 p0.Rev, .slice a0_4 p0.Cmps.length c0_4, .slice a0_5 p0.Then.length c0_5, .slice a0_6 p0.Else.length c0_6] 27⟩]] : List Blk)) (fun a => a.2.2.2.2.2) ?_ (x4, 0, s2, a2_0, a2_1, h4) ⟨rfl, HExt.refl _, w4, hF, ((f2_0.ext e5.kn).ext e4.kn)⟩ (Sub.cons (Sub.cons (Sub.cons (Sub.cons (Sub.cons (Sub.nil _) rfl) rfl) rfl) rfl) rfl) rfl rfl
      rintro ⟨r8, i8, y8_0, a8_0, a8_1, h8⟩ ⟨hr8, e8, w8, hF, f8_0⟩ ih8
      rcases r8 with _ | ⟨z8, r8⟩
      ·
        have hi8 := drop_nil hr8
        rw [F_txn_Keys_L1.eq_1] at hF
        refine go_seq ?_
        refine go_region ?_
        refine gr rfl (r_bin (ot rfl) (ot rfl) rfl) ?_
        refine go_cast (.bool false) (congrArg Value.bool (decide_eq_false hi8)) ?_
        refine go_nil ?_
        refine go_seq ?_
        refine g_cond (b := false) (ot rfl) (fun hc9 => ?_) (fun hc9 => ?_)
        · cases hc9
        refine go_exit rfl ?_
        obtain rfl := someI hF
        exact Goes.weak (J6 (a8_0, a8_1) _ e8 w8 f8_0) (Sub.cons (Sub.cons (Sub.nil _) rfl) rfl)
      ·
        obtain ⟨hi8, hx8, hr8⟩ := drop_cons hr8
        have hb8 := (f4_0.ext e8.kn).1
        rw [F_txn_Keys_L1.eq_2] at hF
        refine go_seq ?_
        refine go_region ?_
        refine gr rfl (r_bin (ot rfl) (ot rfl) rfl) ?_
        refine go_cast (.bool true) (congrArg Value.bool (decide_eq_true (Int.ofNat_lt.mpr hi8))) ?_
        refine go_nil ?_
        refine go_seq ?_
        refine g_cond (b := true) (ot rfl) (fun hc10 => ?_) (fun hc10 => ?_)
        rotate_left
        · cases hc10
        refine go_skip ?_
        refine go_seq ?_
        refine go_block ?_
        refine go_seq ?_
        refine go_region ?_
        obtain ⟨q11, row11, i11, cl11, rc11, sp11⟩ := ix (ik := .i64) (cap := c4_0) (E := EE) (f4_0.ext e8.kn) ((getI_nat _ _).trans hx8) ut_25 sz_69 rfl
        obtain rfl := rc11
        refine gr rfl (r_ia (ot rfl) (ot rfl) i11) ?_
        refine gr rfl (r_load (ot rfl) (v := .agg #[.string z8.key, .string z8.val, .bool z8.del]) (lo_e (fun hf kn => ld_of (r := [.string z8.key, .string z8.val, .bool z8.del]) ag_69 sz_69 (kn.cellsAt cl11)))) ?_
        refine gs_alloc rfl zo_69 rfl ?_; intro b7_12
        refine gs_store (ot rfl) (ot rfl) sz_69 rfl rfl rfl rfl rfl .z ?_
        refine go_nil ?_
        refine go_region ?_
        refine gM rfl rfl ?_
        refine gr rfl (r_fa (ot rfl) (fa_69_0 _ _)) ?_
        refine gr rfl (r_load (ot rfl) (lm_s (mem_seg 0 rfl) ag_9 rfl)) ?_
        refine gs_bslice (cs := [.string z8.key]) rfl (op1 (ot rfl) op0) ut_49 sz_9 zo_9 rfl rfl ?_; intro b35_13
        replace hF := obind hF
        obtain ⟨x14, hx14, hF⟩ := hF
        obtain ⟨hr14, rfl⟩ := appL_some hx14
        refine gs_front (.s (.s (.z))) ?_
        refine gs_app (rows2 := [[.string z8.key]]) (R := (RS_ 9)) rfl (os1 (ot rfl) (os1 (ot rfl) os0)) rfl ut_49 sz_9 rfl (by decide) by_9 zo_9 rfl zs_49_49 rfl rfl (first_m (mem_seg 1 rfl) rfl (by decide)) (Rws.one (x := z8.key) rfl) f8_0 hr14 (fun p14_ tl14 f14_ => ?_)
        refine gA rfl rfl ?_
        refine go_nil ?_
        refine go_endb ?_
        refine go_region ?_
        refine gr rfl (r_bin (ot rfl) (oc rfl) rfl) ?_
        refine gM rfl rfl ?_
        refine go_nil ?_
        refine gs_sub (.cons_cons _ (.cons _ (.cons _ (.cons_cons _ (.refl _))))) ?_
        refine go_re 28 (v2 := .int .i64 ((i8 + 1 : Nat) : Int)) rfl (wrap_succ hi8 hb8) ?_
        exact Goes.weak (ih8 (r8, i8 + 1, (y8_0 ++ ([z8.key] : List ByteArray)), p14_, tl14, h8) ⟨hr8, e8, w8, hF, f14_⟩ (Nat.lt_succ_self _)) (Sub.cons (Sub.cons (Sub.cons (Sub.cons (Sub.cons (Sub.nil _) rfl) rfl) rfl) rfl) rfl)
  ·
    refine go_block ?_
    refine go_loop (α := (List Cmp) × Nat × (List ByteArray) × Option Addr × List Blk × Heap) (fun a => a.1 = List.drop a.2.1 p0.Cmps ∧ HExt h a.2.2.2.2.2 ∧ Wf a.2.2.2.2.2 ∧ F_txn_Keys_L2 a.1 a.2.1 a.2.2.1 = some s2 ∧ AccR (RS_ 9) 9 a.2.2.2.2.2 a.2.2.2.2.1 (.slice a.2.2.2.1 a.2.2.1.length a.2.2.1.length) a.2.2.1) (fun a => a.1.length) (fun a => [(1, true, .pointer (some ⟨b1_1, 0, none⟩)), (2, true, .slice none 0 0), (3, true, .slice a.2.2.2.1 a.2.2.1.length a.2.2.1.length), (9, true, .slice a0_4 p0.Cmps.length c0_4), (10, true, .int .i64 (p0.Cmps.length : Int)), (11, true, .int .i64 (a.2.1 : Int))]) (fun a => (List.flatten [a.2.2.2.2.1, [⟨b1_1, .cells [.int .i64 p0.Kind, .string p0.R.From, .string p0.R.To, .int .i64 p0.Rev, .slice a0_4 p0.Cmps.length c0_4, .slice a0_5 p0.Then.length c0_5, .slice a0_6 p0.Else.length c0_6] 27⟩]] : List Blk)) (fun a => a.2.2.2.2.2) ?_ (p0.Cmps, 0, ([] : List ByteArray), none, [], h) ⟨rfl, HExt.refl _, hw, hF, (AccR.nil _ _ _)⟩ (Sub.cons (Sub.cons (Sub.cons (Sub.cons (Sub.cons (Sub.cons (Sub.nil _) rfl) rfl) rfl) rfl) rfl) rfl) rfl rfl
    rintro ⟨r15, i15, y15_0, a15_0, a15_1, h15⟩ ⟨hr15, e15, w15, hF, f15_0⟩ ih15
    rcases r15 with _ | ⟨z15, r15⟩
    ·
      have hi15 := drop_nil hr15
      rw [F_txn_Keys_L2.eq_1] at hF
      refine go_seq ?_
      refine go_region ?_
      refine gr rfl (r_bin (ot rfl) (ot rfl) rfl) ?_
      refine go_cast (.bool false) (congrArg Value.bool (decide_eq_false hi15)) ?_
      refine go_nil ?_
      refine go_seq ?_
      refine g_cond (b := false) (ot rfl) (fun hc16 => ?_) (fun hc16 => ?_)
      · cases hc16
      refine go_exit rfl ?_
      obtain rfl := someI hF
      exact Goes.weak (J2 (a15_0, a15_1) _ e15 w15 f15_0) (Sub.cons (Sub.cons (Sub.cons (Sub.nil _) rfl) rfl) rfl)
    ·
      obtain ⟨hi15, hx15, hr15⟩ := drop_cons hr15
      have hb15 := (f0_4.ext e15.kn).1
      rw [F_txn_Keys_L2.eq_2] at hF
      refine go_seq ?_
      refine go_region ?_
      refine gr rfl (r_bin (ot rfl) (ot rfl) rfl) ?_
      refine go_cast (.bool true) (congrArg Value.bool (decide_eq_true (Int.ofNat_lt.mpr hi15))) ?_
      refine go_nil ?_
      refine go_seq ?_
      refine g_cond (b := true) (ot rfl) (fun hc17 => ?_) (fun hc17 => ?_)
      rotate_left
      · cases hc17
      refine go_skip ?_
      refine go_seq ?_
      refine go_block ?_
      refine go_seq ?_
      refine go_region ?_
      obtain ⟨q18, row18, i18, cl18, rc18, sp18⟩ := ix (ik := .i64) (cap := c0_4) (E := EE) (f0_4.ext e15.kn) ((getI_nat _ _).trans hx15) ut_24 sz_65 rfl
      obtain rfl := rc18
      refine gr rfl (r_ia (ot rfl) (ot rfl) i18) ?_
      refine gr rfl (r_load (ot rfl) (v := .agg #[.int .i64 z15.kind, .string z15.key, .string z15.val, .int .i64 z15.rev]) (lo_e (fun hf kn => ld_of (r := [.int .i64 z15.kind, .string z15.key, .string z15.val, .int .i64 z15.rev]) ag_65 sz_65 (kn.cellsAt cl18)))) ?_
      refine gs_alloc rfl zo_65 rfl ?_; intro b5_19
      refine gs_store (ot rfl) (ot rfl) sz_65 rfl rfl rfl rfl rfl .z ?_
      refine go_nil ?_
      refine go_region ?_
      refine gM rfl rfl ?_
      refine gr rfl (r_fa (ot rfl) (fa_65_1 _ _)) ?_
      refine gr rfl (r_load (ot rfl) (lm_s (mem_seg 0 rfl) ag_9 rfl)) ?_
      refine gs_bslice (cs := [.string z15.key]) rfl (op1 (ot rfl) op0) ut_49 sz_9 zo_9 rfl rfl ?_; intro b18_20
      replace hF := obind hF
      obtain ⟨x21, hx21, hF⟩ := hF
      obtain ⟨hr21, rfl⟩ := appL_some hx21
      refine gs_front (.s (.s (.z))) ?_
      refine gs_app (rows2 := [[.string z15.key]]) (R := (RS_ 9)) rfl (os1 (ot rfl) (os1 (ot rfl) os0)) rfl ut_49 sz_9 rfl (by decide) by_9 zo_9 rfl zs_49_49 rfl rfl (first_m (mem_seg 1 rfl) rfl (by decide)) (Rws.one (x := z15.key) rfl) f15_0 hr21 (fun p21_ tl21 f21_ => ?_)
      refine gA rfl rfl ?_
      refine go_nil ?_
      refine go_endb ?_
      refine go_region ?_
      refine gr rfl (r_bin (ot rfl) (oc rfl) rfl) ?_
      refine gM rfl rfl ?_
      refine go_nil ?_
      refine gs_sub (.cons_cons _ (.cons _ (.cons _ (.cons_cons _ (.refl _))))) ?_
      refine go_re 11 (v2 := .int .i64 ((i15 + 1 : Nat) : Int)) rfl (wrap_succ hi15 hb15) ?_
      exact Goes.weak (ih15 (r15, i15 + 1, (y15_0 ++ ([z15.key] : List ByteArray)), p21_, tl21, h15) ⟨hr15, e15, w15, hF, f21_⟩ (Nat.lt_succ_self _)) (Sub.cons (Sub.cons (Sub.cons (Sub.cons (Sub.cons (Sub.cons (Sub.nil _) rfl) rfl) rfl) rfl) rfl) rfl)
end Go.Proofs.Ytadfhabapgipbaa.V
