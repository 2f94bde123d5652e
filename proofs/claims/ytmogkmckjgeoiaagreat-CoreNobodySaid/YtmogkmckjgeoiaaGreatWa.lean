/- Walks.
   No condition: these are laws of the clean machine and of this program. -/
import Derived.Test.YtmogkmckjgeoiaaGreatPT
namespace Go.Proofs.YtmogkmckjgeoiaaGreat.V
open Go
set_option linter.unusedVariables false
set_option linter.unusedSimpArgs false
set_option maxRecDepth 100000
set_option maxHeartbeats 4000000
theorem s_key_May {h : Heap} (hw : Wf h) (p0 : ByteArray)   {r : Bool} (hF : F_key_May p0 = some r) :
 Ev EE 49 [.string p0] h (fun v _ => v = .bool r) := by
 unfold F_key_May at hF
 refine ev_of hw rfl at_49 rfl rfl (go_seg0 ?_)
 refine go_seq ?_
 refine go_region ?_
 refine gAc rfl rfl ?_
 refine go_nil ?_
 refine go_seq ?_
 refine go_region ?_
 refine gM rfl rfl ?_
 refine gr rfl (r_bin (ot rfl) (oc rfl) rfl) ?_
 refine gM rfl rfl ?_
 refine grt rfl rfl rfl rfl (r_move (ot rfl)) ?_
 refine grt rfl rfl rfl rfl (r_len rfl (os1 (og rfl id) os0) (fun _ _ => ln_9)) ?_
 refine grt rfl rfl rfl rfl (r_bin (og rfl id) (oc rfl) rfl) ?_
 refine gr rfl (r_pickb (ot rfl) (og rfl id) (oc rfl)) ?_
 refine gA rfl rfl ?_
 refine go_nil ?_
 obtain rfl := someI hF
 exact g_ret (rst rfl rs0) (fun h1 hf hs => ⟨hs.hext, rfl⟩)
theorem s_txn_compares_1 {h : Heap} (hw : Wf h) (p0 : TCmp)   {r : Bool} (hF : F_txn_compares_1 p0 = some r) :
 Ev EE 48 [.agg #[.int .i64 p0.Kind, .string p0.Key, .string p0.Val, .int .i64 p0.Rev]] h (fun v _ => v = .bool r) := by
 unfold F_txn_compares_1 at hF
 refine ev_of hw rfl at_48 rfl rfl (go_seg0 ?_)
 refine go_seq ?_
 refine go_region ?_
 refine gs_box rfl (ot rfl) rfl ?_; intro b1_2
 refine gAc rfl rfl ?_
 refine go_nil ?_
 refine go_seq ?_
 refine go_region ?_
 refine gr rfl (r_fa (ot rfl) (fa_86_1 _ _)) ?_
 refine gr rfl (r_load (ot rfl) (lm_s (mem_seg 0 rfl) ag_9 rfl)) ?_
 replace hF := obind hF
 obtain ⟨x3, hx3, hF⟩ := hF
 refine g_callp (v := .bool x3) EE_fr rfl of (os1 (ot rfl) os0) hb_49 (fun _ => rfl) (fun hf kn w => by exact s_key_May w p0.Key  hx3) ?_
 refine gr rfl (r_un (ot rfl) rfl) ?_
 refine gM rfl rfl ?_
 refine grf rfl rfl rfl rfl (r_fa (ot rfl) (fa_86_0 _ _)) ?_
 refine grf rfl rfl rfl rfl (r_load (og rfl id) (lm_s (mem_seg 0 rfl) ag_3 rfl)) ?_
 refine grf rfl rfl rfl rfl (r_bin (og rfl id) (oc rfl) rfl) ?_
 refine grf rfl rfl rfl rfl (r_move (og rfl id)) ?_
 refine grt' rfl rfl rfl rfl (r_fa (ot rfl) (fa_86_0 _ _)) ?_
 refine grt' rfl rfl rfl rfl (r_load (og rfl id) (lm_s (mem_seg 0 rfl) ag_3 rfl)) ?_
 refine grt' rfl rfl rfl rfl (r_bin (og rfl id) (oc rfl) rfl) ?_
 refine grf rfl rfl rfl rfl (r_pickb (og rfl id) (og rfl id) (oc rfl)) ?_
 refine gr rfl (r_pickb (ot rfl) (oc rfl) (og rfl id)) ?_
 refine gM rfl rfl ?_
 refine grf rfl rfl rfl rfl (r_fa (ot rfl) (fa_86_2 _ _)) ?_
 refine grf rfl rfl rfl rfl (r_load (og rfl id) (lm_s (mem_seg 0 rfl) ag_9 rfl)) ?_
 refine grf rfl rfl rfl rfl (r_len rfl (os1 (og rfl id) os0) (fun _ _ => ln_9)) ?_
 refine grf rfl rfl rfl rfl (r_bin (og rfl id) (oc rfl) rfl) ?_
 refine gr rfl (r_pickb (ot rfl) (oc rfl) (og rfl id)) ?_
 refine gM rfl rfl ?_
 refine grf rfl rfl rfl rfl (r_fa (ot rfl) (fa_86_3 _ _)) ?_
 refine grf rfl rfl rfl rfl (r_load (og rfl id) (lm_s (mem_seg 0 rfl) ag_3 rfl)) ?_
 refine grf rfl rfl rfl rfl (r_bin (og rfl id) (oc rfl) rfl) ?_
 refine gr rfl (r_pickb (ot rfl) (oc rfl) (og rfl id)) ?_
 refine gA rfl rfl ?_
 refine go_nil ?_
 obtain rfl := someI hF
 exact g_ret (rst rfl rs0) (fun h1 hf hs => ⟨hs.hext, rfl⟩)
theorem s_slices_IndexFunc_txn_compares_1 {h : Heap} (hw : Wf h) (p0 : (List TCmp)) {a0_0 : Option Addr} {c0_0 : Nat} (f0_0 : RL R_TCmp h a0_0 c0_0 p0) {r : Int} (hF : F_slices_IndexFunc_txn_compares_1 p0 = some r) :
 Ev EE 79 [.slice a0_0 p0.length c0_0, .func (.func 48) #[] #[]] h (fun v _ => v = .int .i64 r) := by
 unfold F_slices_IndexFunc_txn_compares_1 at hF
 refine ev_of hw rfl at_79 rfl rfl (go_seg0 ?_)
 refine go_seq ?_
 refine go_region ?_
 refine gAc rfl rfl ?_
 refine go_nil ?_
 refine go_seq ?_
 refine go_seq ?_
 refine go_region ?_
 refine gM rfl rfl ?_
 refine gr rfl (r_len rfl (os1 (ot rfl) os0) (fun _ _ => ln_24)) ?_
 refine gMc rfl rfl ?_
 refine go_nil ?_
 replace hF := obind hF
 obtain ⟨s3, hF, hK3⟩ := hF
 refine go_joinc (β := (Unit)) (fun s h' => s3 = .go s) (fun s => [(4, true, .int .i64 0)]) (fun s => (List.flatten [] : List Blk)) ?_ (fun J3 => ?_)
 ·
  rintro _ h3 e3 w3 hs3
  subst hs3
  replace hF := lpgo hK3
  refine go_seq ?_
  refine go_region ?_
  refine gAc rfl rfl ?_
  refine go_nil ?_
  obtain rfl := someI hF
  exact g_ret (rst rfl rs0) (fun h1 hf hs => ⟨(e3.trans hs.hext), rfl⟩)
 ·
  refine go_block ?_
  refine go_loop (α := (List TCmp) × Nat × Heap) (fun a => a.1 = List.drop a.2.1 p0 ∧ HExt h a.2.2 ∧ Wf a.2.2 ∧ F_slices_IndexFunc_txn_compares_1_L1 a.1 a.2.1 = some s3) (fun a => a.1.length) (fun a => [(0, true, .slice a0_0 p0.length c0_0), (1, true, .func (.func 48) #[] #[]), (4, true, .int .i64 0), (7, true, .int .i64 (p0.length : Int)), (8, true, .int .i64 (a.2.1 : Int))]) (fun a => (List.flatten [] : List Blk)) (fun a => a.2.2) ?_ (p0, 0, h) ⟨rfl, HExt.refl _, hw, hF⟩ (Sub.cons (Sub.cons (Sub.cons (Sub.cons (Sub.cons (Sub.nil _) rfl) rfl) rfl) rfl) rfl) rfl rfl
  rintro ⟨r4, i4, h4⟩ ⟨hr4, e4, w4, hF⟩ ih4
  rcases r4 with _ | ⟨z4, r4⟩
  ·
   have hi4 := drop_nil hr4
   rw [F_slices_IndexFunc_txn_compares_1_L1.eq_1] at hF
   refine go_seq ?_
   refine go_region ?_
   refine gr rfl (r_bin (ot rfl) (ot rfl) rfl) ?_
   refine go_cast (.bool false) (congrArg Value.bool (decide_eq_false hi4)) ?_
   refine go_nil ?_
   refine go_seq ?_
   refine g_cond (b := false) (ot rfl) (fun hc5 => ?_) (fun hc5 => ?_)
   ·
    cases hc5
   refine go_exit rfl ?_
   obtain rfl := someI hF
   exact Goes.weak (J3 () _ e4 w4 rfl) (Sub.cons (Sub.nil _) rfl)
  ·
   obtain ⟨hi4, hx4, hr4⟩ := drop_cons hr4
   have hb4 := (f0_0.ext e4.kn).1
   rw [F_slices_IndexFunc_txn_compares_1_L1.eq_2] at hF
   refine go_seq ?_
   refine go_region ?_
   refine gr rfl (r_bin (ot rfl) (ot rfl) rfl) ?_
   refine go_cast (.bool true) (congrArg Value.bool (decide_eq_true (Int.ofNat_lt.mpr hi4))) ?_
   refine go_nil ?_
   refine go_seq ?_
   refine g_cond (b := true) (ot rfl) (fun hc6 => ?_) (fun hc6 => ?_)
   rotate_left
   ·
    cases hc6
   refine go_skip ?_
   refine go_seq ?_
   refine go_block ?_
   refine go_seq ?_
   refine go_region ?_
   refine gM rfl rfl ?_
   refine gA rfl rfl ?_
   refine go_nil ?_
   refine go_seq ?_
   refine go_region ?_
   refine gM rfl rfl ?_
   refine gM rfl rfl ?_
   refine gM rfl rfl ?_
   obtain ⟨q7, row7, i7, cl7, rc7, sp7⟩ := ix (ik := .i64) (cap := c0_0) (E := EE) (f0_0.ext e4.kn) ((getI_nat _ _).trans hx4) ut_24 sz_86 rfl
   obtain rfl := rc7
   refine gr rfl (r_ia (ot rfl) (ot rfl) i7) ?_
   refine gr rfl (r_load (ot rfl) (v := .agg #[.int .i64 z4.Kind, .string z4.Key, .string z4.Val, .int .i64 z4.Rev]) (lo_e (fun hf kn => ld_of (r := [.int .i64 z4.Kind, .string z4.Key, .string z4.Val, .int .i64 z4.Rev]) ag_86 sz_86 (kn.cellsAt cl7)))) ?_
   replace hF := obind hF
   obtain ⟨x8, hx8, hF⟩ := hF
   refine g_callp (v := .bool x8) EE_fr rfl (ot rfl) (os1 (ot rfl) os0) hb_48 (fun _ => rfl) (fun hf kn w => by exact s_txn_compares_1 w z4  hx8) ?_
   refine go_nil ?_
   refine g_cond (b := x8) (ot rfl) (fun hc9 => ?_) (fun hc9 => ?_)
   ·
    replace hF := ifT hc9 hF
    refine go_seq ?_
    refine go_region ?_
    refine gM rfl rfl ?_
    refine gA rfl rfl ?_
    refine go_nil ?_
    obtain rfl := someI hF
    obtain rfl := someI hK3
    exact g_ret (rst rfl rs0) (fun h1 hf hs => ⟨(e4.trans hs.hext), rfl⟩)
   ·
    replace hF := ifF hc9 hF
    refine go_skip ?_
    refine go_endb ?_
    refine go_region ?_
    refine gr rfl (r_bin (ot rfl) (oc rfl) rfl) ?_
    refine gM rfl rfl ?_
    refine go_nil ?_
    refine go_re 8 (v2 := .int .i64 ((i4 + 1 : Nat) : Int)) rfl (wrap_succ hi4 hb4) ?_
    exact Goes.weak (ih4 (r4, i4 + 1, h4) ⟨hr4, e4, w4, hF⟩ (Nat.lt_succ_self _)) (Sub.cons (Sub.cons (Sub.cons (Sub.cons (Sub.cons (Sub.nil _) rfl) rfl) rfl) rfl) rfl)
theorem s_slices_ContainsFunc_txn_compares_1 {h : Heap} (hw : Wf h) (p0 : (List TCmp)) {a0_0 : Option Addr} {c0_0 : Nat} (f0_0 : RL R_TCmp h a0_0 c0_0 p0) {r : Bool} (hF : F_slices_ContainsFunc_txn_compares_1 p0 = some r) :
 Ev EE 50 [.slice a0_0 p0.length c0_0, .func (.func 48) #[] #[]] h (fun v _ => v = .bool r) := by
 unfold F_slices_ContainsFunc_txn_compares_1 at hF
 refine ev_of hw rfl at_50 rfl rfl (go_seg0 ?_)
 refine go_seq ?_
 refine go_region ?_
 refine gAc rfl rfl ?_
 refine go_nil ?_
 refine go_seq ?_
 refine go_region ?_
 refine gM rfl rfl ?_
 refine gM rfl rfl ?_
 replace hF := obind hF
 obtain ⟨x3, hx3, hF⟩ := hF
 refine g_callp (v := .int .i64 x3) EE_fr rfl of (os1 (ot rfl) (os1 (ot rfl) os0)) hb_79 (fun _ => rfl) (fun hf kn w => by exact s_slices_IndexFunc_txn_compares_1 w p0 (f0_0.ext kn) hx3) ?_
 refine gr rfl (r_bin (ot rfl) (oc rfl) rfl) ?_
 refine gA rfl rfl ?_
 refine go_nil ?_
 obtain rfl := someI hF
 exact g_ret (rst rfl rs0) (fun h1 hf hs => ⟨hs.hext, rfl⟩)
theorem s_txn_compares {h : Heap} (hw : Wf h) (p0 : (List TCmp)) {a0_0 : Option Addr} {c0_0 : Nat} (f0_0 : RL R_TCmp h a0_0 c0_0 p0) {r : Bool} (hF : F_txn_compares p0 = some r) :
 Ev EE 26 [.slice a0_0 p0.length c0_0] h (fun v _ => v = .bool r) := by
 unfold F_txn_compares at hF
 refine ev_of hw rfl at_26 rfl rfl (go_seg0 ?_)
 refine go_seq ?_
 refine go_region ?_
 refine gAc rfl rfl ?_
 refine go_nil ?_
 refine go_seq ?_
 refine go_region ?_
 refine gr rfl (r_assign of) ?_
 refine go_nil ?_
 refine go_seq ?_
 refine go_region ?_
 refine gM rfl rfl ?_
 refine gr rfl (r_len rfl (os1 (ot rfl) os0) (fun _ _ => ln_24)) ?_
 refine gr rfl (r_bin (ot rfl) (oc rfl) rfl) ?_
 refine gM rfl rfl ?_
 replace hF := obind hF
 obtain ⟨s3, hF, hK3⟩ := hF
 refine go_joinr 5 (β := Unit) (fun s h' => True) (fun s => [(2, true, .bool false), (12, true, .bool s3)]) (fun s => (List.flatten [] : List Blk)) ?_ (fun J3 => ?_)
 ·
  rintro _ h3 e3 w3 _
  replace hF := hK3
  refine gA rfl rfl ?_
  refine go_nil ?_
  obtain rfl := someI hF
  exact g_ret (rst rfl rs0) (fun h1 hf hs => ⟨(e3.trans hs.hext), rfl⟩)
 ·
  rcases Bool.eq_false_or_eq_true (decide ((p0.length : Int) ≤ 4)) with hb2 | hb2
  ·
   replace hF := ifT hb2 hF
   refine go_re 7 (v2 := .bool true) rfl (congrArg Value.bool hb2) ?_
   refine g_do rfl rfl rfl ?_
   refine gM rfl rfl ?_
   refine g_do rfl rfl rfl ?_
   refine gM rfl rfl ?_
   refine g_do rfl rfl rfl ?_
   replace hF := obind hF
   obtain ⟨x4, hx4, hF⟩ := hF
   refine g_callp (v := .bool x4) EE_fr rfl of (os1 (ot rfl) (os1 (ot rfl) os0)) hb_50 (fun _ => rfl) (fun hf kn w => by exact s_slices_ContainsFunc_txn_compares_1 w p0 (f0_0.ext kn) hx4) ?_
   refine g_do rfl rfl rfl ?_
   refine gr rfl (r_un (ot rfl) rfl) ?_
   refine gr rfl (r_pkT (ot rfl) (ot rfl)) ?_
   obtain rfl := someI hF
   exact Goes.weak (J3 () _ (HExt.refl _) hw trivial) (Sub.cons (Sub.cons (Sub.nil _) rfl) rfl)
  ·
   replace hF := ifF hb2 hF
   refine go_re 7 (v2 := .bool false) rfl (congrArg Value.bool hb2) ?_
   refine g_no rfl rfl rfl rfl rfl ?_
   refine g_no rfl rfl rfl rfl rfl ?_
   refine g_no rfl rfl rfl rfl rfl ?_
   refine g_no rfl rfl rfl rfl rfl ?_
   refine gr rfl (r_pkF (ot rfl) (oc rfl)) ?_
   obtain rfl := someI hF
   exact Goes.weak (J3 () _ (HExt.refl _) hw trivial) (Sub.cons (Sub.cons (Sub.nil _) rfl) rfl)
theorem s_txn_ops {h : Heap} (hw : Wf h) (p0 : (List TOp)) {a0_0 : Option Addr} {c0_0 : Nat} (f0_0 : RL R_TOp h a0_0 c0_0 p0) {r : Bool} (hF : F_txn_ops p0 = some r) :
 Ev EE 27 [.slice a0_0 p0.length c0_0] h (fun v _ => v = .bool r) := by
 unfold F_txn_ops at hF
 refine ev_of hw rfl at_27 rfl rfl (go_seg0 ?_)
 refine go_seq ?_
 refine go_region ?_
 refine gAc rfl rfl ?_
 refine go_nil ?_
 refine go_seq ?_
 refine go_region ?_
 refine gs_mkmap (ke := kS) (ve := vB) rfl ?_; intro b6_2
 refine gA rfl rfl ?_
 refine go_nil ?_
 refine go_seq ?_
 refine go_seq ?_
 refine go_region ?_
 refine gM rfl rfl ?_
 refine gr rfl (r_len rfl (os1 (ot rfl) os0) (fun _ _ => ln_25)) ?_
 refine gMc rfl rfl ?_
 refine go_nil ?_
 replace hF := obind hF
 obtain ⟨s3, hF, hK3⟩ := hF
 refine go_joinc (β := ((List (ByteArray × Bool)))) (fun s h' => s3 = .go s) (fun s => [(0, true, .slice a0_0 p0.length c0_0), (2, true, .bool false)]) (fun s => (List.flatten [[⟨b6_2, .map (encM kS vB s)⟩]] : List Blk)) ?_ (fun J3 => ?_)
 ·
  rintro x3_0 h3 e3 w3 hs3
  subst hs3
  replace hF := lpgo hK3
  refine go_seq ?_
  refine go_region ?_
  refine gM rfl rfl ?_
  refine gr rfl (r_len rfl (os1 (ot rfl) os0) (fun _ _ => ln_25)) ?_
  refine gr rfl (r_bin (ot rfl) (oc rfl) rfl) ?_
  refine gA rfl rfl ?_
  refine go_nil ?_
  obtain rfl := someI hF
  exact g_ret (rst rfl rs0) (fun h1 hf hs => ⟨(e3.trans hs.hext), rfl⟩)
 ·
  refine go_block ?_
  refine go_loop (α := (List TOp) × Nat × (List (ByteArray × Bool)) × Heap) (fun a => a.1 = List.drop a.2.1 p0 ∧ HExt h a.2.2.2 ∧ Wf a.2.2.2 ∧ F_txn_ops_L1 a.1 a.2.1 a.2.2.1 = some s3) (fun a => a.1.length) (fun a => [(0, true, .slice a0_0 p0.length c0_0), (2, true, .bool false), (3, true, .map (some b6_2)), (7, true, .slice a0_0 p0.length c0_0), (8, true, .int .i64 (p0.length : Int)), (9, true, .int .i64 (a.2.1 : Int))]) (fun a => (List.flatten [[⟨b6_2, .map (encM kS vB a.2.2.1)⟩]] : List Blk)) (fun a => a.2.2.2) ?_ (p0, 0, ([] : (List (ByteArray × Bool))), h) ⟨rfl, HExt.refl _, hw, hF⟩ (Sub.cons (Sub.cons (Sub.cons (Sub.cons (Sub.cons (Sub.cons (Sub.nil _) rfl) rfl) rfl) rfl) rfl) rfl) rfl rfl
  rintro ⟨r4, i4, y4_0, h4⟩ ⟨hr4, e4, w4, hF⟩ ih4
  rcases r4 with _ | ⟨z4, r4⟩
  ·
   have hi4 := drop_nil hr4
   rw [F_txn_ops_L1.eq_1] at hF
   refine go_seq ?_
   refine go_region ?_
   refine gr rfl (r_bin (ot rfl) (ot rfl) rfl) ?_
   refine go_cast (.bool false) (congrArg Value.bool (decide_eq_false hi4)) ?_
   refine go_nil ?_
   refine go_seq ?_
   refine g_cond (b := false) (ot rfl) (fun hc5 => ?_) (fun hc5 => ?_)
   ·
    cases hc5
   refine go_exit rfl ?_
   obtain rfl := someI hF
   exact Goes.weak (J3 y4_0 _ e4 w4 rfl) (Sub.cons (Sub.cons (Sub.nil _) rfl) rfl)
  ·
   obtain ⟨hi4, hx4, hr4⟩ := drop_cons hr4
   have hb4 := (f0_0.ext e4.kn).1
   rw [F_txn_ops_L1.eq_2] at hF
   refine go_seq ?_
   refine go_region ?_
   refine gr rfl (r_bin (ot rfl) (ot rfl) rfl) ?_
   refine go_cast (.bool true) (congrArg Value.bool (decide_eq_true (Int.ofNat_lt.mpr hi4))) ?_
   refine go_nil ?_
   refine go_seq ?_
   refine g_cond (b := true) (ot rfl) (fun hc6 => ?_) (fun hc6 => ?_)
   rotate_left
   ·
    cases hc6
   refine go_skip ?_
   refine go_seq ?_
   refine go_block ?_
   refine go_seq ?_
   refine go_region ?_
   obtain ⟨q7, row7, i7, cl7, rc7, sp7⟩ := ix (ik := .i64) (cap := c0_0) (E := EE) (f0_0.ext e4.kn) ((getI_nat _ _).trans hx4) ut_25 sz_84 rfl
   obtain rfl := rc7
   refine gr rfl (r_ia (ot rfl) (ot rfl) i7) ?_
   refine gr rfl (r_load (ot rfl) (v := .agg #[.string z4.Key, .string z4.Val, .bool z4.Del]) (lo_e (fun hf kn => ld_of (r := [.string z4.Key, .string z4.Val, .bool z4.Del]) ag_84 sz_84 (kn.cellsAt cl7)))) ?_
   refine gs_alloc rfl zo_84 rfl ?_; intro b5_8
   refine gs_store (ot rfl) (ot rfl) sz_84 rfl rfl rfl rfl rfl .z ?_
   refine go_nil ?_
   refine go_seq ?_
   refine go_seq ?_
   refine go_region ?_
   refine gr rfl (r_fa (ot rfl) (fa_84_0 _ _)) ?_
   refine gr rfl (r_load (ot rfl) (lm_s (mem_seg 0 rfl) ag_9 rfl)) ?_
   replace hF := obind hF
   obtain ⟨x9, hx9, hF⟩ := hF
   refine g_callp (v := .bool x9) EE_fr rfl of (os1 (ot rfl) os0) hb_49 (fun _ => rfl) (fun hf kn w => by exact s_key_May w z4.Key  hx9) ?_
   refine gr rfl (r_un (ot rfl) rfl) ?_
   refine gM rfl rfl ?_
   refine grf rfl rfl rfl rfl (r_fa (ot rfl) (fa_84_1 _ _)) ?_
   refine grf rfl rfl rfl rfl (r_load (og rfl id) (lm_s (mem_seg 0 rfl) ag_9 rfl)) ?_
   refine grf rfl rfl rfl rfl (r_len rfl (os1 (og rfl id) os0) (fun _ _ => ln_9)) ?_
   refine grf rfl rfl rfl rfl (r_bin (og rfl id) (oc rfl) rfl) ?_
   refine gr rfl (r_pickb (ot rfl) (oc rfl) (og rfl id)) ?_
   refine gM rfl rfl ?_
   refine grf rfl rfl rfl rfl (r_fa (ot rfl) (fa_84_2 _ _)) ?_
   refine grf rfl rfl rfl rfl (r_load (og rfl id) (lm_s (mem_seg 0 rfl) ag_4 rfl)) ?_
   refine grf rfl rfl rfl rfl (r_move (og rfl id)) ?_
   refine grt' rfl rfl rfl rfl (r_fa (ot rfl) (fa_84_1 _ _)) ?_
   refine grt' rfl rfl rfl rfl (r_load (og rfl id) (lm_s (mem_seg 0 rfl) ag_9 rfl)) ?_
   refine grt' rfl rfl rfl rfl (r_bin (og rfl id) (oc rfl) rfl) ?_
   refine grf rfl rfl rfl rfl (r_pickb (og rfl id) (og rfl id) (oc rfl)) ?_
   refine gr rfl (r_pickb (ot rfl) (oc rfl) (og rfl id)) ?_
   refine gM rfl rfl ?_
   replace hF := obind hF
   obtain ⟨s11, hF, hK11⟩ := hF
   refine go_joinr 5 (β := Unit) (fun s h' => True) (fun s => [(0, true, .slice a0_0 p0.length c0_0), (2, true, .bool false), (3, true, .map (some b6_2)), (5, true, .pointer (some ⟨b5_8, 0, none⟩)), (7, true, .slice a0_0 p0.length c0_0), (8, true, .int .i64 (p0.length : Int)), (9, true, .int .i64 (i4 : Int)), (10, true, .bool true), (11, true, .pointer (some q7)), (12, true, .agg #[.string z4.Key, .string z4.Val, .bool z4.Del]), (13, true, .pointer (some ⟨b5_8, 0, none⟩)), (14, true, .string z4.Key), (15, true, .bool x9), (16, true, .bool (!x9)), (17, true, .bool (!x9)), (22, true, .bool (bif (!x9) then true else (decide ((z4.Val.size : Int) > 8)))), (23, true, .bool (bif (!x9) then true else (decide ((z4.Val.size : Int) > 8)))), (31, true, .bool (bif (bif (!x9) then true else (decide ((z4.Val.size : Int) > 8))) then true else (bif z4.Del then (!eqB z4.Val ByteArray.empty) else false))), (32, true, .bool s11.1), (37, true, .bool s11.2)]) (fun s => (List.flatten [[⟨b5_8, .cells [.string z4.Key, .string z4.Val, .bool z4.Del] 84⟩], [⟨b6_2, .map (encM kS vB y4_0)⟩]] : List Blk)) ?_ (fun J11 => ?_)
   ·
    rintro _ h11 e11 w11 _
    replace hF := hK11
    refine go_nil ?_
    refine g_cond (b := s11.2) (ot rfl) (fun hc12 => ?_) (fun hc12 => ?_)
    ·
     replace hF := ifT hc12 hF
     refine go_seq ?_
     refine go_region ?_
     refine gAc rfl rfl ?_
     refine go_nil ?_
     obtain rfl := someI hF
     obtain rfl := someI hK3
     exact g_ret (rst rfl rs0) (fun h1 hf hs => ⟨(e4.trans (e11.trans hs.hext)), rfl⟩)
    ·
     replace hF := ifF hc12 hF
     refine go_skip ?_
     refine go_region ?_
     refine gM rfl rfl ?_
     refine gr rfl (r_fa (ot rfl) (fa_84_0 _ _)) ?_
     refine gr rfl (r_load (ot rfl) (lm_s (mem_seg 0 rfl) ag_9 rfl)) ?_
     refine gs_mset (ke := kS) (ve := vB) (es := y4_0) (kv := z4.Key) (v := true) (ot rfl) (ot rfl) (oc rfl) um_115 rfl sc_9 sameS (.s (.z)) ?_
     refine go_nil ?_
     refine go_endb ?_
     refine go_region ?_
     refine gr rfl (r_bin (ot rfl) (oc rfl) rfl) ?_
     refine gM rfl rfl ?_
     refine go_nil ?_
     refine gs_sub (.cons _ (.cons_cons _ (.refl _))) ?_
     refine go_re 9 (v2 := .int .i64 ((i4 + 1 : Nat) : Int)) rfl (wrap_succ hi4 hb4) ?_
     exact Goes.weak (ih4 (r4, i4 + 1, (mset y4_0 z4.Key true), h11) ⟨hr4, (e4.trans e11), w11, hF⟩ (Nat.lt_succ_self _)) (Sub.cons (Sub.cons (Sub.cons (Sub.cons (Sub.cons (Sub.cons (Sub.nil _) rfl) rfl) rfl) rfl) rfl) rfl)
   ·
    rcases Bool.eq_false_or_eq_true (bif (bif (!x9) then true else (decide ((z4.Val.size : Int) > 8))) then true else (bif z4.Del then (!eqB z4.Val ByteArray.empty) else false)) with hb10 | hb10
    ·
     replace hF := ifT hb10 hF
     refine go_re 32 (v2 := .bool true) rfl (congrArg Value.bool hb10) ?_
     refine g_no rfl rfl rfl rfl rfl ?_
     refine g_no rfl rfl rfl rfl rfl ?_
     refine g_no rfl rfl rfl rfl rfl ?_
     refine g_no rfl rfl rfl rfl rfl ?_
     refine gr rfl (r_pkT (ot rfl) (oc rfl)) ?_
     obtain rfl := someI hF
     exact Goes.weak (J11 () _ (HExt.refl _) w4 trivial) (Sub.cons (Sub.cons (Sub.cons (Sub.cons (Sub.cons (Sub.cons (Sub.cons (Sub.cons (Sub.cons (Sub.cons (Sub.cons (Sub.cons (Sub.cons (Sub.cons (Sub.cons (Sub.cons (Sub.cons (Sub.cons (Sub.cons (Sub.cons (Sub.nil _) rfl) rfl) rfl) rfl) rfl) rfl) rfl) rfl) rfl) rfl) rfl) rfl) rfl) rfl) rfl) rfl) rfl) rfl) rfl) rfl)
    ·
     replace hF := ifF hb10 hF
     refine go_re 32 (v2 := .bool false) rfl (congrArg Value.bool hb10) ?_
     refine g_do rfl rfl rfl ?_
     refine gM rfl rfl ?_
     refine g_do rfl rfl rfl ?_
     refine gr rfl (r_fa (ot rfl) (fa_84_0 _ _)) ?_
     refine g_do rfl rfl rfl ?_
     refine gr rfl (r_load (ot rfl) (lm_s (mem_seg 0 rfl) ag_9 rfl)) ?_
     refine g_do rfl rfl rfl ?_
     refine gr rfl (r_lookm (ke := kS) (ve := vB) (es := y4_0) (kv := z4.Key) (z := false) (ok := false) (ot rfl) (ot rfl) (mem_seg 1 rfl) um_115 rfl sc_9 sameS rfl) ?_
     refine go_cast (.bool ((mget y4_0 z4.Key).getD false)) rfl ?_
     refine gr rfl (r_pkF (ot rfl) (ot rfl)) ?_
     obtain rfl := someI hF
     exact Goes.weak (J11 () _ (HExt.refl _) w4 trivial) (Sub.cons (Sub.cons (Sub.cons (Sub.cons (Sub.cons (Sub.cons (Sub.cons (Sub.cons (Sub.cons (Sub.cons (Sub.cons (Sub.cons (Sub.cons (Sub.cons (Sub.cons (Sub.cons (Sub.cons (Sub.cons (Sub.cons (Sub.cons (Sub.nil _) rfl) rfl) rfl) rfl) rfl) rfl) rfl) rfl) rfl) rfl) rfl) rfl) rfl) rfl) rfl) rfl) rfl) rfl) rfl) rfl)
theorem s_key_Empty {h : Heap} (hw : Wf h) (p0 : TRange)   {r : Bool} (hF : F_key_Empty p0 = some r) :
 Ev EE 51 [.agg #[.string p0.From, .string p0.To]] h (fun v _ => v = .bool r) := by
 unfold F_key_Empty at hF
 refine ev_of hw rfl at_51 rfl rfl (go_seg0 ?_)
 refine go_seq ?_
 refine go_region ?_
 refine gs_box rfl (ot rfl) rfl ?_; intro b1_2
 refine gAc rfl rfl ?_
 refine go_nil ?_
 refine go_seq ?_
 refine go_region ?_
 refine gr rfl (r_fa (ot rfl) (fa_23_1 _ _)) ?_
 refine gr rfl (r_load (ot rfl) (lm_s (mem_seg 0 rfl) ag_9 rfl)) ?_
 refine gr rfl (r_bin (ot rfl) (oc rfl) rfl) ?_
 refine gM rfl rfl ?_
 refine grt rfl rfl rfl rfl (r_load (ot rfl) (lm_w (mem_seg 0 rfl) ag_23 sz_23 rfl)) ?_
 refine grt rfl rfl rfl rfl (r_fa (ot rfl) (fa_23_0 _ _)) ?_
 refine grt rfl rfl rfl rfl (r_load (og rfl id) (lm_s (mem_seg 0 rfl) ag_9 rfl)) ?_
 refine grt rfl rfl rfl rfl (r_fa (ot rfl) (fa_23_1 _ _)) ?_
 refine grt rfl rfl rfl rfl (r_load (og rfl id) (lm_s (mem_seg 0 rfl) ag_9 rfl)) ?_
 refine grt rfl rfl rfl rfl (r_max (os1 (og rfl id) (os1 (og rfl id) os0)) rfl) ?_
 refine grt rfl rfl rfl rfl (r_fa (ot rfl) (fa_23_1 _ _)) ?_
 refine grt rfl rfl rfl rfl (r_load (og rfl id) (lm_s (mem_seg 0 rfl) ag_9 rfl)) ?_
 refine grt rfl rfl rfl rfl (r_build (op1 (og rfl id) (op1 (og rfl id) op0)) rfl) ?_
 refine grt rfl rfl rfl rfl (r_bin (og rfl id) (og rfl id) bq_23) ?_
 refine gr rfl (r_pickb (ot rfl) (og rfl id) (oc rfl)) ?_
 refine gA rfl rfl ?_
 refine go_nil ?_
 obtain rfl := someI hF
 exact g_ret (rst rfl rs0) (fun h1 hf hs => ⟨hs.hext, rfl⟩)
theorem s_internal_stringslite_HasSuffix {h : Heap} (hw : Wf h) (p0 : ByteArray) (p1 : ByteArray)   {r : Bool} (hF : F_internal_stringslite_HasSuffix p0 p1 = some r) :
 Ev EE 103 [.string p0, .string p1] h (fun v _ => v = .bool r) := by
 unfold F_internal_stringslite_HasSuffix at hF
 refine ev_of hw rfl at_103 rfl rfl (go_seg0 ?_)
 refine go_seq ?_
 refine go_region ?_
 refine gAc rfl rfl ?_
 refine go_nil ?_
 refine go_seq ?_
 refine go_region ?_
 refine gM rfl rfl ?_
 refine gr rfl (r_len rfl (os1 (ot rfl) os0) (fun _ _ => ln_9)) ?_
 refine gM rfl rfl ?_
 refine gr rfl (r_len rfl (os1 (ot rfl) os0) (fun _ _ => ln_9)) ?_
 refine gr rfl (r_bin (ot rfl) (ot rfl) rfl) ?_
 refine gM rfl rfl ?_
 replace hF := obind hF
 obtain ⟨s4, hF, hK4⟩ := hF
 refine go_joinr 10 (β := Unit) (fun s h' => True) (fun s => [(4, true, .bool false), (20, true, .bool s4)]) (fun s => (List.flatten [] : List Blk)) ?_ (fun J4 => ?_)
 ·
  rintro _ h4 e4 w4 _
  replace hF := hK4
  refine gA rfl rfl ?_
  refine go_nil ?_
  obtain rfl := someI hF
  exact g_ret (rst rfl rs0) (fun h1 hf hs => ⟨(e4.trans hs.hext), rfl⟩)
 ·
  rcases Bool.eq_false_or_eq_true (decide ((p0.size : Int) ≥ (p1.size : Int))) with hb3 | hb3
  ·
   replace hF := ifT hb3 hF
   refine go_re 10 (v2 := .bool true) rfl (congrArg Value.bool hb3) ?_
   refine g_do rfl rfl rfl ?_
   refine gM rfl rfl ?_
   refine g_do rfl rfl rfl ?_
   refine gM rfl rfl ?_
   refine g_do rfl rfl rfl ?_
   refine gr rfl (r_len rfl (os1 (ot rfl) os0) (fun _ _ => ln_9)) ?_
   refine g_do rfl rfl rfl ?_
   refine gM rfl rfl ?_
   refine g_do rfl rfl rfl ?_
   refine gr rfl (r_len rfl (os1 (ot rfl) os0) (fun _ _ => ln_9)) ?_
   refine g_do rfl rfl rfl ?_
   refine gr rfl (r_bin (ot rfl) (ot rfl) rfl) ?_
   refine g_do rfl rfl rfl ?_
   replace hF := obind hF
   obtain ⟨x5, hx5, hF⟩ := hF
   refine gr rfl (r_slice (ot rfl) (oo (ot rfl)) on on (fun hf kn => subS_lo (by kernel_rfl) hx5)) ?_
   refine g_do rfl rfl rfl ?_
   refine gM rfl rfl ?_
   refine g_do rfl rfl rfl ?_
   refine gr rfl (r_bin (ot rfl) (ot rfl) rfl) ?_
   refine gr rfl (r_pkT (ot rfl) (ot rfl)) ?_
   obtain rfl := someI hF
   exact Goes.weak (J4 () _ (HExt.refl _) hw trivial) (Sub.cons (Sub.cons (Sub.nil _) rfl) rfl)
  ·
   replace hF := ifF hb3 hF
   refine go_re 10 (v2 := .bool false) rfl (congrArg Value.bool hb3) ?_
   refine g_no rfl rfl rfl rfl rfl ?_
   refine g_no rfl rfl rfl rfl rfl ?_
   refine g_no rfl rfl rfl rfl rfl ?_
   refine g_no rfl rfl rfl rfl rfl ?_
   refine g_no rfl rfl rfl rfl rfl ?_
   refine g_no rfl rfl rfl rfl rfl ?_
   refine g_no rfl rfl rfl rfl rfl ?_
   refine g_no rfl rfl rfl rfl rfl ?_
   refine g_no rfl rfl rfl rfl rfl ?_
   refine gr rfl (r_pkF (ot rfl) (oc rfl)) ?_
   obtain rfl := someI hF
   exact Goes.weak (J4 () _ (HExt.refl _) hw trivial) (Sub.cons (Sub.cons (Sub.nil _) rfl) rfl)
theorem s_internal_stringslite_TrimSuffix {h : Heap} (hw : Wf h) (p0 : ByteArray) (p1 : ByteArray)   {r : ByteArray} (hF : F_internal_stringslite_TrimSuffix p0 p1 = some r) :
 Ev EE 80 [.string p0, .string p1] h (fun v _ => v = .string r) := by
 unfold F_internal_stringslite_TrimSuffix at hF
 refine ev_of hw rfl at_80 rfl rfl (go_seg0 ?_)
 refine go_seq ?_
 refine go_region ?_
 refine gAc rfl rfl ?_
 refine go_nil ?_
 refine go_seq ?_
 refine go_seq ?_
 refine go_region ?_
 refine gM rfl rfl ?_
 refine gM rfl rfl ?_
 replace hF := obind hF
 obtain ⟨x3, hx3, hF⟩ := hF
 refine g_callp (v := .bool x3) EE_fr rfl of (os1 (ot rfl) (os1 (ot rfl) os0)) hb_103 (fun _ => rfl) (fun hf kn w => by exact s_internal_stringslite_HasSuffix w p0 p1  hx3) ?_
 refine go_nil ?_
 refine g_cond (b := x3) (ot rfl) (fun hc4 => ?_) (fun hc4 => ?_)
 ·
  replace hF := ifT hc4 hF
  refine go_seq ?_
  refine go_region ?_
  refine gM rfl rfl ?_
  refine gM rfl rfl ?_
  refine gr rfl (r_len rfl (os1 (ot rfl) os0) (fun _ _ => ln_9)) ?_
  refine gM rfl rfl ?_
  refine gr rfl (r_len rfl (os1 (ot rfl) os0) (fun _ _ => ln_9)) ?_
  refine gr rfl (r_bin (ot rfl) (ot rfl) rfl) ?_
  replace hF := obind hF
  obtain ⟨x5, hx5, hF⟩ := hF
  refine gr rfl (r_slice (ot rfl) on (oo (ot rfl)) on (fun hf kn => subS_hi (by kernel_rfl) hx5)) ?_
  refine gA rfl rfl ?_
  refine go_nil ?_
  obtain rfl := someI hF
  exact g_ret (rst rfl rs0) (fun h1 hf hs => ⟨hs.hext, rfl⟩)
 ·
  replace hF := ifF hc4 hF
  refine go_skip ?_
  refine go_seq ?_
  refine go_region ?_
  refine gM rfl rfl ?_
  refine gA rfl rfl ?_
  refine go_nil ?_
  obtain rfl := someI hF
  exact g_ret (rst rfl rs0) (fun h1 hf hs => ⟨hs.hext, rfl⟩)
theorem s_strings_TrimSuffix {h : Heap} (hw : Wf h) (p0 : ByteArray) (p1 : ByteArray)   {r : ByteArray} (hF : F_strings_TrimSuffix p0 p1 = some r) :
 Ev EE 52 [.string p0, .string p1] h (fun v _ => v = .string r) := by
 unfold F_strings_TrimSuffix at hF
 refine ev_of hw rfl at_52 rfl rfl (go_seg0 ?_)
 refine go_seq ?_
 refine go_region ?_
 refine gAc rfl rfl ?_
 refine go_nil ?_
 refine go_seq ?_
 refine go_region ?_
 refine gM rfl rfl ?_
 refine gM rfl rfl ?_
 replace hF := obind hF
 obtain ⟨x3, hx3, hF⟩ := hF
 refine g_callp (v := .string x3) EE_fr rfl of (os1 (ot rfl) (os1 (ot rfl) os0)) hb_80 (fun _ => rfl) (fun hf kn w => by exact s_internal_stringslite_TrimSuffix w p0 p1  hx3) ?_
 refine gA rfl rfl ?_
 refine go_nil ?_
 obtain rfl := someI hF
 exact g_ret (rst rfl rs0) (fun h1 hf hs => ⟨hs.hext, rfl⟩)
theorem s_key_MayRange {h : Heap} (hw : Wf h) (p0 : TRange)   {r : Bool} (hF : F_key_MayRange p0 = some r) :
 Ev EE 28 [.agg #[.string p0.From, .string p0.To]] h (fun v _ => v = .bool r) := by
 unfold F_key_MayRange at hF
 refine ev_of hw rfl at_28 rfl rfl (go_seg0 ?_)
 refine go_seq ?_
 refine go_region ?_
 refine gs_box rfl (ot rfl) rfl ?_; intro b1_2
 refine gAc rfl rfl ?_
 refine go_nil ?_
 refine go_seq ?_
 refine go_region ?_
 refine gr rfl (r_load (ot rfl) (lm_w (mem_seg 0 rfl) ag_23 sz_23 rfl)) ?_
 replace hF := obind hF
 obtain ⟨x3, hx3, hF⟩ := hF
 refine g_callp (v := .bool x3) EE_fr rfl of (os1 (ot rfl) os0) hb_51 (fun _ => rfl) (fun hf kn w => by exact s_key_Empty w p0  hx3) ?_
 refine gr rfl (r_un (ot rfl) rfl) ?_
 refine gM rfl rfl ?_
 refine grt rfl rfl rfl rfl (r_fa (ot rfl) (fa_23_0 _ _)) ?_
 refine grt rfl rfl rfl rfl (r_load (og rfl id) (lm_s (mem_seg 0 rfl) ag_9 rfl)) ?_
 refine grt rfl rfl rfl rfl (r_len rfl (os1 (og rfl id) os0) (fun _ _ => ln_9)) ?_
 refine grt rfl rfl rfl rfl (r_bin (og rfl id) (oc rfl) rfl) ?_
 refine gr rfl (r_pickb (ot rfl) (og rfl id) (oc rfl)) ?_
 refine gM rfl rfl ?_
 replace hF := obind hF
 obtain ⟨s5, hF, hK5⟩ := hF
 refine go_joinr 6 (β := Unit) (fun s h' => True) (fun s => [(2, true, .bool false), (18, true, .bool s5)]) (fun s => (List.flatten [[⟨b1_2, .cells [.string p0.From, .string p0.To] 23⟩]] : List Blk)) ?_ (fun J5 => ?_)
 ·
  rintro _ h5 e5 w5 _
  replace hF := hK5
  refine gA rfl rfl ?_
  refine go_nil ?_
  obtain rfl := someI hF
  exact g_ret (rst rfl rs0) (fun h1 hf hs => ⟨(e5.trans hs.hext), rfl⟩)
 ·
  rcases Bool.eq_false_or_eq_true (bif (!x3) then (decide ((p0.From.size : Int) ≤ 8)) else false) with hb4 | hb4
  ·
   replace hF := ifT hb4 hF
   refine go_re 12 (v2 := .bool true) rfl (congrArg Value.bool hb4) ?_
   refine g_do rfl rfl rfl ?_
   refine gr rfl (r_fa (ot rfl) (fa_23_1 _ _)) ?_
   refine g_do rfl rfl rfl ?_
   refine gr rfl (r_load (ot rfl) (lm_s (mem_seg 0 rfl) ag_9 rfl)) ?_
   refine g_do rfl rfl rfl ?_
   replace hF := obind hF
   obtain ⟨x6, hx6, hF⟩ := hF
   refine g_callp (v := .string x6) EE_fr rfl of (os1 (ot rfl) (os1 (oc rfl) os0)) hb_52 (fun _ => rfl) (fun hf kn w => by exact s_strings_TrimSuffix w p0.To (⟨#[0]⟩ : ByteArray)  hx6) ?_
   refine g_do rfl rfl rfl ?_
   refine gr rfl (r_len rfl (os1 (ot rfl) os0) (fun _ _ => ln_9)) ?_
   refine g_do rfl rfl rfl ?_
   refine gr rfl (r_bin (ot rfl) (oc rfl) rfl) ?_
   refine gr rfl (r_pkT (ot rfl) (ot rfl)) ?_
   obtain rfl := someI hF
   exact Goes.weak (J5 () _ (HExt.refl _) hw trivial) (Sub.cons (Sub.cons (Sub.nil _) rfl) rfl)
  ·
   replace hF := ifF hb4 hF
   refine go_re 12 (v2 := .bool false) rfl (congrArg Value.bool hb4) ?_
   refine g_no rfl rfl rfl rfl rfl ?_
   refine g_no rfl rfl rfl rfl rfl ?_
   refine g_no rfl rfl rfl rfl rfl ?_
   refine g_no rfl rfl rfl rfl rfl ?_
   refine g_no rfl rfl rfl rfl rfl ?_
   refine gr rfl (r_pkF (ot rfl) (oc rfl)) ?_
   obtain rfl := someI hF
   exact Goes.weak (J5 () _ (HExt.refl _) hw trivial) (Sub.cons (Sub.cons (Sub.nil _) rfl) rfl)
theorem s_txn_May {h : Heap} (hw : Wf h) (p0 : TReq) {a0_4 : Option Addr} {c0_4 : Nat} {a0_5 : Option Addr} {c0_5 : Nat} {a0_6 : Option Addr} {c0_6 : Nat} (f0_4 : RL R_TCmp h a0_4 c0_4 p0.Cmps) (f0_5 : RL R_TOp h a0_5 c0_5 p0.Then) (f0_6 : RL R_TOp h a0_6 c0_6 p0.Else) {r : Int} (hF : F_txn_May p0 = some r) :
 Ev EE 13 [.agg #[.int .i64 p0.Kind, .string p0.R.From, .string p0.R.To, .int .i64 p0.Rev, .slice a0_4 p0.Cmps.length c0_4, .slice a0_5 p0.Then.length c0_5, .slice a0_6 p0.Else.length c0_6]] h (fun v _ => v = .int .i64 r) := by
 unfold F_txn_May at hF
 refine ev_of hw rfl at_13 rfl rfl (go_seg0 ?_)
 refine go_seq ?_
 refine go_region ?_
 refine gs_box rfl (ot rfl) rfl ?_; intro b1_2
 refine gAc rfl rfl ?_
 refine go_nil ?_
 refine go_seq ?_
 refine go_region ?_
 refine gAc rfl rfl ?_
 refine go_nil ?_
 refine go_seq ?_
 refine go_seq ?_
 refine go_region ?_
 refine gr rfl (r_fa (ot rfl) (fa_27_0 _ _)) ?_
 refine gr rfl (r_load (ot rfl) (lm_s (mem_seg 0 rfl) ag_3 rfl)) ?_
 refine go_nil ?_
 refine go_block ?_
 refine go_seq ?_
 refine go_region ?_
 refine gr rfl (r_bin (ot rfl) (oc rfl) rfl) ?_
 refine gA rfl rfl ?_
 refine go_nil ?_
 replace hF := obind hF
 obtain ⟨s4, hF, hK4⟩ := hF
 refine go_joinc (β := Unit) (fun s h' => True) (fun s => [(2, true, .int .i64 0), (3, true, .bool s4)]) (fun s => (List.flatten [[⟨b1_2, .cells [.int .i64 p0.Kind, .string p0.R.From, .string p0.R.To, .int .i64 p0.Rev, .slice a0_4 p0.Cmps.length c0_4, .slice a0_5 p0.Then.length c0_5, .slice a0_6 p0.Else.length c0_6] 27⟩]] : List Blk)) ?_ (fun J4 => ?_)
 ·
  rintro _ h4 e4 w4 _
  replace hF := hK4
  refine go_endb ?_
  refine go_seq ?_
  refine go_seq ?_
  refine go_region ?_
  refine gM rfl rfl ?_
  refine gr rfl (r_un (ot rfl) rfl) ?_
  refine go_nil ?_
  refine g_cond (b := (!s4)) (ot rfl) (fun hc5 => ?_) (fun hc5 => ?_)
  ·
   replace hF := ifT hc5 hF
   refine go_seq ?_
   refine go_region ?_
   refine gAc rfl rfl ?_
   refine go_nil ?_
   obtain rfl := someI hF
   exact g_ret (rst rfl rs0) (fun h1 hf hs => ⟨(e4.trans hs.hext), rfl⟩)
  ·
   replace hF := ifF hc5 hF
   refine go_skip ?_
   refine go_seq ?_
   refine go_region ?_
   refine gAc rfl rfl ?_
   refine go_nil ?_
   obtain rfl := someI hF
   exact g_ret (rst rfl rs0) (fun h1 hf hs => ⟨(e4.trans hs.hext), rfl⟩)
 ·
  refine g_cond (b := (p0.Kind == 1)) (ot rfl) (fun hc3 => ?_) (fun hc3 => ?_)
  ·
   replace hF := ifT hc3 hF
   refine go_region ?_
   refine gr rfl (r_fa (ot rfl) (fa_27_3 _ _)) ?_
   refine gr rfl (r_load (ot rfl) (lm_s (mem_seg 0 rfl) ag_24 rfl)) ?_
   replace hF := obind hF
   obtain ⟨x6, hx6, hF⟩ := hF
   refine g_callp (v := .bool x6) EE_fr rfl of (os1 (ot rfl) os0) hb_26 (fun _ => rfl) (fun hf kn w => by exact s_txn_compares w p0.Cmps (f0_4.ext kn) hx6) ?_
   refine gM rfl rfl ?_
   replace hF := obind hF
   obtain ⟨s8, hF, hK8⟩ := hF
   refine go_joinr 4 (β := Unit) (fun s h' => True) (fun s => [(1, true, .pointer (some ⟨b1_2, 0, none⟩)), (2, true, .int .i64 0), (3, true, .bool false), (15, true, .bool s8)]) (fun s => (List.flatten [[⟨b1_2, .cells [.int .i64 p0.Kind, .string p0.R.From, .string p0.R.To, .int .i64 p0.Rev, .slice a0_4 p0.Cmps.length c0_4, .slice a0_5 p0.Then.length c0_5, .slice a0_6 p0.Else.length c0_6] 27⟩]] : List Blk)) ?_ (fun J8 => ?_)
   ·
    rintro _ h8 e8 w8 _
    replace hF := hK8
    refine gM rfl rfl ?_
    replace hF := obind hF
    obtain ⟨s10, hF, hK10⟩ := hF
    refine go_joinr 4 (β := Unit) (fun s h' => True) (fun s => [(2, true, .int .i64 0), (3, true, .bool false), (20, true, .bool s10)]) (fun s => (List.flatten [[⟨b1_2, .cells [.int .i64 p0.Kind, .string p0.R.From, .string p0.R.To, .int .i64 p0.Rev, .slice a0_4 p0.Cmps.length c0_4, .slice a0_5 p0.Then.length c0_5, .slice a0_6 p0.Else.length c0_6] 27⟩]] : List Blk)) ?_ (fun J10 => ?_)
    ·
     rintro _ h10 e10 w10 _
     replace hF := hK10
     refine gA rfl rfl ?_
     refine go_nil ?_
     obtain rfl := someI hF
     exact Goes.weak (J4 () _ (e8.trans e10) w10 trivial) (Sub.cons (Sub.cons (Sub.nil _) rfl) rfl)
    ·
     rcases Bool.eq_false_or_eq_true s8 with hb9 | hb9
     ·
      replace hF := ifT hb9 hF
      refine go_re 16 (v2 := .bool true) rfl (congrArg Value.bool hb9) ?_
      refine g_do rfl rfl rfl ?_
      refine gr rfl (r_fa (ot rfl) (fa_27_5 _ _)) ?_
      refine g_do rfl rfl rfl ?_
      refine gr rfl (r_load (ot rfl) (lm_s (mem_seg 0 rfl) ag_25 rfl)) ?_
      refine g_do rfl rfl rfl ?_
      replace hF := obind hF
      obtain ⟨x11, hx11, hF⟩ := hF
      refine g_callp (v := .bool x11) EE_fr rfl of (os1 (ot rfl) os0) hb_27 (fun _ => rfl) (fun hf kn w => by exact s_txn_ops w p0.Else ((f0_6.ext e8.kn).ext kn) hx11) ?_
      refine gr rfl (r_pkT (ot rfl) (ot rfl)) ?_
      obtain rfl := someI hF
      exact Goes.weak (J10 () _ (HExt.refl _) w8 trivial) (Sub.cons (Sub.cons (Sub.cons (Sub.nil _) rfl) rfl) rfl)
     ·
      replace hF := ifF hb9 hF
      refine go_re 16 (v2 := .bool false) rfl (congrArg Value.bool hb9) ?_
      refine g_no rfl rfl rfl rfl rfl ?_
      refine g_no rfl rfl rfl rfl rfl ?_
      refine g_no rfl rfl rfl rfl rfl ?_
      refine gr rfl (r_pkF (ot rfl) (oc rfl)) ?_
      obtain rfl := someI hF
      exact Goes.weak (J10 () _ (HExt.refl _) w8 trivial) (Sub.cons (Sub.cons (Sub.cons (Sub.nil _) rfl) rfl) rfl)
   ·
    rcases Bool.eq_false_or_eq_true x6 with hb7 | hb7
    ·
     replace hF := ifT hb7 hF
     refine go_re 11 (v2 := .bool true) rfl (congrArg Value.bool hb7) ?_
     refine g_do rfl rfl rfl ?_
     refine gr rfl (r_fa (ot rfl) (fa_27_4 _ _)) ?_
     refine g_do rfl rfl rfl ?_
     refine gr rfl (r_load (ot rfl) (lm_s (mem_seg 0 rfl) ag_25 rfl)) ?_
     refine g_do rfl rfl rfl ?_
     replace hF := obind hF
     obtain ⟨x12, hx12, hF⟩ := hF
     refine g_callp (v := .bool x12) EE_fr rfl of (os1 (ot rfl) os0) hb_27 (fun _ => rfl) (fun hf kn w => by exact s_txn_ops w p0.Then (f0_5.ext kn) hx12) ?_
     refine gr rfl (r_pkT (ot rfl) (ot rfl)) ?_
     obtain rfl := someI hF
     exact Goes.weak (J8 () _ (HExt.refl _) hw trivial) (Sub.cons (Sub.cons (Sub.cons (Sub.cons (Sub.nil _) rfl) rfl) rfl) rfl)
    ·
     replace hF := ifF hb7 hF
     refine go_re 11 (v2 := .bool false) rfl (congrArg Value.bool hb7) ?_
     refine g_no rfl rfl rfl rfl rfl ?_
     refine g_no rfl rfl rfl rfl rfl ?_
     refine g_no rfl rfl rfl rfl rfl ?_
     refine gr rfl (r_pkF (ot rfl) (oc rfl)) ?_
     obtain rfl := someI hF
     exact Goes.weak (J8 () _ (HExt.refl _) hw trivial) (Sub.cons (Sub.cons (Sub.cons (Sub.cons (Sub.nil _) rfl) rfl) rfl) rfl)
  ·
   replace hF := ifF hc3 hF
   refine go_seq ?_
   refine go_region ?_
   refine gr rfl (r_bin (ot rfl) (oc rfl) rfl) ?_
   refine gA rfl rfl ?_
   refine go_nil ?_
   replace hF := obind hF
   obtain ⟨s14, hF, hK14⟩ := hF
   refine go_joinc (β := Unit) (fun s h' => True) (fun s => [(2, true, .int .i64 0), (3, true, .bool s14)]) (fun s => (List.flatten [[⟨b1_2, .cells [.int .i64 p0.Kind, .string p0.R.From, .string p0.R.To, .int .i64 p0.Rev, .slice a0_4 p0.Cmps.length c0_4, .slice a0_5 p0.Then.length c0_5, .slice a0_6 p0.Else.length c0_6] 27⟩]] : List Blk)) ?_ (fun J14 => ?_)
   ·
    rintro _ h14 e14 w14 _
    replace hF := hK14
    obtain rfl := someI hF
    exact Goes.weak (J4 () _ e14 w14 trivial) (Sub.cons (Sub.cons (Sub.nil _) rfl) rfl)
   ·
    refine g_cond (b := (p0.Kind == 2)) (ot rfl) (fun hc13 => ?_) (fun hc13 => ?_)
    ·
     replace hF := ifT hc13 hF
     refine go_region ?_
     refine gr rfl (r_fa (ot rfl) (fa_27_1 _ _)) ?_
     refine gr rfl (r_load (ot rfl) (lm_a (vs := [_, _]) (mem_seg 0 rfl) ag_23 sz_23 rfl rfl)) ?_
     replace hF := obind hF
     obtain ⟨x15, hx15, hF⟩ := hF
     refine g_callp (v := .bool x15) EE_fr rfl of (os1 (ot rfl) os0) hb_28 (fun _ => rfl) (fun hf kn w => by exact s_key_MayRange w p0.R  hx15) ?_
     refine gM rfl rfl ?_
     refine grt rfl rfl rfl rfl (r_fa (ot rfl) (fa_27_2 _ _)) ?_
     refine grt rfl rfl rfl rfl (r_load (og rfl id) (lm_s (mem_seg 0 rfl) ag_3 rfl)) ?_
     refine grt rfl rfl rfl rfl (r_bin (og rfl id) (oc rfl) rfl) ?_
     refine gr rfl (r_pickb (ot rfl) (og rfl id) (oc rfl)) ?_
     refine gA rfl rfl ?_
     refine go_nil ?_
     obtain rfl := someI hF
     exact Goes.weak (J14 () _ (HExt.refl _) hw trivial) (Sub.cons (Sub.cons (Sub.nil _) rfl) rfl)
    ·
     replace hF := ifF hc13 hF
     refine go_seq ?_
     refine go_region ?_
     refine gr rfl (r_bin (ot rfl) (oc rfl) rfl) ?_
     refine gA rfl rfl ?_
     refine go_nil ?_
     replace hF := obind hF
     obtain ⟨s17, hF, hK17⟩ := hF
     refine go_joinc (β := Unit) (fun s h' => True) (fun s => [(2, true, .int .i64 0), (3, true, .bool s17)]) (fun s => (List.flatten [[⟨b1_2, .cells [.int .i64 p0.Kind, .string p0.R.From, .string p0.R.To, .int .i64 p0.Rev, .slice a0_4 p0.Cmps.length c0_4, .slice a0_5 p0.Then.length c0_5, .slice a0_6 p0.Else.length c0_6] 27⟩]] : List Blk)) ?_ (fun J17 => ?_)
     ·
      rintro _ h17 e17 w17 _
      replace hF := hK17
      obtain rfl := someI hF
      exact Goes.weak (J14 () _ e17 w17 trivial) (Sub.cons (Sub.cons (Sub.nil _) rfl) rfl)
     ·
      refine g_cond (b := (p0.Kind == 3)) (ot rfl) (fun hc16 => ?_) (fun hc16 => ?_)
      ·
       replace hF := ifT hc16 hF
       refine go_region ?_
       refine gr rfl (r_fa (ot rfl) (fa_27_2 _ _)) ?_
       refine gr rfl (r_load (ot rfl) (lm_s (mem_seg 0 rfl) ag_3 rfl)) ?_
       refine gr rfl (r_bin (ot rfl) (oc rfl) rfl) ?_
       refine gA rfl rfl ?_
       refine go_nil ?_
       obtain rfl := someI hF
       exact Goes.weak (J17 () _ (HExt.refl _) hw trivial) (Sub.cons (Sub.cons (Sub.nil _) rfl) rfl)
      ·
       replace hF := ifF hc16 hF
       refine go_skip ?_
       obtain rfl := someI hF
       exact Goes.weak (J17 () _ (HExt.refl _) hw trivial) (Sub.cons (Sub.cons (Sub.nil _) rfl) rfl)
end Go.Proofs.YtmogkmckjgeoiaaGreat.V
