/- Walks.
   No condition: these are laws of the clean machine and of this program. -/
import Derived.Test.YtokfjifeofpkkaaGreatPT
namespace Go.Proofs.YtokfjifeofpkkaaGreat.V
open Go
set_option linter.unusedVariables false
set_option linter.unusedSimpArgs false
set_option maxRecDepth 100000
set_option maxHeartbeats 4000000
theorem s_token_Put {h : Heap} (hw : Wf h) (p0 : Ttoken_Token)   {r : ByteArray} (hF : F_token_Put p0 = some r) :
 Ev EE 28 [.agg #[.string p0.R.From, .string p0.R.To, .int .i64 p0.Next, .bool p0.Once]] h (fun v _ => v = .string r) := by
 unfold F_token_Put at hF
 split at hF
 ·
  rename_i q
  cases hF
  refine ⟨1, _, h, ?_, HExt.refl h, rfl⟩
  have e : EE.prim 28 = some putP := by kernel_rfl
  rw [run_prim e, putP_eq q.1 q.2]
 ·
  cases hF
theorem s_key_Empty {h : Heap} (hw : Wf h) (p0 : TRange)   {r : Bool} (hF : F_key_Empty p0 = some r) :
 Ev EE 77 [.agg #[.string p0.From, .string p0.To]] h (fun v _ => v = .bool r) := by
 unfold F_key_Empty at hF
 refine ev_of hw rfl at_77 rfl rfl (go_seg0 ?_)
 refine go_seq ?_
 refine go_region ?_
 refine gs_box rfl (ot rfl) rfl ?_; intro b1_2
 refine gAc rfl rfl ?_
 refine go_nil ?_
 refine go_seq ?_
 refine go_region ?_
 refine gr rfl (r_fa (ot rfl) (fa_23_1 _ _)) ?_
 refine gr rfl (r_load (ot rfl) (lm_s (mem_seg 0 rfl) ag_9 rfl)) ?_
 refine gr rfl (r_bin (ot rfl) (oc rfl) rfl) ?_
 refine gM rfl rfl ?_
 refine grt rfl rfl rfl rfl (r_load (ot rfl) (lm_w (mem_seg 0 rfl) ag_23 sz_23 rfl)) ?_
 refine grt rfl rfl rfl rfl (r_fa (ot rfl) (fa_23_0 _ _)) ?_
 refine grt rfl rfl rfl rfl (r_load (og rfl id) (lm_s (mem_seg 0 rfl) ag_9 rfl)) ?_
 refine grt rfl rfl rfl rfl (r_fa (ot rfl) (fa_23_1 _ _)) ?_
 refine grt rfl rfl rfl rfl (r_load (og rfl id) (lm_s (mem_seg 0 rfl) ag_9 rfl)) ?_
 refine grt rfl rfl rfl rfl (r_max (os1 (og rfl id) (os1 (og rfl id) os0)) rfl) ?_
 refine grt rfl rfl rfl rfl (r_fa (ot rfl) (fa_23_1 _ _)) ?_
 refine grt rfl rfl rfl rfl (r_load (og rfl id) (lm_s (mem_seg 0 rfl) ag_9 rfl)) ?_
 refine grt rfl rfl rfl rfl (r_build (op1 (og rfl id) (op1 (og rfl id) op0)) rfl) ?_
 refine grt rfl rfl rfl rfl (r_bin (og rfl id) (og rfl id) bq_23) ?_
 refine gr rfl (r_pickb (ot rfl) (og rfl id) (oc rfl)) ?_
 refine gA rfl rfl ?_
 refine go_nil ?_
 obtain rfl := someI hF
 exact g_ret (rst rfl rs0) (fun h1 hf hs => ⟨hs.hext, rfl⟩)
theorem s_internal_stringslite_HasSuffix {h : Heap} (hw : Wf h) (p0 : ByteArray) (p1 : ByteArray)   {r : Bool} (hF : F_internal_stringslite_HasSuffix p0 p1 = some r) :
 Ev EE 169 [.string p0, .string p1] h (fun v _ => v = .bool r) := by
 unfold F_internal_stringslite_HasSuffix at hF
 refine ev_of hw rfl at_169 rfl rfl (go_seg0 ?_)
 refine go_seq ?_
 refine go_region ?_
 refine gAc rfl rfl ?_
 refine go_nil ?_
 refine go_seq ?_
 refine go_region ?_
 refine gM rfl rfl ?_
 refine gr rfl (r_len rfl (os1 (ot rfl) os0) (fun _ _ => ln_9)) ?_
 refine gM rfl rfl ?_
 refine gr rfl (r_len rfl (os1 (ot rfl) os0) (fun _ _ => ln_9)) ?_
 refine gr rfl (r_bin (ot rfl) (ot rfl) rfl) ?_
 refine gM rfl rfl ?_
 replace hF := obind hF
 obtain ⟨s4, hF, hK4⟩ := hF
 refine go_joinr 10 (β := Unit) (fun s h' => True) (fun s => [(4, true, .bool false), (20, true, .bool s4)]) (fun s => (List.flatten [] : List Blk)) ?_ (fun J4 => ?_)
 ·
  rintro _ h4 e4 w4 _
  replace hF := hK4
  refine gA rfl rfl ?_
  refine go_nil ?_
  obtain rfl := someI hF
  exact g_ret (rst rfl rs0) (fun h1 hf hs => ⟨(e4.trans hs.hext), rfl⟩)
 ·
  rcases Bool.eq_false_or_eq_true (decide ((p0.size : Int) ≥ (p1.size : Int))) with hb3 | hb3
  ·
   replace hF := ifT hb3 hF
   refine go_re 10 (v2 := .bool true) rfl (congrArg Value.bool hb3) ?_
   refine g_do rfl rfl rfl ?_
   refine gM rfl rfl ?_
   refine g_do rfl rfl rfl ?_
   refine gM rfl rfl ?_
   refine g_do rfl rfl rfl ?_
   refine gr rfl (r_len rfl (os1 (ot rfl) os0) (fun _ _ => ln_9)) ?_
   refine g_do rfl rfl rfl ?_
   refine gM rfl rfl ?_
   refine g_do rfl rfl rfl ?_
   refine gr rfl (r_len rfl (os1 (ot rfl) os0) (fun _ _ => ln_9)) ?_
   refine g_do rfl rfl rfl ?_
   refine gr rfl (r_bin (ot rfl) (ot rfl) rfl) ?_
   refine g_do rfl rfl rfl ?_
   replace hF := obind hF
   obtain ⟨x5, hx5, hF⟩ := hF
   refine gr rfl (r_slice (ot rfl) (oo (ot rfl)) on on (fun hf kn => subS_lo (by kernel_rfl) hx5)) ?_
   refine g_do rfl rfl rfl ?_
   refine gM rfl rfl ?_
   refine g_do rfl rfl rfl ?_
   refine gr rfl (r_bin (ot rfl) (ot rfl) rfl) ?_
   refine gr rfl (r_pkT (ot rfl) (ot rfl)) ?_
   obtain rfl := someI hF
   exact Goes.weak (J4 () _ (HExt.refl _) hw trivial) (Sub.cons (Sub.cons (Sub.nil _) rfl) rfl)
  ·
   replace hF := ifF hb3 hF
   refine go_re 10 (v2 := .bool false) rfl (congrArg Value.bool hb3) ?_
   refine g_no rfl rfl rfl rfl rfl ?_
   refine g_no rfl rfl rfl rfl rfl ?_
   refine g_no rfl rfl rfl rfl rfl ?_
   refine g_no rfl rfl rfl rfl rfl ?_
   refine g_no rfl rfl rfl rfl rfl ?_
   refine g_no rfl rfl rfl rfl rfl ?_
   refine g_no rfl rfl rfl rfl rfl ?_
   refine g_no rfl rfl rfl rfl rfl ?_
   refine g_no rfl rfl rfl rfl rfl ?_
   refine gr rfl (r_pkF (ot rfl) (oc rfl)) ?_
   obtain rfl := someI hF
   exact Goes.weak (J4 () _ (HExt.refl _) hw trivial) (Sub.cons (Sub.cons (Sub.nil _) rfl) rfl)
theorem s_internal_stringslite_TrimSuffix {h : Heap} (hw : Wf h) (p0 : ByteArray) (p1 : ByteArray)   {r : ByteArray} (hF : F_internal_stringslite_TrimSuffix p0 p1 = some r) :
 Ev EE 138 [.string p0, .string p1] h (fun v _ => v = .string r) := by
 unfold F_internal_stringslite_TrimSuffix at hF
 refine ev_of hw rfl at_138 rfl rfl (go_seg0 ?_)
 refine go_seq ?_
 refine go_region ?_
 refine gAc rfl rfl ?_
 refine go_nil ?_
 refine go_seq ?_
 refine go_seq ?_
 refine go_region ?_
 refine gM rfl rfl ?_
 refine gM rfl rfl ?_
 replace hF := obind hF
 obtain ⟨x3, hx3, hF⟩ := hF
 refine g_callp (v := .bool x3) EE_fr rfl of (os1 (ot rfl) (os1 (ot rfl) os0)) hb_169 (fun _ => rfl) (fun hf kn w => by exact s_internal_stringslite_HasSuffix w p0 p1  hx3) ?_
 refine go_nil ?_
 refine g_cond (b := x3) (ot rfl) (fun hc4 => ?_) (fun hc4 => ?_)
 ·
  replace hF := ifT hc4 hF
  refine go_seq ?_
  refine go_region ?_
  refine gM rfl rfl ?_
  refine gM rfl rfl ?_
  refine gr rfl (r_len rfl (os1 (ot rfl) os0) (fun _ _ => ln_9)) ?_
  refine gM rfl rfl ?_
  refine gr rfl (r_len rfl (os1 (ot rfl) os0) (fun _ _ => ln_9)) ?_
  refine gr rfl (r_bin (ot rfl) (ot rfl) rfl) ?_
  replace hF := obind hF
  obtain ⟨x5, hx5, hF⟩ := hF
  refine gr rfl (r_slice (ot rfl) on (oo (ot rfl)) on (fun hf kn => subS_hi (by kernel_rfl) hx5)) ?_
  refine gA rfl rfl ?_
  refine go_nil ?_
  obtain rfl := someI hF
  exact g_ret (rst rfl rs0) (fun h1 hf hs => ⟨hs.hext, rfl⟩)
 ·
  replace hF := ifF hc4 hF
  refine go_skip ?_
  refine go_seq ?_
  refine go_region ?_
  refine gM rfl rfl ?_
  refine gA rfl rfl ?_
  refine go_nil ?_
  obtain rfl := someI hF
  exact g_ret (rst rfl rs0) (fun h1 hf hs => ⟨hs.hext, rfl⟩)
theorem s_strings_TrimSuffix {h : Heap} (hw : Wf h) (p0 : ByteArray) (p1 : ByteArray)   {r : ByteArray} (hF : F_strings_TrimSuffix p0 p1 = some r) :
 Ev EE 94 [.string p0, .string p1] h (fun v _ => v = .string r) := by
 unfold F_strings_TrimSuffix at hF
 refine ev_of hw rfl at_94 rfl rfl (go_seg0 ?_)
 refine go_seq ?_
 refine go_region ?_
 refine gAc rfl rfl ?_
 refine go_nil ?_
 refine go_seq ?_
 refine go_region ?_
 refine gM rfl rfl ?_
 refine gM rfl rfl ?_
 replace hF := obind hF
 obtain ⟨x3, hx3, hF⟩ := hF
 refine g_callp (v := .string x3) EE_fr rfl of (os1 (ot rfl) (os1 (ot rfl) os0)) hb_138 (fun _ => rfl) (fun hf kn w => by exact s_internal_stringslite_TrimSuffix w p0 p1  hx3) ?_
 refine gA rfl rfl ?_
 refine go_nil ?_
 obtain rfl := someI hF
 exact g_ret (rst rfl rs0) (fun h1 hf hs => ⟨hs.hext, rfl⟩)
theorem s_key_MayRange {h : Heap} (hw : Wf h) (p0 : TRange)   {r : Bool} (hF : F_key_MayRange p0 = some r) :
 Ev EE 58 [.agg #[.string p0.From, .string p0.To]] h (fun v _ => v = .bool r) := by
 unfold F_key_MayRange at hF
 refine ev_of hw rfl at_58 rfl rfl (go_seg0 ?_)
 refine go_seq ?_
 refine go_region ?_
 refine gs_box rfl (ot rfl) rfl ?_; intro b1_2
 refine gAc rfl rfl ?_
 refine go_nil ?_
 refine go_seq ?_
 refine go_region ?_
 refine gr rfl (r_load (ot rfl) (lm_w (mem_seg 0 rfl) ag_23 sz_23 rfl)) ?_
 replace hF := obind hF
 obtain ⟨x3, hx3, hF⟩ := hF
 refine g_callp (v := .bool x3) EE_fr rfl of (os1 (ot rfl) os0) hb_77 (fun _ => rfl) (fun hf kn w => by exact s_key_Empty w p0  hx3) ?_
 refine gr rfl (r_un (ot rfl) rfl) ?_
 refine gM rfl rfl ?_
 refine grt rfl rfl rfl rfl (r_fa (ot rfl) (fa_23_0 _ _)) ?_
 refine grt rfl rfl rfl rfl (r_load (og rfl id) (lm_s (mem_seg 0 rfl) ag_9 rfl)) ?_
 refine grt rfl rfl rfl rfl (r_len rfl (os1 (og rfl id) os0) (fun _ _ => ln_9)) ?_
 refine grt rfl rfl rfl rfl (r_bin (og rfl id) (oc rfl) rfl) ?_
 refine gr rfl (r_pickb (ot rfl) (og rfl id) (oc rfl)) ?_
 refine gM rfl rfl ?_
 replace hF := obind hF
 obtain ⟨s5, hF, hK5⟩ := hF
 refine go_joinr 6 (β := Unit) (fun s h' => True) (fun s => [(2, true, .bool false), (18, true, .bool s5)]) (fun s => (List.flatten [[⟨b1_2, .cells [.string p0.From, .string p0.To] 23⟩]] : List Blk)) ?_ (fun J5 => ?_)
 ·
  rintro _ h5 e5 w5 _
  replace hF := hK5
  refine gA rfl rfl ?_
  refine go_nil ?_
  obtain rfl := someI hF
  exact g_ret (rst rfl rs0) (fun h1 hf hs => ⟨(e5.trans hs.hext), rfl⟩)
 ·
  rcases Bool.eq_false_or_eq_true (bif (!x3) then (decide ((p0.From.size : Int) ≤ 8)) else false) with hb4 | hb4
  ·
   replace hF := ifT hb4 hF
   refine go_re 12 (v2 := .bool true) rfl (congrArg Value.bool hb4) ?_
   refine g_do rfl rfl rfl ?_
   refine gr rfl (r_fa (ot rfl) (fa_23_1 _ _)) ?_
   refine g_do rfl rfl rfl ?_
   refine gr rfl (r_load (ot rfl) (lm_s (mem_seg 0 rfl) ag_9 rfl)) ?_
   refine g_do rfl rfl rfl ?_
   replace hF := obind hF
   obtain ⟨x6, hx6, hF⟩ := hF
   refine g_callp (v := .string x6) EE_fr rfl of (os1 (ot rfl) (os1 (oc rfl) os0)) hb_94 (fun _ => rfl) (fun hf kn w => by exact s_strings_TrimSuffix w p0.To (⟨#[0]⟩ : ByteArray)  hx6) ?_
   refine g_do rfl rfl rfl ?_
   refine gr rfl (r_len rfl (os1 (ot rfl) os0) (fun _ _ => ln_9)) ?_
   refine g_do rfl rfl rfl ?_
   refine gr rfl (r_bin (ot rfl) (oc rfl) rfl) ?_
   refine gr rfl (r_pkT (ot rfl) (ot rfl)) ?_
   obtain rfl := someI hF
   exact Goes.weak (J5 () _ (HExt.refl _) hw trivial) (Sub.cons (Sub.cons (Sub.nil _) rfl) rfl)
  ·
   replace hF := ifF hb4 hF
   refine go_re 12 (v2 := .bool false) rfl (congrArg Value.bool hb4) ?_
   refine g_no rfl rfl rfl rfl rfl ?_
   refine g_no rfl rfl rfl rfl rfl ?_
   refine g_no rfl rfl rfl rfl rfl ?_
   refine g_no rfl rfl rfl rfl rfl ?_
   refine g_no rfl rfl rfl rfl rfl ?_
   refine gr rfl (r_pkF (ot rfl) (oc rfl)) ?_
   obtain rfl := someI hF
   exact Goes.weak (J5 () _ (HExt.refl _) hw trivial) (Sub.cons (Sub.cons (Sub.nil _) rfl) rfl)
theorem s_token_May {h : Heap} (hw : Wf h) (p0 : Ttoken_Token)   {r : Bool} (hF : F_token_May p0 = some r) :
 Ev EE 48 [.agg #[.string p0.R.From, .string p0.R.To, .int .i64 p0.Next, .bool p0.Once]] h (fun v _ => v = .bool r) := by
 unfold F_token_May at hF
 refine ev_of hw rfl at_48 rfl rfl (go_seg0 ?_)
 refine go_seq ?_
 refine go_region ?_
 refine gs_box rfl (ot rfl) rfl ?_; intro b1_2
 refine gAc rfl rfl ?_
 refine go_nil ?_
 refine go_seq ?_
 refine go_region ?_
 refine gr rfl (r_fa (ot rfl) (fa_85_0 _ _)) ?_
 refine gr rfl (r_load (ot rfl) (lm_a (vs := [_, _]) (mem_seg 0 rfl) ag_23 sz_23 rfl rfl)) ?_
 replace hF := obind hF
 obtain ⟨x3, hx3, hF⟩ := hF
 refine g_callp (v := .bool x3) EE_fr rfl of (os1 (ot rfl) os0) hb_58 (fun _ => rfl) (fun hf kn w => by exact s_key_MayRange w p0.R  hx3) ?_
 refine gM rfl rfl ?_
 refine grt rfl rfl rfl rfl (r_fa (ot rfl) (fa_85_1 _ _)) ?_
 refine grt rfl rfl rfl rfl (r_load (og rfl id) (lm_s (mem_seg 0 rfl) ag_3 rfl)) ?_
 refine grt rfl rfl rfl rfl (r_bin (og rfl id) (oc rfl) rfl) ?_
 refine gr rfl (r_pickb (ot rfl) (og rfl id) (oc rfl)) ?_
 refine gM rfl rfl ?_
 refine grt rfl rfl rfl rfl (r_fa (ot rfl) (fa_85_1 _ _)) ?_
 refine grt rfl rfl rfl rfl (r_load (og rfl id) (lm_s (mem_seg 0 rfl) ag_3 rfl)) ?_
 refine grt rfl rfl rfl rfl (r_bin (og rfl id) (oc rfl) rfl) ?_
 refine gr rfl (r_pickb (ot rfl) (og rfl id) (oc rfl)) ?_
 refine gA rfl rfl ?_
 refine go_nil ?_
 obtain rfl := someI hF
 exact g_ret (rst rfl rs0) (fun h1 hf hs => ⟨hs.hext, rfl⟩)
theorem s_token_Take {h : Heap} (hw : Wf h) (p0 : ByteArray)   {r : Ttoken_Token × Int} (hF : F_token_Take p0 = some r) :
 Ev EE 30 [.string p0] h (fun v _ => v = .tuple #[.agg #[.string r.1.R.From, .string r.1.R.To, .int .i64 r.1.Next, .bool r.1.Once], .int .i64 r.2]) := by
 unfold F_token_Take at hF
 refine ev_of hw rfl at_30 rfl rfl (go_seg0 ?_)
 refine go_seq ?_
 refine go_region ?_
 refine gs_alloc rfl zo_85 rfl ?_; intro b2_2
 refine gAc rfl rfl ?_
 refine go_nil ?_
 refine go_seq ?_
 refine go_seq ?_
 refine go_region ?_
 refine gM rfl rfl ?_
 refine gr rfl (r_len rfl (os1 (ot rfl) os0) (fun _ _ => ln_9)) ?_
 refine gr rfl (r_bin (ot rfl) (oc rfl) rfl) ?_
 refine gM rfl rfl ?_
 replace hF := obind hF
 obtain ⟨s4, hF, hK4⟩ := hF
 refine go_joinr 8 (β := Unit) (fun s h' => True) (fun s => [(0, true, .string p0), (2, true, .pointer (some ⟨b2_2, 0, none⟩)), (3, true, .int .i64 0), (17, true, .bool s4)]) (fun s => (List.flatten [[⟨b2_2, .cells [.string ByteArray.empty, .string ByteArray.empty, .int .i64 0, .bool false] 85⟩]] : List Blk)) ?_ (fun J4 => ?_)
 ·
  rintro _ h4 e4 w4 _
  replace hF := hK4
  refine go_nil ?_
  refine g_cond (b := s4) (ot rfl) (fun hc5 => ?_) (fun hc5 => ?_)
  ·
   replace hF := ifT hc5 hF
   refine go_seq ?_
   refine go_region ?_
   refine gr rfl (r_build op0 rfl) ?_
   refine gs_store (ot rfl) (ot rfl) sz_85 rfl rfl rfl rfl rfl .z ?_
   refine gAc rfl rfl ?_
   refine go_nil ?_
   obtain rfl := someI hF
   exact g_ret (rsc rfl (lm_w (mem_seg 0 rfl) ag_85 sz_85 rfl) (rst rfl rs0)) (fun h1 hf hs => ⟨(e4.trans hs.hext), rfl⟩)
  ·
   replace hF := ifF hc5 hF
   refine go_skip ?_
   refine go_seq ?_
   refine go_region ?_
   refine gM rfl rfl ?_
   replace hF := obind hF
   obtain ⟨x6, hx6, hF⟩ := hF
   refine gr rfl (r_index (ot rfl) (oc rfl) (idxS_ok (by kernel_rfl) hx6)) ?_
   refine gr rfl (r_conv (ot rfl) rfl) ?_
   refine gA rfl rfl ?_
   refine go_nil ?_
   refine go_seq ?_
   refine go_regA1 (L := [(0, []), (1, []), (2, []), (3, []), (4, []), (5, []), (6, []), (7, []), (8, []), (9, []), (10, []), (11, []), (12, []), (13, []), (14, []), (15, []), (16, []), (17, []), (18, []), (19, []), (20, []), (21, []), (22, [])]) (by kernel_rfl) (by kernel_rfl) (fun _ => rfl) ?_; intro b5_7
   refine go_sop rfl rfl ?_
   refine gM rfl rfl ?_
   refine go_nil ?_
   refine go_sop rfl rfl ?_
   refine gM rfl rfl ?_
   refine go_nil ?_
   refine go_sop rfl rfl ?_
   refine gr rfl (r_bin (oc rfl) (ot rfl) rfl) ?_
   refine go_nil ?_
   refine go_sop rfl rfl ?_
   replace hF := obind hF
   obtain ⟨x8, hx8, hF⟩ := hF
   refine gr rfl (r_slice (ot rfl) (oo (oc rfl)) (oo (ot rfl)) on (fun hf kn => subS_both (by kernel_rfl) hx8)) ?_
   refine go_nil ?_
   refine go_sop rfl rfl ?_
   refine gM rfl rfl ?_
   refine go_nil ?_
   refine go_sop rfl rfl ?_
   refine gM rfl rfl ?_
   refine go_nil ?_
   refine go_sop rfl rfl ?_
   refine gr rfl (r_bin (oc rfl) (ot rfl) rfl) ?_
   refine go_nil ?_
   refine go_sop rfl rfl ?_
   replace hF := obind hF
   obtain ⟨x9, hx9, hF⟩ := hF
   refine gr rfl (r_slice (ot rfl) (oo (ot rfl)) on on (fun hf kn => subS_lo (by kernel_rfl) hx9)) ?_
   refine go_nil ?_
   refine go_sop rfl rfl ?_
   refine gr rfl (r_build (op1 (ot rfl) (op1 (ot rfl) op0)) rfl) ?_
   refine go_nil ?_
   refine go_sop rfl rfl ?_
   refine gM rfl rfl ?_
   refine go_nil ?_
   refine go_sop rfl rfl ?_
   replace hF := obind hF
   obtain ⟨x10, hx10, hF⟩ := hF
   refine gr rfl (r_index (ot rfl) (oc rfl) (idxS_ok (by kernel_rfl) hx10)) ?_
   refine go_nil ?_
   refine go_sop rfl rfl ?_
   refine gr rfl (r_conv (ot rfl) rfl) ?_
   refine go_nil ?_
   refine go_sop rfl rfl ?_
   refine gr rfl (r_bin (ot rfl) (oc rfl) rfl) ?_
   refine go_nil ?_
   refine go_sop rfl rfl ?_
   refine gM rfl rfl ?_
   refine go_nil ?_
   refine go_sop rfl rfl ?_
   replace hF := obind hF
   obtain ⟨x11, hx11, hF⟩ := hF
   refine gr rfl (r_index (ot rfl) (oc rfl) (idxS_ok (by kernel_rfl) hx11)) ?_
   refine go_nil ?_
   refine go_sop rfl rfl ?_
   refine gr rfl (r_conv (ot rfl) rfl) ?_
   refine go_nil ?_
   refine go_sop rfl rfl ?_
   refine gr rfl (r_bin (ot rfl) (ot rfl) rfl) ?_
   refine go_nil ?_
   refine go_sop rfl rfl ?_
   refine gM rfl rfl ?_
   refine go_nil ?_
   refine go_sop rfl rfl ?_
   replace hF := obind hF
   obtain ⟨x12, hx12, hF⟩ := hF
   refine gr rfl (r_index (ot rfl) (oc rfl) (idxS_ok (by kernel_rfl) hx12)) ?_
   refine go_nil ?_
   refine go_sop rfl rfl ?_
   refine gr rfl (r_bin (ot rfl) (oc rfl) rfl) ?_
   refine go_nil ?_
   refine go_sop rfl rfl ?_
   refine gr rfl (r_build (op1 (ot rfl) (op1 (ot rfl) (op1 (ot rfl) op0))) rfl) ?_
   refine go_nil ?_
   refine go_salloc rfl rfl rfl zo_85 rfl .z ?_
   refine go_sop rfl rfl ?_
   refine gs_store (ot rfl) (ot rfl) sz_85 rfl rfl rfl rfl rfl .z ?_
   refine go_nil ?_
   refine go_snil ?_
   refine go_seq ?_
   refine go_seq ?_
   refine go_region ?_
   refine gr rfl (r_load (ot rfl) (lm_w (mem_seg 0 rfl) ag_85 sz_85 rfl)) ?_
   replace hF := obind hF
   obtain ⟨x13, hx13, hF⟩ := hF
   refine g_callp (v := .bool x13) EE_fr rfl of (os1 (ot rfl) os0) hb_48 (fun _ => rfl) (fun hf kn w => by exact s_token_May w (⟨(⟨x8, x9⟩ : TRange), (orI .i64 (shlI .i64 (IntKind.i64.wrap x10) 8) (IntKind.i64.wrap x11)), (x12 == 111)⟩ : Ttoken_Token)  hx13) ?_
   refine gr rfl (r_un (ot rfl) rfl) ?_
   refine gM rfl rfl ?_
   replace hF := obind hF
   obtain ⟨s15, hF, hK15⟩ := hF
   refine go_joinr 5 (β := Unit) (fun s h' => True) (fun s => [(2, true, .pointer (some ⟨b2_2, 0, none⟩)), (3, true, .int .i64 0), (5, true, .pointer (some ⟨b5_7, 0, none⟩)), (51, true, .bool s15)]) (fun s => (List.flatten [[⟨b5_7, .cells [.string x8, .string x9, .int .i64 (orI .i64 (shlI .i64 (IntKind.i64.wrap x10) 8) (IntKind.i64.wrap x11)), .bool (x12 == 111)] 85⟩], [⟨b2_2, .cells [.string ByteArray.empty, .string ByteArray.empty, .int .i64 0, .bool false] 85⟩]] : List Blk)) ?_ (fun J15 => ?_)
   ·
    rintro _ h15 e15 w15 _
    replace hF := hK15
    refine go_nil ?_
    refine g_cond (b := s15) (ot rfl) (fun hc16 => ?_) (fun hc16 => ?_)
    ·
     replace hF := ifT hc16 hF
     refine go_seq ?_
     refine go_region ?_
     refine gr rfl (r_build op0 rfl) ?_
     refine gs_store (ot rfl) (ot rfl) sz_85 rfl rfl rfl rfl rfl (.s (.z)) ?_
     refine gAc rfl rfl ?_
     refine go_nil ?_
     obtain rfl := someI hF
     exact g_ret (rsc rfl (lm_w (mem_seg 1 rfl) ag_85 sz_85 rfl) (rst rfl rs0)) (fun h1 hf hs => ⟨(e4.trans (e15.trans hs.hext)), rfl⟩)
    ·
     replace hF := ifF hc16 hF
     refine go_skip ?_
     refine go_seq ?_
     refine go_region ?_
     refine gr rfl (r_load (ot rfl) (lm_w (mem_seg 0 rfl) ag_85 sz_85 rfl)) ?_
     refine gs_store (ot rfl) (ot rfl) sz_85 rfl rfl rfl rfl rfl (.s (.z)) ?_
     refine gAc rfl rfl ?_
     refine go_nil ?_
     obtain rfl := someI hF
     exact g_ret (rsc rfl (lm_w (mem_seg 1 rfl) ag_85 sz_85 rfl) (rst rfl rs0)) (fun h1 hf hs => ⟨(e4.trans (e15.trans hs.hext)), rfl⟩)
   ·
    rcases Bool.eq_false_or_eq_true (!x13) with hb14 | hb14
    ·
     replace hF := ifT hb14 hF
     refine go_re 46 (v2 := .bool true) rfl (congrArg Value.bool hb14) ?_
     refine g_no rfl rfl rfl rfl rfl ?_
     refine g_no rfl rfl rfl rfl rfl ?_
     refine g_no rfl rfl rfl rfl rfl ?_
     refine g_no rfl rfl rfl rfl rfl ?_
     refine gr rfl (r_pkT (ot rfl) (oc rfl)) ?_
     obtain rfl := someI hF
     exact Goes.weak (J15 () _ (HExt.refl _) w4 trivial) (Sub.cons (Sub.cons (Sub.cons (Sub.cons (Sub.nil _) rfl) rfl) rfl) rfl)
    ·
     replace hF := ifF hb14 hF
     refine go_re 46 (v2 := .bool false) rfl (congrArg Value.bool hb14) ?_
     refine g_do rfl rfl rfl ?_
     refine gr rfl (r_load (ot rfl) (lm_w (mem_seg 0 rfl) ag_85 sz_85 rfl)) ?_
     refine g_do rfl rfl rfl ?_
     replace hF := obind hF
     obtain ⟨x17, hx17, hF⟩ := hF
     refine g_callp (v := .string x17) EE_fr rfl of (os1 (ot rfl) os0) hb_28 (fun _ => rfl) (fun hf kn w => by exact s_token_Put w (⟨(⟨x8, x9⟩ : TRange), (orI .i64 (shlI .i64 (IntKind.i64.wrap x10) 8) (IntKind.i64.wrap x11)), (x12 == 111)⟩ : Ttoken_Token)  hx17) ?_
     refine g_do rfl rfl rfl ?_
     refine gM rfl rfl ?_
     refine g_do rfl rfl rfl ?_
     refine gr rfl (r_bin (ot rfl) (ot rfl) rfl) ?_
     refine gr rfl (r_pkF (ot rfl) (ot rfl)) ?_
     obtain rfl := someI hF
     exact Goes.weak (J15 () _ (HExt.refl _) w4 trivial) (Sub.cons (Sub.cons (Sub.cons (Sub.cons (Sub.nil _) rfl) rfl) rfl) rfl)
 ·
  rcases Bool.eq_false_or_eq_true (decide ((p0.size : Int) < 5)) with hb3 | hb3
  ·
   replace hF := ifT hb3 hF
   refine go_re 9 (v2 := .bool true) rfl (congrArg Value.bool hb3) ?_
   refine g_no rfl rfl rfl rfl rfl ?_
   refine g_no rfl rfl rfl rfl rfl ?_
   refine g_no rfl rfl rfl rfl rfl ?_
   refine g_no rfl rfl rfl rfl rfl ?_
   refine g_no rfl rfl rfl rfl rfl ?_
   refine g_no rfl rfl rfl rfl rfl ?_
   refine g_no rfl rfl rfl rfl rfl ?_
   refine gr rfl (r_pkT (ot rfl) (oc rfl)) ?_
   obtain rfl := someI hF
   exact Goes.weak (J4 () _ (HExt.refl _) hw trivial) (Sub.cons (Sub.cons (Sub.cons (Sub.cons (Sub.nil _) rfl) rfl) rfl) rfl)
  ·
   replace hF := ifF hb3 hF
   refine go_re 9 (v2 := .bool false) rfl (congrArg Value.bool hb3) ?_
   refine g_do rfl rfl rfl ?_
   refine gM rfl rfl ?_
   refine g_do rfl rfl rfl ?_
   refine gr rfl (r_len rfl (os1 (ot rfl) os0) (fun _ _ => ln_9)) ?_
   refine g_do rfl rfl rfl ?_
   refine gr rfl (r_bin (ot rfl) (oc rfl) rfl) ?_
   refine g_do rfl rfl rfl ?_
   refine gM rfl rfl ?_
   refine g_do rfl rfl rfl ?_
   replace hF := obind hF
   obtain ⟨x18, hx18, hF⟩ := hF
   refine gr rfl (r_index (ot rfl) (oc rfl) (idxS_ok (by kernel_rfl) hx18)) ?_
   refine g_do rfl rfl rfl ?_
   refine gr rfl (r_conv (ot rfl) rfl) ?_
   refine g_do rfl rfl rfl ?_
   refine gr rfl (r_bin (ot rfl) (ot rfl) rfl) ?_
   refine gr rfl (r_pkF (ot rfl) (ot rfl)) ?_
   obtain rfl := someI hF
   exact Goes.weak (J4 () _ (HExt.refl _) hw trivial) (Sub.cons (Sub.cons (Sub.cons (Sub.cons (Sub.nil _) rfl) rfl) rfl) rfl)
end Go.Proofs.YtokfjifeofpkkaaGreat.V
