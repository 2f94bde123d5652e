/- Walks.
   No condition: these are laws of the clean machine and of this program. -/
import Derived.Test.YtpfdandpmpmbiaaPT
namespace Go.Proofs.Ytpfdandpmpmbiaa.V
open Go
set_option linter.unusedVariables false
set_option linter.unusedSimpArgs false
set_option maxRecDepth 100000
set_option maxHeartbeats 4000000
theorem s_cmp_isNaN {h : Heap} (hw : Wf h) (p0 : ByteArray)   {r : Bool} (hF : F_cmp_isNaN p0 = some r) :
    Ev EE 105 [.string p0] h (fun v _ => v = .bool r) := by
  unfold F_cmp_isNaN at hF
  refine ev_of hw rfl at_105 rfl rfl (go_seg0 ?_)
  refine go_seq ?_
  refine go_region ?_
  refine gAc rfl rfl ?_
  refine go_nil ?_
  refine go_seq ?_
  refine go_region ?_
  refine gM rfl rfl ?_
  refine gM rfl rfl ?_
  refine gr rfl (r_bin (ot rfl) (ot rfl) rfl) ?_
  refine gA rfl rfl ?_
  refine go_nil ?_
  obtain rfl := someI hF
  exact g_ret (rst rfl rs0) (fun h1 hf hs => ⟨hs.hext, rfl⟩)
theorem s_cmp_Compare {h : Heap} (hw : Wf h) (p0 : ByteArray) (p1 : ByteArray)   {r : Int} (hF : F_cmp_Compare p0 p1 = some r) :
    Ev EE 85 [.string p0, .string p1] h (fun v _ => v = .int .i64 r) := by
  unfold F_cmp_Compare at hF
  refine ev_of hw rfl at_85 rfl rfl (go_seg0 ?_)
  refine go_seq ?_
  refine go_region ?_
  refine gAc rfl rfl ?_
  refine go_nil ?_
  refine go_seq ?_
  refine go_region ?_
  refine gM rfl rfl ?_
  replace hF := obind hF
  obtain ⟨x1, hx1, hF⟩ := hF
  refine g_callp (v := .bool x1) EE_fr rfl of (os1 (ot rfl) os0) hb_105 (fun _ => rfl) (fun hf kn w => by exact s_cmp_isNaN w p0  hx1) ?_
  refine gA rfl rfl ?_
  refine go_nil ?_
  refine go_seq ?_
  refine go_region ?_
  refine gM rfl rfl ?_
  replace hF := obind hF
  obtain ⟨x2, hx2, hF⟩ := hF
  refine g_callp (v := .bool x2) EE_fr rfl of (os1 (ot rfl) os0) hb_105 (fun _ => rfl) (fun hf kn w => by exact s_cmp_isNaN w p1  hx2) ?_
  refine gA rfl rfl ?_
  refine go_nil ?_
  refine go_seq ?_
  refine go_seq ?_
  refine go_region ?_
  refine gM rfl rfl ?_
  refine go_nil ?_
  refine g_cond (b := x1) (ot rfl) (fun hc3 => ?_) (fun hc3 => ?_)
  ·
    replace hF := ifT hc3 hF
    refine go_seq ?_
    refine go_seq ?_
    refine go_region ?_
    refine gM rfl rfl ?_
    refine go_nil ?_
    refine g_cond (b := x2) (ot rfl) (fun hc4 => ?_) (fun hc4 => ?_)
    ·
      replace hF := ifT hc4 hF
      refine go_seq ?_
      refine go_region ?_
      refine gAc rfl rfl ?_
      refine go_nil ?_
      obtain rfl := someI hF
      exact g_ret (rst rfl rs0) (fun h1 hf hs => ⟨hs.hext, rfl⟩)
    ·
      replace hF := ifF hc4 hF
      refine go_skip ?_
      refine go_seq ?_
      refine go_region ?_
      refine gAc rfl rfl ?_
      refine go_nil ?_
      obtain rfl := someI hF
      exact g_ret (rst rfl rs0) (fun h1 hf hs => ⟨hs.hext, rfl⟩)
  ·
    replace hF := ifF hc3 hF
    refine go_skip ?_
    refine go_seq ?_
    refine go_seq ?_
    refine go_region ?_
    refine gM rfl rfl ?_
    refine go_nil ?_
    refine g_cond (b := x2) (ot rfl) (fun hc5 => ?_) (fun hc5 => ?_)
    ·
      replace hF := ifT hc5 hF
      refine go_seq ?_
      refine go_region ?_
      refine gAc rfl rfl ?_
      refine go_nil ?_
      obtain rfl := someI hF
      exact g_ret (rst rfl rs0) (fun h1 hf hs => ⟨hs.hext, rfl⟩)
    ·
      replace hF := ifF hc5 hF
      refine go_skip ?_
      refine go_seq ?_
      refine go_seq ?_
      refine go_region ?_
      refine gM rfl rfl ?_
      refine gM rfl rfl ?_
      refine gr rfl (r_bin (ot rfl) (ot rfl) rfl) ?_
      refine go_nil ?_
      refine g_cond (b := (lessB p0 p1)) (ot rfl) (fun hc6 => ?_) (fun hc6 => ?_)
      ·
        replace hF := ifT hc6 hF
        refine go_seq ?_
        refine go_region ?_
        refine gAc rfl rfl ?_
        refine go_nil ?_
        obtain rfl := someI hF
        exact g_ret (rst rfl rs0) (fun h1 hf hs => ⟨hs.hext, rfl⟩)
      ·
        replace hF := ifF hc6 hF
        refine go_skip ?_
        refine go_seq ?_
        refine go_seq ?_
        refine go_region ?_
        refine gM rfl rfl ?_
        refine gM rfl rfl ?_
        refine gr rfl (r_bin (ot rfl) (ot rfl) rfl) ?_
        refine go_nil ?_
        refine g_cond (b := (!leB p0 p1)) (ot rfl) (fun hc7 => ?_) (fun hc7 => ?_)
        ·
          replace hF := ifT hc7 hF
          refine go_seq ?_
          refine go_region ?_
          refine gAc rfl rfl ?_
          refine go_nil ?_
          obtain rfl := someI hF
          exact g_ret (rst rfl rs0) (fun h1 hf hs => ⟨hs.hext, rfl⟩)
        ·
          replace hF := ifF hc7 hF
          refine go_skip ?_
          refine go_seq ?_
          refine go_region ?_
          refine gAc rfl rfl ?_
          refine go_nil ?_
          obtain rfl := someI hF
          exact g_ret (rst rfl rs0) (fun h1 hf hs => ⟨hs.hext, rfl⟩)
theorem s_key_May {h : Heap} (hw : Wf h) (p0 : ByteArray)   {r : Bool} (hF : F_key_May p0 = some r) :
    Ev EE 95 [.string p0] h (fun v _ => v = .bool r) := by
  unfold F_key_May at hF
  refine ev_of hw rfl at_95 rfl rfl (go_seg0 ?_)
  refine go_seq ?_
  refine go_region ?_
  refine gAc rfl rfl ?_
  refine go_nil ?_
  refine go_seq ?_
  refine go_region ?_
  refine gM rfl rfl ?_
  refine gr rfl (r_bin (ot rfl) (oc rfl) rfl) ?_
  refine gM rfl rfl ?_
  refine grt rfl rfl rfl rfl (r_move (ot rfl)) ?_
  refine grt rfl rfl rfl rfl (r_len rfl (os1 (og rfl id) os0) (fun _ _ => ln_9)) ?_
  refine grt rfl rfl rfl rfl (r_bin (og rfl id) (oc rfl) rfl) ?_
  refine gr rfl (r_pickb (ot rfl) (og rfl id) (oc rfl)) ?_
  refine gA rfl rfl ?_
  refine go_nil ?_
  obtain rfl := someI hF
  exact g_ret (rst rfl rs0) (fun h1 hf hs => ⟨hs.hext, rfl⟩)
theorem s_key_Empty {h : Heap} (hw : Wf h) (p0 : TRange)   {r : Bool} (hF : F_key_Empty p0 = some r) :
    Ev EE 97 [.agg #[.string p0.From, .string p0.To]] h (fun v _ => v = .bool r) := by
  unfold F_key_Empty at hF
  refine ev_of hw rfl at_97 rfl rfl (go_seg0 ?_)
  refine go_seq ?_
  refine go_region ?_
  refine gs_box rfl (ot rfl) rfl ?_; intro b1_1
  refine gAc rfl rfl ?_
  refine go_nil ?_
  refine go_seq ?_
  refine go_region ?_
  refine gr rfl (r_fa (ot rfl) (fa_33_1 _ _)) ?_
  refine gr rfl (r_load (ot rfl) (lm_s (mem_seg 0 rfl) ag_9 rfl)) ?_
  refine gr rfl (r_bin (ot rfl) (oc rfl) rfl) ?_
  refine gM rfl rfl ?_
  refine grt rfl rfl rfl rfl (r_load (ot rfl) (lm_w (mem_seg 0 rfl) ag_33 sz_33 rfl)) ?_
  refine grt rfl rfl rfl rfl (r_fa (ot rfl) (fa_33_0 _ _)) ?_
  refine grt rfl rfl rfl rfl (r_load (og rfl id) (lm_s (mem_seg 0 rfl) ag_9 rfl)) ?_
  refine grt rfl rfl rfl rfl (r_fa (ot rfl) (fa_33_1 _ _)) ?_
  refine grt rfl rfl rfl rfl (r_load (og rfl id) (lm_s (mem_seg 0 rfl) ag_9 rfl)) ?_
  refine grt rfl rfl rfl rfl (r_max (os1 (og rfl id) (os1 (og rfl id) os0)) rfl) ?_
  refine grt rfl rfl rfl rfl (r_fa (ot rfl) (fa_33_1 _ _)) ?_
  refine grt rfl rfl rfl rfl (r_load (og rfl id) (lm_s (mem_seg 0 rfl) ag_9 rfl)) ?_
  refine grt rfl rfl rfl rfl (r_build (op1 (og rfl id) (op1 (og rfl id) op0)) rfl) ?_
  refine grt rfl rfl rfl rfl (r_bin (og rfl id) (og rfl id) bq_33) ?_
  refine gr rfl (r_pickb (ot rfl) (og rfl id) (oc rfl)) ?_
  refine gA rfl rfl ?_
  refine go_nil ?_
  obtain rfl := someI hF
  exact g_ret (rst rfl rs0) (fun h1 hf hs => ⟨hs.hext, rfl⟩)
theorem s_internal_stringslite_HasSuffix {h : Heap} (hw : Wf h) (p0 : ByteArray) (p1 : ByteArray)   {r : Bool} (hF : F_internal_stringslite_HasSuffix p0 p1 = some r) :
    Ev EE 126 [.string p0, .string p1] h (fun v _ => v = .bool r) := by
  unfold F_internal_stringslite_HasSuffix at hF
  refine ev_of hw rfl at_126 rfl rfl (go_seg0 ?_)
  refine go_seq ?_
  refine go_region ?_
  refine gAc rfl rfl ?_
  refine go_nil ?_
  refine go_seq ?_
  refine go_region ?_
  refine gM rfl rfl ?_
  refine gr rfl (r_len rfl (os1 (ot rfl) os0) (fun _ _ => ln_9)) ?_
  refine gM rfl rfl ?_
  refine gr rfl (r_len rfl (os1 (ot rfl) os0) (fun _ _ => ln_9)) ?_
  refine gr rfl (r_bin (ot rfl) (ot rfl) rfl) ?_
  refine gM rfl rfl ?_
  replace hF := obind hF
  obtain ⟨s2, hF, hK2⟩ := hF
  refine go_joinr 10 (β := Unit) (fun s h' => True) (fun s => [(4, true, .bool false), (20, true, .bool s2)]) (fun s => (List.flatten [] : List Blk)) ?_ (fun J2 => ?_)
  ·
    rintro _ h2 e2 w2 _
    replace hF := hK2
    refine gA rfl rfl ?_
    refine go_nil ?_
    obtain rfl := someI hF
    exact g_ret (rst rfl rs0) (fun h1 hf hs => ⟨(e2.trans hs.hext), rfl⟩)
  ·
    rcases Bool.eq_false_or_eq_true (decide ((p0.size : Int) ≥ (p1.size : Int))) with hb1 | hb1
    ·
      replace hF := ifT hb1 hF
      refine go_re 10 (v2 := .bool true) rfl (congrArg Value.bool hb1) ?_
      refine g_do rfl rfl rfl ?_
      refine gM rfl rfl ?_
      refine g_do rfl rfl rfl ?_
      refine gM rfl rfl ?_
      refine g_do rfl rfl rfl ?_
      refine gr rfl (r_len rfl (os1 (ot rfl) os0) (fun _ _ => ln_9)) ?_
      refine g_do rfl rfl rfl ?_
      refine gM rfl rfl ?_
      refine g_do rfl rfl rfl ?_
      refine gr rfl (r_len rfl (os1 (ot rfl) os0) (fun _ _ => ln_9)) ?_
      refine g_do rfl rfl rfl ?_
      refine gr rfl (r_bin (ot rfl) (ot rfl) rfl) ?_
      refine g_do rfl rfl rfl ?_
      replace hF := obind hF
      obtain ⟨x3, hx3, hF⟩ := hF
      refine gr rfl (r_slice (ot rfl) (oo (ot rfl)) on on (fun hf kn => subS_lo (by kernel_rfl) hx3)) ?_
      refine g_do rfl rfl rfl ?_
      refine gM rfl rfl ?_
      refine g_do rfl rfl rfl ?_
      refine gr rfl (r_bin (ot rfl) (ot rfl) rfl) ?_
      refine gr rfl (r_pkT (ot rfl) (ot rfl)) ?_
      obtain rfl := someI hF
      exact Goes.weak (J2 () _ (HExt.refl _) hw trivial) (Sub.cons (Sub.cons (Sub.nil _) rfl) rfl)
    ·
      replace hF := ifF hb1 hF
      refine go_re 10 (v2 := .bool false) rfl (congrArg Value.bool hb1) ?_
      refine g_no rfl rfl rfl rfl rfl ?_
      refine g_no rfl rfl rfl rfl rfl ?_
      refine g_no rfl rfl rfl rfl rfl ?_
      refine g_no rfl rfl rfl rfl rfl ?_
      refine g_no rfl rfl rfl rfl rfl ?_
      refine g_no rfl rfl rfl rfl rfl ?_
      refine g_no rfl rfl rfl rfl rfl ?_
      refine g_no rfl rfl rfl rfl rfl ?_
      refine g_no rfl rfl rfl rfl rfl ?_
      refine gr rfl (r_pkF (ot rfl) (oc rfl)) ?_
      obtain rfl := someI hF
      exact Goes.weak (J2 () _ (HExt.refl _) hw trivial) (Sub.cons (Sub.cons (Sub.nil _) rfl) rfl)
theorem s_internal_stringslite_TrimSuffix {h : Heap} (hw : Wf h) (p0 : ByteArray) (p1 : ByteArray)   {r : ByteArray} (hF : F_internal_stringslite_TrimSuffix p0 p1 = some r) :
    Ev EE 112 [.string p0, .string p1] h (fun v _ => v = .string r) := by
  unfold F_internal_stringslite_TrimSuffix at hF
  refine ev_of hw rfl at_112 rfl rfl (go_seg0 ?_)
  refine go_seq ?_
  refine go_region ?_
  refine gAc rfl rfl ?_
  refine go_nil ?_
  refine go_seq ?_
  refine go_seq ?_
  refine go_region ?_
  refine gM rfl rfl ?_
  refine gM rfl rfl ?_
  replace hF := obind hF
  obtain ⟨x1, hx1, hF⟩ := hF
  refine g_callp (v := .bool x1) EE_fr rfl of (os1 (ot rfl) (os1 (ot rfl) os0)) hb_126 (fun _ => rfl) (fun hf kn w => by exact s_internal_stringslite_HasSuffix w p0 p1  hx1) ?_
  refine go_nil ?_
  refine g_cond (b := x1) (ot rfl) (fun hc2 => ?_) (fun hc2 => ?_)
  ·
    replace hF := ifT hc2 hF
    refine go_seq ?_
    refine go_region ?_
    refine gM rfl rfl ?_
    refine gM rfl rfl ?_
    refine gr rfl (r_len rfl (os1 (ot rfl) os0) (fun _ _ => ln_9)) ?_
    refine gM rfl rfl ?_
    refine gr rfl (r_len rfl (os1 (ot rfl) os0) (fun _ _ => ln_9)) ?_
    refine gr rfl (r_bin (ot rfl) (ot rfl) rfl) ?_
    replace hF := obind hF
    obtain ⟨x3, hx3, hF⟩ := hF
    refine gr rfl (r_slice (ot rfl) on (oo (ot rfl)) on (fun hf kn => subS_hi (by kernel_rfl) hx3)) ?_
    refine gA rfl rfl ?_
    refine go_nil ?_
    obtain rfl := someI hF
    exact g_ret (rst rfl rs0) (fun h1 hf hs => ⟨hs.hext, rfl⟩)
  ·
    replace hF := ifF hc2 hF
    refine go_skip ?_
    refine go_seq ?_
    refine go_region ?_
    refine gM rfl rfl ?_
    refine gA rfl rfl ?_
    refine go_nil ?_
    obtain rfl := someI hF
    exact g_ret (rst rfl rs0) (fun h1 hf hs => ⟨hs.hext, rfl⟩)
theorem s_strings_TrimSuffix {h : Heap} (hw : Wf h) (p0 : ByteArray) (p1 : ByteArray)   {r : ByteArray} (hF : F_strings_TrimSuffix p0 p1 = some r) :
    Ev EE 98 [.string p0, .string p1] h (fun v _ => v = .string r) := by
  unfold F_strings_TrimSuffix at hF
  refine ev_of hw rfl at_98 rfl rfl (go_seg0 ?_)
  refine go_seq ?_
  refine go_region ?_
  refine gAc rfl rfl ?_
  refine go_nil ?_
  refine go_seq ?_
  refine go_region ?_
  refine gM rfl rfl ?_
  refine gM rfl rfl ?_
  replace hF := obind hF
  obtain ⟨x1, hx1, hF⟩ := hF
  refine g_callp (v := .string x1) EE_fr rfl of (os1 (ot rfl) (os1 (ot rfl) os0)) hb_112 (fun _ => rfl) (fun hf kn w => by exact s_internal_stringslite_TrimSuffix w p0 p1  hx1) ?_
  refine gA rfl rfl ?_
  refine go_nil ?_
  obtain rfl := someI hF
  exact g_ret (rst rfl rs0) (fun h1 hf hs => ⟨hs.hext, rfl⟩)
theorem s_key_MayRange {h : Heap} (hw : Wf h) (p0 : TRange)   {r : Bool} (hF : F_key_MayRange p0 = some r) :
    Ev EE 71 [.agg #[.string p0.From, .string p0.To]] h (fun v _ => v = .bool r) := by
  unfold F_key_MayRange at hF
  refine ev_of hw rfl at_71 rfl rfl (go_seg0 ?_)
  refine go_seq ?_
  refine go_region ?_
  refine gs_box rfl (ot rfl) rfl ?_; intro b1_1
  refine gAc rfl rfl ?_
  refine go_nil ?_
  refine go_seq ?_
  refine go_region ?_
  refine gr rfl (r_load (ot rfl) (lm_w (mem_seg 0 rfl) ag_33 sz_33 rfl)) ?_
  replace hF := obind hF
  obtain ⟨x2, hx2, hF⟩ := hF
  refine g_callp (v := .bool x2) EE_fr rfl of (os1 (ot rfl) os0) hb_97 (fun _ => rfl) (fun hf kn w => by exact s_key_Empty w p0  hx2) ?_
  refine gr rfl (r_un (ot rfl) rfl) ?_
  refine gM rfl rfl ?_
  refine grt rfl rfl rfl rfl (r_fa (ot rfl) (fa_33_0 _ _)) ?_
  refine grt rfl rfl rfl rfl (r_load (og rfl id) (lm_s (mem_seg 0 rfl) ag_9 rfl)) ?_
  refine grt rfl rfl rfl rfl (r_len rfl (os1 (og rfl id) os0) (fun _ _ => ln_9)) ?_
  refine grt rfl rfl rfl rfl (r_bin (og rfl id) (oc rfl) rfl) ?_
  refine gr rfl (r_pickb (ot rfl) (og rfl id) (oc rfl)) ?_
  refine gM rfl rfl ?_
  replace hF := obind hF
  obtain ⟨s4, hF, hK4⟩ := hF
  refine go_joinr 6 (β := Unit) (fun s h' => True) (fun s => [(2, true, .bool false), (18, true, .bool s4)]) (fun s => (List.flatten [[⟨b1_1, .cells [.string p0.From, .string p0.To] 33⟩]] : List Blk)) ?_ (fun J4 => ?_)
  ·
    rintro _ h4 e4 w4 _
    replace hF := hK4
    refine gA rfl rfl ?_
    refine go_nil ?_
    obtain rfl := someI hF
    exact g_ret (rst rfl rs0) (fun h1 hf hs => ⟨(e4.trans hs.hext), rfl⟩)
  ·
    rcases Bool.eq_false_or_eq_true (bif (!x2) then (decide ((p0.From.size : Int) ≤ 8)) else false) with hb3 | hb3
    ·
      replace hF := ifT hb3 hF
      refine go_re 12 (v2 := .bool true) rfl (congrArg Value.bool hb3) ?_
      refine g_do rfl rfl rfl ?_
      refine gr rfl (r_fa (ot rfl) (fa_33_1 _ _)) ?_
      refine g_do rfl rfl rfl ?_
      refine gr rfl (r_load (ot rfl) (lm_s (mem_seg 0 rfl) ag_9 rfl)) ?_
      refine g_do rfl rfl rfl ?_
      replace hF := obind hF
      obtain ⟨x5, hx5, hF⟩ := hF
      refine g_callp (v := .string x5) EE_fr rfl of (os1 (ot rfl) (os1 (oc rfl) os0)) hb_98 (fun _ => rfl) (fun hf kn w => by exact s_strings_TrimSuffix w p0.To (⟨#[0]⟩ : ByteArray)  hx5) ?_
      refine g_do rfl rfl rfl ?_
      refine gr rfl (r_len rfl (os1 (ot rfl) os0) (fun _ _ => ln_9)) ?_
      refine g_do rfl rfl rfl ?_
      refine gr rfl (r_bin (ot rfl) (oc rfl) rfl) ?_
      refine gr rfl (r_pkT (ot rfl) (ot rfl)) ?_
      obtain rfl := someI hF
      exact Goes.weak (J4 () _ (HExt.refl _) hw trivial) (Sub.cons (Sub.cons (Sub.nil _) rfl) rfl)
    ·
      replace hF := ifF hb3 hF
      refine go_re 12 (v2 := .bool false) rfl (congrArg Value.bool hb3) ?_
      refine g_no rfl rfl rfl rfl rfl ?_
      refine g_no rfl rfl rfl rfl rfl ?_
      refine g_no rfl rfl rfl rfl rfl ?_
      refine g_no rfl rfl rfl rfl rfl ?_
      refine g_no rfl rfl rfl rfl rfl ?_
      refine gr rfl (r_pkF (ot rfl) (oc rfl)) ?_
      obtain rfl := someI hF
      exact Goes.weak (J4 () _ (HExt.refl _) hw trivial) (Sub.cons (Sub.cons (Sub.nil _) rfl) rfl)
theorem s_key_In {h : Heap} (hw : Wf h) (p0 : TRange) (p1 : ByteArray)   {r : Bool} (hF : F_key_In p0 p1 = some r) :
    Ev EE 56 [.agg #[.string p0.From, .string p0.To], .string p1] h (fun v _ => v = .bool r) := by
  unfold F_key_In at hF
  refine ev_of hw rfl at_56 rfl rfl (go_seg0 ?_)
  refine go_seq ?_
  refine go_region ?_
  refine gs_box rfl (ot rfl) rfl ?_; intro b2_1
  refine gAc rfl rfl ?_
  refine go_nil ?_
  refine go_seq ?_
  refine go_region ?_
  refine gr rfl (r_fa (ot rfl) (fa_33_0 _ _)) ?_
  refine gr rfl (r_load (ot rfl) (lm_s (mem_seg 0 rfl) ag_9 rfl)) ?_
  refine gM rfl rfl ?_
  refine gr rfl (r_bin (ot rfl) (ot rfl) rfl) ?_
  refine gM rfl rfl ?_
  refine grt rfl rfl rfl rfl (r_fa (ot rfl) (fa_33_1 _ _)) ?_
  refine grt rfl rfl rfl rfl (r_load (og rfl id) (lm_s (mem_seg 0 rfl) ag_9 rfl)) ?_
  refine grt rfl rfl rfl rfl (r_bin (og rfl id) (oc rfl) rfl) ?_
  refine grt rfl rfl rfl rfl (r_move (og rfl id)) ?_
  refine grf' rfl rfl rfl rfl (r_move (ot rfl)) ?_
  refine grf' rfl rfl rfl rfl (r_fa (ot rfl) (fa_33_1 _ _)) ?_
  refine grf' rfl rfl rfl rfl (r_load (og rfl id) (lm_s (mem_seg 0 rfl) ag_9 rfl)) ?_
  refine grf' rfl rfl rfl rfl (r_bin (og rfl id) (og rfl id) rfl) ?_
  refine grt rfl rfl rfl rfl (r_pickb (og rfl id) (oc rfl) (og rfl id)) ?_
  refine gr rfl (r_pickb (ot rfl) (og rfl id) (oc rfl)) ?_
  refine gA rfl rfl ?_
  refine go_nil ?_
  obtain rfl := someI hF
  exact g_ret (rst rfl rs0) (fun h1 hf hs => ⟨hs.hext, rfl⟩)
end Go.Proofs.Ytpfdandpmpmbiaa.V
