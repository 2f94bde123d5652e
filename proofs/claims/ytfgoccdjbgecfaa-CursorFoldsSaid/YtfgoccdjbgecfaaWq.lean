/- Walks.
   No condition: these are laws of the clean machine and of this program. -/
import Derived.Test.YtfgoccdjbgecfaaPT
namespace Go.Proofs.Ytfgoccdjbgecfaa.V
open Go
set_option linter.unusedVariables false
set_option linter.unusedSimpArgs false
set_option maxRecDepth 100000
set_option maxHeartbeats 4000000
theorem s_key_In {h : Heap} (hw : Wf h) (p0 : TRange) (p1 : ByteArray)   {r : Bool} (hF : F_key_In p0 p1 = some r) :
    Ev EE 52 [.agg #[.string p0.From, .string p0.To], .string p1] h (fun v _ => v = .bool r) := by
  unfold F_key_In at hF
  refine ev_of hw rfl at_52 rfl rfl (go_seg0 ?_)
  refine go_seq ?_
  refine go_region ?_
  refine gs_box rfl (ot rfl) rfl ?_; intro b2_1
  refine gAc rfl rfl ?_
  refine go_nil ?_
  refine go_seq ?_
  refine go_region ?_
  refine gr rfl (r_fa (ot rfl) (fa_23_0 _ _)) ?_
  refine gr rfl (r_load (ot rfl) (lm_s (mem_seg 0 rfl) ag_9 rfl)) ?_
  refine gM rfl rfl ?_
  refine gr rfl (r_bin (ot rfl) (ot rfl) rfl) ?_
  refine gM rfl rfl ?_
  refine grt rfl rfl rfl rfl (r_fa (ot rfl) (fa_23_1 _ _)) ?_
  refine grt rfl rfl rfl rfl (r_load (og rfl id) (lm_s (mem_seg 0 rfl) ag_9 rfl)) ?_
  refine grt rfl rfl rfl rfl (r_bin (og rfl id) (oc rfl) rfl) ?_
  refine grt rfl rfl rfl rfl (r_move (og rfl id)) ?_
  refine grf' rfl rfl rfl rfl (r_move (ot rfl)) ?_
  refine grf' rfl rfl rfl rfl (r_fa (ot rfl) (fa_23_1 _ _)) ?_
  refine grf' rfl rfl rfl rfl (r_load (og rfl id) (lm_s (mem_seg 0 rfl) ag_9 rfl)) ?_
  refine grf' rfl rfl rfl rfl (r_bin (og rfl id) (og rfl id) rfl) ?_
  refine grt rfl rfl rfl rfl (r_pickb (og rfl id) (oc rfl) (og rfl id)) ?_
  refine gr rfl (r_pickb (ot rfl) (og rfl id) (oc rfl)) ?_
  refine gA rfl rfl ?_
  refine go_nil ?_
  obtain rfl := someI hF
  exact g_ret (rst rfl rs0) (fun h1 hf hs => ⟨hs.hext, rfl⟩)
theorem s_cmp_isNaN {h : Heap} (hw : Wf h) (p0 : ByteArray)   {r : Bool} (hF : F_cmp_isNaN p0 = some r) :
    Ev EE 74 [.string p0] h (fun v _ => v = .bool r) := by
  unfold F_cmp_isNaN at hF
  refine ev_of hw rfl at_74 rfl rfl (go_seg0 ?_)
  refine go_seq ?_
  refine go_region ?_
  refine gAc rfl rfl ?_
  refine go_nil ?_
  refine go_seq ?_
  refine go_region ?_
  refine gM rfl rfl ?_
  refine gM rfl rfl ?_
  refine gr rfl (r_bin (ot rfl) (ot rfl) rfl) ?_
  refine gA rfl rfl ?_
  refine go_nil ?_
  obtain rfl := someI hF
  exact g_ret (rst rfl rs0) (fun h1 hf hs => ⟨hs.hext, rfl⟩)
theorem s_cmp_Compare {h : Heap} (hw : Wf h) (p0 : ByteArray) (p1 : ByteArray)   {r : Int} (hF : F_cmp_Compare p0 p1 = some r) :
    Ev EE 59 [.string p0, .string p1] h (fun v _ => v = .int .i64 r) := by
  unfold F_cmp_Compare at hF
  refine ev_of hw rfl at_59 rfl rfl (go_seg0 ?_)
  refine go_seq ?_
  refine go_region ?_
  refine gAc rfl rfl ?_
  refine go_nil ?_
  refine go_seq ?_
  refine go_region ?_
  refine gM rfl rfl ?_
  replace hF := obind hF
  obtain ⟨x1, hx1, hF⟩ := hF
  refine g_callp (v := .bool x1) EE_fr rfl of (os1 (ot rfl) os0) hb_74 (fun _ => rfl) (fun hf kn w => by exact s_cmp_isNaN w p0  hx1) ?_
  refine gA rfl rfl ?_
  refine go_nil ?_
  refine go_seq ?_
  refine go_region ?_
  refine gM rfl rfl ?_
  replace hF := obind hF
  obtain ⟨x2, hx2, hF⟩ := hF
  refine g_callp (v := .bool x2) EE_fr rfl of (os1 (ot rfl) os0) hb_74 (fun _ => rfl) (fun hf kn w => by exact s_cmp_isNaN w p1  hx2) ?_
  refine gA rfl rfl ?_
  refine go_nil ?_
  refine go_seq ?_
  refine go_seq ?_
  refine go_region ?_
  refine gM rfl rfl ?_
  refine go_nil ?_
  refine g_cond (b := x1) (ot rfl) (fun hc3 => ?_) (fun hc3 => ?_)
  ·
    replace hF := ifT hc3 hF
    refine go_seq ?_
    refine go_seq ?_
    refine go_region ?_
    refine gM rfl rfl ?_
    refine go_nil ?_
    refine g_cond (b := x2) (ot rfl) (fun hc4 => ?_) (fun hc4 => ?_)
    ·
      replace hF := ifT hc4 hF
      refine go_seq ?_
      refine go_region ?_
      refine gAc rfl rfl ?_
      refine go_nil ?_
      obtain rfl := someI hF
      exact g_ret (rst rfl rs0) (fun h1 hf hs => ⟨hs.hext, rfl⟩)
    ·
      replace hF := ifF hc4 hF
      refine go_skip ?_
      refine go_seq ?_
      refine go_region ?_
      refine gAc rfl rfl ?_
      refine go_nil ?_
      obtain rfl := someI hF
      exact g_ret (rst rfl rs0) (fun h1 hf hs => ⟨hs.hext, rfl⟩)
  ·
    replace hF := ifF hc3 hF
    refine go_skip ?_
    refine go_seq ?_
    refine go_seq ?_
    refine go_region ?_
    refine gM rfl rfl ?_
    refine go_nil ?_
    refine g_cond (b := x2) (ot rfl) (fun hc5 => ?_) (fun hc5 => ?_)
    ·
      replace hF := ifT hc5 hF
      refine go_seq ?_
      refine go_region ?_
      refine gAc rfl rfl ?_
      refine go_nil ?_
      obtain rfl := someI hF
      exact g_ret (rst rfl rs0) (fun h1 hf hs => ⟨hs.hext, rfl⟩)
    ·
      replace hF := ifF hc5 hF
      refine go_skip ?_
      refine go_seq ?_
      refine go_seq ?_
      refine go_region ?_
      refine gM rfl rfl ?_
      refine gM rfl rfl ?_
      refine gr rfl (r_bin (ot rfl) (ot rfl) rfl) ?_
      refine go_nil ?_
      refine g_cond (b := (lessB p0 p1)) (ot rfl) (fun hc6 => ?_) (fun hc6 => ?_)
      ·
        replace hF := ifT hc6 hF
        refine go_seq ?_
        refine go_region ?_
        refine gAc rfl rfl ?_
        refine go_nil ?_
        obtain rfl := someI hF
        exact g_ret (rst rfl rs0) (fun h1 hf hs => ⟨hs.hext, rfl⟩)
      ·
        replace hF := ifF hc6 hF
        refine go_skip ?_
        refine go_seq ?_
        refine go_seq ?_
        refine go_region ?_
        refine gM rfl rfl ?_
        refine gM rfl rfl ?_
        refine gr rfl (r_bin (ot rfl) (ot rfl) rfl) ?_
        refine go_nil ?_
        refine g_cond (b := (!leB p0 p1)) (ot rfl) (fun hc7 => ?_) (fun hc7 => ?_)
        ·
          replace hF := ifT hc7 hF
          refine go_seq ?_
          refine go_region ?_
          refine gAc rfl rfl ?_
          refine go_nil ?_
          obtain rfl := someI hF
          exact g_ret (rst rfl rs0) (fun h1 hf hs => ⟨hs.hext, rfl⟩)
        ·
          replace hF := ifF hc7 hF
          refine go_skip ?_
          refine go_seq ?_
          refine go_region ?_
          refine gAc rfl rfl ?_
          refine go_nil ?_
          obtain rfl := someI hF
          exact g_ret (rst rfl rs0) (fun h1 hf hs => ⟨hs.hext, rfl⟩)
end Go.Proofs.Ytfgoccdjbgecfaa.V
