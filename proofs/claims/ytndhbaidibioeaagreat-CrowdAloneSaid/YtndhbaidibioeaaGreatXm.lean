/- Walks.
   No condition: these are laws of the clean machine and of this program. -/
import Derived.Test.YtndhbaidibioeaaGreatXc
namespace Go.Proofs.YtndhbaidibioeaaGreat.V
open Go
set_option linter.unusedVariables false
set_option linter.unusedSimpArgs false
set_option maxRecDepth 100000
set_option maxHeartbeats 4000000
theorem s_math_bits_Mul64 {h : Heap} (hw : Wf h) (p0 : Int) (p1 : Int)   {r : Int × Int} (hF : F_math_bits_Mul64 p0 p1 = some r) :
 Ev EE 138 [.int .u64 p0, .int .u64 p1] h (fun v _ => v = .tuple #[.int .u64 r.1, .int .u64 r.2]) := by
 unfold F_math_bits_Mul64 at hF
 refine ev_of hw rfl at_138 rfl rfl (go_seg0 ?_)
 refine go_seq (go_region (gAc rfl rfl (gAc rfl rfl (go_nil (go_seq (go_region (gM rfl rfl (gr rfl (r_bin (ot rfl) (oc rfl) rfl) (gA rfl rfl (go_nil (go_seq (go_region (gM rfl rfl (gr rfl (r_bin (ot rfl) (oc rfl) rfl) (gA rfl rfl (go_nil (go_seq (go_region (gM rfl rfl (gr rfl (r_bin (ot rfl) (oc rfl) rfl) (gA rfl rfl (go_nil (go_seq ?_)))))))))))))))))))))))
 refine go_region (gM rfl rfl (gr rfl (r_bin (ot rfl) (oc rfl) rfl) (gA rfl rfl (go_nil (go_seq (go_region (gM rfl rfl (gM rfl rfl (gr rfl (r_bin (ot rfl) (ot rfl) rfl) (gA rfl rfl (go_nil (go_seq (go_region (gM rfl rfl (gM rfl rfl (gr rfl (r_bin (ot rfl) (ot rfl) rfl) (gM rfl rfl (gr rfl (r_bin (ot rfl) (oc rfl) rfl) (gr rfl (r_bin (ot rfl) (ot rfl) rfl) (gA rfl rfl (go_nil (go_seq (go_region ?_)))))))))))))))))))))))
 refine gM rfl rfl (gr rfl (r_bin (ot rfl) (oc rfl) rfl) (gA rfl rfl (go_nil (go_seq (go_region (gM rfl rfl (gr rfl (r_bin (ot rfl) (oc rfl) rfl) (gA rfl rfl (go_nil (go_seq (go_region (gM rfl rfl (gM rfl rfl (gM rfl rfl (gr rfl (r_bin (ot rfl) (ot rfl) rfl) (gr rfl (r_bin (ot rfl) (ot rfl) rfl) (gA rfl rfl (go_nil (go_seq (go_region (gM rfl rfl (gM rfl rfl (gr rfl (r_bin (ot rfl) (ot rfl) rfl) ?_)))))))))))))))))))))))
 refine gM rfl rfl (gr rfl (r_bin (ot rfl) (ot rfl) rfl) (gM rfl rfl (gr rfl (r_bin (ot rfl) (oc rfl) rfl) (gr rfl (r_bin (ot rfl) (ot rfl) rfl) (gA rfl rfl (go_nil (go_seq (go_region (gM rfl rfl (gM rfl rfl (gr rfl (r_bin (ot rfl) (ot rfl) rfl) (gA rfl rfl (go_nil ?_)))))))))))))
 obtain rfl := someI hF
 exact g_ret (rst rfl (rst rfl rs0)) (fun h1 hf hs => ⟨hs.hext, rfl⟩)
theorem s_math_bits_Mul {h : Heap} (hw : Wf h) (p0 : Int) (p1 : Int)   {r : Int × Int} (hF : F_math_bits_Mul p0 p1 = some r) :
 Ev EE 116 [.int .u64 p0, .int .u64 p1] h (fun v _ => v = .tuple #[.int .u64 r.1, .int .u64 r.2]) := by
 unfold F_math_bits_Mul at hF
 refine ev_of hw rfl at_116 rfl rfl (go_seg0 ?_)
 refine go_seq (go_region (gAc rfl rfl (gAc rfl rfl (go_nil (go_seq ?_)))))
 refine g_cond (b := false) (oc rfl) (fun hc3 => ?_) (fun hc3 => ?_)
 ·
  cases hc3
 refine go_skip (go_seq (go_region (gM rfl rfl (gM rfl rfl ?_))))
 obtain ⟨x4, hx4, hF⟩ := obind hF
 refine g_callp (v := .tuple #[.int .u64 x4.1, .int .u64 x4.2]) EE_fr rfl of (os1 (ot rfl) (os1 (ot rfl) os0)) hb_138 (fun _ => rfl) (fun hf kn w => by exact s_math_bits_Mul64 w p0 p1  hx4) (gM rfl rfl (gE rfl rfl rfl (gE rfl rfl rfl (gA rfl rfl (gA rfl rfl (go_nil (go_seq (go_region (gM rfl rfl (gM rfl rfl (gA rfl rfl (gA rfl rfl (go_nil ?_)))))))))))))
 obtain rfl := someI hF
 exact g_ret (rst rfl (rst rfl rs0)) (fun h1 hf hs => ⟨hs.hext, rfl⟩)
end Go.Proofs.YtndhbaidibioeaaGreat.V
