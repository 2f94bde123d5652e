/- A thread's place, told by hand.
   No condition: these are laws of the clean machine and of this program. -/
import Derived.Test.YtndhbaidibioeaaGreatMm
import Derived.Test.YtndhbaidibioeaaGreatVo
namespace Go.Proofs.YtndhbaidibioeaaGreat.V
open Go
set_option linter.unusedVariables false
set_option linter.unusedSimpArgs false
set_option maxRecDepth 100000
set_option maxHeartbeats 4000000
theorem ia_own {E : Env} {t e k : Nat} {ik : IntKind} {b n c : Nat} {i : Int} (hu : E.P.underlying t = some (.slice e)) (hz : sz E.P e = some k) (h0 : 0 ≤ i) (hi : i < (n : Int)) :
 indexAddrV E t (.slice (some ⟨b, 0, none⟩) n c) (.int ik i) = some (.pointer (some ⟨b, i.toNat * k, none⟩)) := by
 unfold indexAddrV
 dsimp only
 rw [hu]
 dsimp only
 rw [if_pos ⟨h0, hi⟩, hz]
 simp only [elemAddr, Nat.zero_add]
theorem s_crowd_thread_ok {h : Heap} (hw : Wf h) {bp b n : Nat} {u1 u2 : Value} {i : Int} (hz : 0 ≤ i) (hi : i < (n : Int)) :
 EvO EE 64 [.pointer (some ⟨bp, 0, none⟩), .int .i64 i] [[⟨bp, .cells [.slice (some ⟨b, 0, none⟩) n n, u1, u2] 122⟩]] h (fun v S h1 => v = .pointer (some ⟨b, i.toNat * 2, none⟩) ∧ S = [[⟨bp, .cells [.slice (some ⟨b, 0, none⟩) n n, u1, u2] 122⟩]]) := by
 refine evo_of rfl at_64 rfl rfl ?_
 refine go_seq ?_
 refine go_region ?_
 refine gAc rfl rfl ?_
 refine go_nil ?_
 refine go_seq ?_
 refine go_seq ?_
 refine go_region ?_
 refine gM rfl rfl ?_
 refine gr rfl (r_bin (v := .bool false) (ot rfl) (oc rfl) (by first | rfl | kernel_rfl)) ?_
 refine gM rfl rfl ?_
 refine g_do rfl rfl rfl ?_
 refine gM rfl rfl ?_
 refine g_do rfl rfl rfl ?_
 refine gr rfl (r_bin (ot rfl) (oc rfl) rfl) ?_
 refine gr rfl (r_pkF (ot rfl) (ot rfl)) ?_
 refine gM rfl rfl ?_
 refine go_joinr 8 (β := Unit) (fun s h' => True) (fun s => [(0, true, .pointer (some ⟨bp, 0, none⟩)), (1, true, .int .i64 i), (4, true, .pointer none), (19, true, .bool false)]) (fun s => (List.flatten [[⟨bp, .cells [.slice (some ⟨b, 0, none⟩) n n, u1, u2] 122⟩]] : List Blk)) ?_ (fun J2 => ?_)
 ·
  rintro _ h2 e2 w2 _
  refine go_nil ?_
  refine g_cond (b := false) (ot rfl) (fun hc3 => ?_) (fun hc3 => ?_)
  ·
   cases hc3
  ·
   refine go_skip ?_
   repeat refine go_seq ?_
   refine go_region (gM rfl rfl (gr rfl (r_nilck (ot rfl)) (gr rfl (r_fa (ot rfl) (fa_122_0 _ _)) (gr rfl (r_load (ot rfl) (lm_s (mem_seg 0 rfl) ag_120 rfl)) (gM rfl rfl (gr rfl (r_ia (ot rfl) (ot rfl) (ia_own (k := 2) ut_120 sz_118 hz hi)) (gA rfl rfl (go_nil ?_))))))))
   exact g_ret (rst rfl rs0) (fun h1 hf hs => ⟨[[⟨bp, .cells [.slice (some ⟨b, 0, none⟩) n n, u1, u2] 122⟩]], _, hf, e2, w2, hs, (ndb (by intro e; cases e) nd0), ⟨rfl, rfl⟩⟩)
 ·
  rcases Bool.eq_false_or_eq_true (decide (i < 0)) with hb1 | hb1
  ·
   exact absurd (of_decide_eq_true hb1) (by omega)
  ·
   have hb1' : ¬ i < 0 := of_decide_eq_false hb1
   refine go_re 11 (v2 := .bool false) rfl (congrArg Value.bool hb1) ?_
   refine g_do rfl rfl rfl ?_
   refine gM rfl rfl ?_
   refine g_do rfl rfl rfl ?_
   refine gM rfl rfl ?_
   refine g_do rfl rfl rfl ?_
   refine gr rfl (r_nilck (ot rfl)) ?_
   refine g_do rfl rfl rfl ?_
   refine gr rfl (r_fa (ot rfl) (fa_122_0 _ _)) ?_
   refine g_do rfl rfl rfl ?_
   refine gr rfl (r_load (ot rfl) (lm_s (mem_seg 0 rfl) ag_120 rfl)) ?_
   refine g_do rfl rfl rfl ?_
   refine gr rfl (r_len rfl (os1 (ot rfl) os0) (fun _ _ => ln_120)) ?_
   refine g_do rfl rfl rfl ?_
   refine gr rfl (r_bin (ot rfl) (ot rfl) rfl) ?_
   refine gr rfl (r_pkF (ot rfl) (ot rfl)) ?_
   refine go_re 19 (v2 := .bool false) rfl (congrArg Value.bool (decide_eq_false (by omega))) ?_
   exact Goes.weak (J2 () _ (HExt.refl _) hw trivial) (Sub.cons (Sub.cons (Sub.cons (Sub.cons (Sub.nil _) rfl) rfl) rfl) rfl)
theorem s_crowd_thread_bad {h : Heap} (hw : Wf h) {bp b n : Nat} {u1 u2 : Value} {i : Int} (hb : ¬ (0 ≤ i ∧ i < (n : Int))) :
 EvO EE 64 [.pointer (some ⟨bp, 0, none⟩), .int .i64 i] [[⟨bp, .cells [.slice (some ⟨b, 0, none⟩) n n, u1, u2] 122⟩]] h (fun v S h1 => v = .pointer none ∧ S = [[⟨bp, .cells [.slice (some ⟨b, 0, none⟩) n n, u1, u2] 122⟩]]) := by
 refine evo_of rfl at_64 rfl rfl ?_
 refine go_seq ?_
 refine go_region ?_
 refine gAc rfl rfl ?_
 refine go_nil ?_
 refine go_seq ?_
 refine go_seq ?_
 refine go_region ?_
 refine gM rfl rfl ?_
 refine gr rfl (r_bin (v := .bool false) (ot rfl) (oc rfl) (by first | rfl | kernel_rfl)) ?_
 refine gM rfl rfl ?_
 refine g_do rfl rfl rfl ?_
 refine gM rfl rfl ?_
 refine g_do rfl rfl rfl ?_
 refine gr rfl (r_bin (ot rfl) (oc rfl) rfl) ?_
 refine gr rfl (r_pkF (ot rfl) (ot rfl)) ?_
 refine gM rfl rfl ?_
 refine go_joinr 8 (β := Unit) (fun s h' => True) (fun s => [(0, true, .pointer (some ⟨bp, 0, none⟩)), (1, true, .int .i64 i), (4, true, .pointer none), (19, true, .bool true)]) (fun s => (List.flatten [[⟨bp, .cells [.slice (some ⟨b, 0, none⟩) n n, u1, u2] 122⟩]] : List Blk)) ?_ (fun J2 => ?_)
 ·
  rintro _ h2 e2 w2 _
  refine go_nil ?_
  refine g_cond (b := true) (ot rfl) (fun hc3 => ?_) (fun hc3 => ?_)
  ·
   refine go_seq ?_
   refine go_region ?_
   refine gAc rfl rfl ?_
   refine go_nil ?_
   exact g_ret (rst rfl rs0) (fun h1 hf hs => ⟨[[⟨bp, .cells [.slice (some ⟨b, 0, none⟩) n n, u1, u2] 122⟩]], _, hf, e2, w2, hs, (ndb (by intro e; cases e) nd0), ⟨rfl, rfl⟩⟩)
  ·
   cases hc3
 ·
  rcases Bool.eq_false_or_eq_true (decide (i < 0)) with hb1 | hb1
  ·
   refine go_re 11 (v2 := .bool true) rfl (congrArg Value.bool hb1) ?_
   refine g_no rfl rfl rfl rfl rfl ?_
   refine g_no rfl rfl rfl rfl rfl ?_
   refine g_no rfl rfl rfl rfl rfl ?_
   refine g_no rfl rfl rfl rfl rfl ?_
   refine g_no rfl rfl rfl rfl rfl ?_
   refine g_no rfl rfl rfl rfl rfl ?_
   refine g_no rfl rfl rfl rfl rfl ?_
   refine gr rfl (r_pkT (ot rfl) (oc rfl)) ?_
   exact Goes.weak (J2 () _ (HExt.refl _) hw trivial) (Sub.cons (Sub.cons (Sub.cons (Sub.cons (Sub.nil _) rfl) rfl) rfl) rfl)
  ·
   have hb1' : ¬ i < 0 := of_decide_eq_false hb1
   refine go_re 11 (v2 := .bool false) rfl (congrArg Value.bool hb1) ?_
   refine g_do rfl rfl rfl ?_
   refine gM rfl rfl ?_
   refine g_do rfl rfl rfl ?_
   refine gM rfl rfl ?_
   refine g_do rfl rfl rfl ?_
   refine gr rfl (r_nilck (ot rfl)) ?_
   refine g_do rfl rfl rfl ?_
   refine gr rfl (r_fa (ot rfl) (fa_122_0 _ _)) ?_
   refine g_do rfl rfl rfl ?_
   refine gr rfl (r_load (ot rfl) (lm_s (mem_seg 0 rfl) ag_120 rfl)) ?_
   refine g_do rfl rfl rfl ?_
   refine gr rfl (r_len rfl (os1 (ot rfl) os0) (fun _ _ => ln_120)) ?_
   refine g_do rfl rfl rfl ?_
   refine gr rfl (r_bin (ot rfl) (ot rfl) rfl) ?_
   refine gr rfl (r_pkF (ot rfl) (ot rfl)) ?_
   refine go_re 19 (v2 := .bool true) rfl (congrArg Value.bool (decide_eq_true (by omega))) ?_
   exact Goes.weak (J2 () _ (HExt.refl _) hw trivial) (Sub.cons (Sub.cons (Sub.cons (Sub.cons (Sub.nil _) rfl) rfl) rfl) rfl)
end Go.Proofs.YtndhbaidibioeaaGreat.V
