/- What a cell's place is, by hand.
   No condition: these are laws of the clean machine and of this program. -/
import Derived.Test.YtndhbaidibioeaaGreatPT
import Derived.Test.YtndhbaidibioeaaGreatVq
namespace Go.Proofs.YtndhbaidibioeaaGreat.V
open Go
set_option linter.unusedVariables false
set_option linter.unusedSimpArgs false
set_option maxRecDepth 100000
set_option maxHeartbeats 4000000
theorem s_mem_at_ok {h : Heap} (hw : Wf h) {bp bb n : Nat} {c i : Int} (hz : 0 ≤ i) (hi : i < (n : Int)) :
 EvO EE 107 [.pointer (some ⟨bp, 0, none⟩), .int .i64 i] [[⟨bp, .cells [.slice (some ⟨bb, 0, some 0⟩) n n, .int .i64 c] 107⟩]] h (fun v S h1 => v = .pointer (some ⟨bb, i.toNat * 1, none⟩) ∧ S = [[⟨bp, .cells [.slice (some ⟨bb, 0, some 0⟩) n n, .int .i64 (IntKind.i64.wrap (c + 1))] 107⟩]]) := by
 refine evo_of rfl at_107 rfl rfl ?_
 refine go_seq ?_
 refine go_region ?_
 refine gAc rfl rfl ?_
 refine go_nil ?_
 refine go_seq ?_
 refine go_seq ?_
 refine go_region ?_
 refine gM rfl rfl ?_
 refine gr rfl (r_bin (v := .bool false) (ot rfl) (oc rfl) (by first | rfl | kernel_rfl)) ?_
 refine gM rfl rfl ?_
 refine g_do rfl rfl rfl ?_
 refine gM rfl rfl ?_
 refine g_do rfl rfl rfl ?_
 refine gr rfl (r_bin (ot rfl) (oc rfl) rfl) ?_
 refine gr rfl (r_pkF (ot rfl) (ot rfl)) ?_
 refine gM rfl rfl ?_
 refine go_joinr 8 (β := Unit) (fun s h' => True) (fun s => [(0, true, .pointer (some ⟨bp, 0, none⟩)), (1, true, .int .i64 i), (4, true, .pointer none), (19, true, .bool false)]) (fun s => (List.flatten [[⟨bp, .cells [.slice (some ⟨bb, 0, some 0⟩) n n, .int .i64 c] 107⟩]] : List Blk)) ?_ (fun J2 => ?_)
 ·
  rintro _ h2 e2 w2 _
  refine go_nil ?_
  refine g_cond (b := false) (ot rfl) (fun hc3 => ?_) (fun hc3 => ?_)
  ·
   cases hc3
  ·
   refine go_skip ?_
   refine go_seq ?_
   refine go_region ?_
   refine gM rfl rfl ?_
   refine gr rfl (r_nilck (ot rfl)) ?_
   refine gr rfl (r_fa (ot rfl) (fa_107_1 _ _)) ?_
   refine gr rfl (r_load (ot rfl) (lm_s (mem_seg 0 rfl) ag_3 rfl)) ?_
   refine gr rfl (r_bin (ot rfl) (oc rfl) rfl) ?_
   refine gr rfl (r_nilck (ot rfl)) ?_
   refine gr rfl (r_fa (ot rfl) (fa_107_1 _ _)) ?_
   refine gs_store (ot rfl) (ot rfl) sz_3 rfl rfl rfl rfl rfl .z ?_
   refine go_nil ?_
   refine go_seq ?_
   refine go_region ?_
   refine gM rfl rfl ?_
   refine gr rfl (r_nilck (ot rfl)) ?_
   refine gr rfl (r_fa (ot rfl) (fa_107_0 _ _)) ?_
   refine gr rfl (r_load (ot rfl) (lm_s (mem_seg 0 rfl) ag_105 rfl)) ?_
   refine gM rfl rfl ?_
   refine gr rfl (r_ia (ot rfl) (ot rfl) (ia_acc (k := 1) ut_105 sz_93 hz hi)) ?_
   refine gA rfl rfl ?_
   refine go_nil ?_
   exact g_ret (rst rfl rs0) (fun h1 hf hs => ⟨[[⟨bp, .cells [.slice (some ⟨bb, 0, some 0⟩) n n, .int .i64 (IntKind.i64.wrap (c + 1))] 107⟩]], _, hf, e2, w2, hs, (ndb (by intro e; cases e) nd0), ⟨rfl, rfl⟩⟩)
 ·
  rcases Bool.eq_false_or_eq_true (decide (i < 0)) with hb1 | hb1
  ·
   exact absurd (of_decide_eq_true hb1) (by omega)
  ·
   have hb1' : ¬ i < 0 := of_decide_eq_false hb1
   refine go_re 11 (v2 := .bool false) rfl (congrArg Value.bool hb1) ?_
   refine g_do rfl rfl rfl ?_
   refine gM rfl rfl ?_
   refine g_do rfl rfl rfl ?_
   refine gM rfl rfl ?_
   refine g_do rfl rfl rfl ?_
   refine gr rfl (r_nilck (ot rfl)) ?_
   refine g_do rfl rfl rfl ?_
   refine gr rfl (r_fa (ot rfl) (fa_107_0 _ _)) ?_
   refine g_do rfl rfl rfl ?_
   refine gr rfl (r_load (ot rfl) (lm_s (mem_seg 0 rfl) ag_105 rfl)) ?_
   refine g_do rfl rfl rfl ?_
   refine gr rfl (r_len rfl (os1 (ot rfl) os0) (fun _ _ => ln_105)) ?_
   refine g_do rfl rfl rfl ?_
   refine gr rfl (r_bin (ot rfl) (ot rfl) rfl) ?_
   refine gr rfl (r_pkF (ot rfl) (ot rfl)) ?_
   refine go_re 19 (v2 := .bool false) rfl (congrArg Value.bool (decide_eq_false (by omega))) ?_
   exact Goes.weak (J2 () _ (HExt.refl _) hw trivial) (Sub.cons (Sub.cons (Sub.cons (Sub.cons (Sub.nil _) rfl) rfl) rfl) rfl)
theorem s_mem_at_bad {h : Heap} (hw : Wf h) {bp n : Nat} {q : Option Addr} {c i : Int} (hb : ¬ (0 ≤ i ∧ i < (n : Int))) :
 EvO EE 107 [.pointer (some ⟨bp, 0, none⟩), .int .i64 i] [[⟨bp, .cells [.slice q n n, .int .i64 c] 107⟩]] h (fun v S h1 => v = .pointer none ∧ S = [[⟨bp, .cells [.slice q n n, .int .i64 c] 107⟩]]) := by
 refine evo_of rfl at_107 rfl rfl ?_
 refine go_seq ?_
 refine go_region ?_
 refine gAc rfl rfl ?_
 refine go_nil ?_
 refine go_seq ?_
 refine go_seq ?_
 refine go_region ?_
 refine gM rfl rfl ?_
 refine gr rfl (r_bin (v := .bool false) (ot rfl) (oc rfl) (by first | rfl | kernel_rfl)) ?_
 refine gM rfl rfl ?_
 refine g_do rfl rfl rfl ?_
 refine gM rfl rfl ?_
 refine g_do rfl rfl rfl ?_
 refine gr rfl (r_bin (ot rfl) (oc rfl) rfl) ?_
 refine gr rfl (r_pkF (ot rfl) (ot rfl)) ?_
 refine gM rfl rfl ?_
 refine go_joinr 8 (β := Unit) (fun s h' => True) (fun s => [(0, true, .pointer (some ⟨bp, 0, none⟩)), (1, true, .int .i64 i), (4, true, .pointer none), (19, true, .bool true)]) (fun s => (List.flatten [[⟨bp, .cells [.slice q n n, .int .i64 c] 107⟩]] : List Blk)) ?_ (fun J2 => ?_)
 ·
  rintro _ h2 e2 w2 _
  refine go_nil ?_
  refine g_cond (b := true) (ot rfl) (fun hc3 => ?_) (fun hc3 => ?_)
  ·
   refine go_seq ?_
   refine go_region ?_
   refine gAc rfl rfl ?_
   refine go_nil ?_
   exact g_ret (rst rfl rs0) (fun h1 hf hs => ⟨[[⟨bp, .cells [.slice q n n, .int .i64 c] 107⟩]], _, hf, e2, w2, hs, (ndb (by intro e; cases e) nd0), ⟨rfl, rfl⟩⟩)
  ·
   cases hc3
 ·
  rcases Bool.eq_false_or_eq_true (decide (i < 0)) with hb1 | hb1
  ·
   refine go_re 11 (v2 := .bool true) rfl (congrArg Value.bool hb1) ?_
   refine g_no rfl rfl rfl rfl rfl ?_
   refine g_no rfl rfl rfl rfl rfl ?_
   refine g_no rfl rfl rfl rfl rfl ?_
   refine g_no rfl rfl rfl rfl rfl ?_
   refine g_no rfl rfl rfl rfl rfl ?_
   refine g_no rfl rfl rfl rfl rfl ?_
   refine g_no rfl rfl rfl rfl rfl ?_
   refine gr rfl (r_pkT (ot rfl) (oc rfl)) ?_
   exact Goes.weak (J2 () _ (HExt.refl _) hw trivial) (Sub.cons (Sub.cons (Sub.cons (Sub.cons (Sub.nil _) rfl) rfl) rfl) rfl)
  ·
   have hb1' : ¬ i < 0 := of_decide_eq_false hb1
   refine go_re 11 (v2 := .bool false) rfl (congrArg Value.bool hb1) ?_
   refine g_do rfl rfl rfl ?_
   refine gM rfl rfl ?_
   refine g_do rfl rfl rfl ?_
   refine gM rfl rfl ?_
   refine g_do rfl rfl rfl ?_
   refine gr rfl (r_nilck (ot rfl)) ?_
   refine g_do rfl rfl rfl ?_
   refine gr rfl (r_fa (ot rfl) (fa_107_0 _ _)) ?_
   refine g_do rfl rfl rfl ?_
   refine gr rfl (r_load (ot rfl) (lm_s (mem_seg 0 rfl) ag_105 rfl)) ?_
   refine g_do rfl rfl rfl ?_
   refine gr rfl (r_len rfl (os1 (ot rfl) os0) (fun _ _ => ln_105)) ?_
   refine g_do rfl rfl rfl ?_
   refine gr rfl (r_bin (ot rfl) (ot rfl) rfl) ?_
   refine gr rfl (r_pkF (ot rfl) (ot rfl)) ?_
   refine go_re 19 (v2 := .bool true) rfl (congrArg Value.bool (decide_eq_true (by omega))) ?_
   exact Goes.weak (J2 () _ (HExt.refl _) hw trivial) (Sub.cons (Sub.cons (Sub.cons (Sub.cons (Sub.nil _) rfl) rfl) rfl) rfl)
theorem getI_bad {α : Type} {l : List α} {i : Int} (h : getI l i = none) : ¬ (0 ≤ i ∧ i < (l.length : Int)) := by
 rintro ⟨a, b⟩
 unfold getI at h
 rw [if_pos a, List.getElem?_eq_getElem (by omega)] at h
 cases h
end Go.Proofs.YtndhbaidibioeaaGreat.V
