/- Threads that do nothing yet: slices.Repeat, told by hand.
   No condition: these are laws of the clean machine and of this program. -/
import Derived.Test.YtndhbaidibioeaaGreatXm
import Derived.Test.YtndhbaidibioeaaGreatVo
namespace Go.Proofs.YtndhbaidibioeaaGreat.V
open Go
set_option linter.unusedVariables false
set_option linter.unusedSimpArgs false
set_option maxRecDepth 100000
set_option maxHeartbeats 4000000
def thr0 : List Value := [.pointer none, .int .i64 (-1)]
def thrZ : List Value := [.pointer none, .int .i64 0]
def repC (j m : Nat) : List Value := (List.replicate j thr0 ++ List.replicate m thrZ).flatten
theorem mul_rep : ∀ n : Nat, 1 ≤ n → n ≤ 8 → F_math_bits_Mul (IntKind.u64.wrap (1 : Nat)) (IntKind.u64.wrap (n : Int)) = some (0, (n : Int))
 | 0, h, _ => by omega
 | 1, _, _ => by decide +kernel
 | 2, _, _ => by decide +kernel
 | 3, _, _ => by decide +kernel
 | 4, _, _ => by decide +kernel
 | 5, _, _ => by decide +kernel
 | 6, _, _ => by decide +kernel
 | 7, _, _ => by decide +kernel
 | 8, _, _ => by decide +kernel
 | n + 9, _, h => by omega
theorem thr_k {rows : List (List Value)} {j m : Nat} (h : rows = List.replicate j thr0 ++ List.replicate m thrZ) : ∀ r ∈ rows, r.length = 2 := by
 intro r hr
 rw [h] at hr
 rcases List.mem_append.mp hr with q | q
 ·
  rw [List.eq_of_mem_replicate q]; rfl
 ·
  rw [List.eq_of_mem_replicate q]; rfl
theorem flat_len2 {k : Nat} : ∀ (rows : List (List Value)), (∀ r ∈ rows, r.length = k) → rows.flatten.length = rows.length * k
 | [], _ => by simp
 | x :: rows, h => by
  rw [List.flatten_cons, List.length_append, flat_len2 rows (fun r hr => h r (List.mem_cons_of_mem _ hr)), h x List.mem_cons_self, List.length_cons, Nat.succ_mul, Nat.add_comm]
theorem repC_len (j m : Nat) : (repC j m).length = (j + m) * 2 := by
 unfold repC
 rw [flat_len2 _ (thr_k rfl), List.length_append, List.length_replicate, List.length_replicate]
theorem rep_take {j m i : Nat} (h : i ≤ j) : (repC j m).take (i * 2) = (List.replicate i thr0).flatten := by
 unfold repC
 rw [← flat_take _ i (thr_k rfl), List.take_append_of_le_length (by simpa using h), List.take_replicate, Nat.min_eq_left h]
theorem rep_step {j m i : Nat} (h1 : i ≤ m) : splice (repC j m) (j * 2) (List.replicate i thr0).flatten = repC (j + i) (m - i) := by
 have hl : (List.replicate i thr0).flatten.length = i * 2 := by rw [flat_len2 _ (k := 2) (fun r hr => by rw [List.eq_of_mem_replicate hr]; rfl), List.length_replicate]
 unfold splice
 rw [rep_take (Nat.le_refl j), hl, show j * 2 + i * 2 = (j + i) * 2 by omega]
 unfold repC
 rw [← flat_drop _ (j + i) (thr_k rfl), ← List.flatten_append, ← List.flatten_append]
 congr 1
 rw [List.drop_append, List.length_replicate, List.drop_of_length_le (by simp), List.nil_append, List.drop_replicate, ← List.append_assoc, List.replicate_append_replicate]
 congr 2
 omega
theorem repC_ok (j : Nat) : (List.replicate j thr0).flatten.all cellOk = true := by
 rw [List.all_eq_true]
 intro v hv
 obtain ⟨r, hr, hv⟩ := List.mem_flatten.mp hv
 rw [List.eq_of_mem_replicate hr] at hv
 simp only [thr0, List.mem_cons, List.not_mem_nil, or_false] at hv
 rcases hv with q | q <;> subst q <;> rfl
theorem repZ_thr : ∀ n, repZ thrZ n = repC 0 n := by
 intro n
 unfold repC
 rw [List.replicate_zero, List.nil_append]
 induction n with
 | zero => rfl
 | succ n ih => show thrZ ++ repZ thrZ n = _; rw [ih, List.replicate_succ, List.flatten_cons]
theorem evo_repeat {h : Heap} (hw : Wf h) {bx n : Nat} (h1 : 1 ≤ n) (h8 : n ≤ 8) :
 EvO EE 94 [.slice (some ⟨bx, 0, none⟩) 1 1, .int .i64 (n : Int)] [[⟨bx, .cells thr0 118⟩]] h
  (fun v S h1 => ∃ b, v = .slice (some ⟨b, 0, none⟩) n n ∧ S = [[⟨bx, .cells thr0 118⟩], [⟨b, .cells (repC n 0) 118⟩]]) := by
 refine evo_of rfl at_94 rfl rfl ?_
 repeat refine go_seq ?_
 refine go_region (gAc rfl rfl (go_nil ?_))
 repeat refine go_seq ?_
 refine go_region (gM rfl rfl (gr rfl (r_bin (ot rfl) (oc rfl) rfl) (go_nil ?_)))
 refine go_re 10 (v2 := .bool false) rfl (congrArg Value.bool (decide_eq_false (by omega))) ?_
 refine g_cond (b := false) (ot rfl) (fun hc => by cases hc) (fun _ => go_skip ?_)
 repeat refine go_seq ?_
 refine go_region (gM rfl rfl (gr rfl (r_len rfl (os1 (ot rfl) os0) (fun _ _ => ln_120)) (gr rfl (r_conv (ot rfl) rfl) (gM rfl rfl (gr rfl (r_conv (ot rfl) rfl) ?_)))))
 refine g_callp (v := .tuple #[.int .u64 0, .int .u64 (n : Int)]) EE_fr rfl of (os1 (ot rfl) (os1 (ot rfl) os0)) hb_116 (fun _ => rfl) (fun hf kn w => by exact s_math_bits_Mul w _ _ (mul_rep n h1 h8)) ?_
 refine gM rfl rfl (gE rfl rfl rfl (gE rfl rfl rfl (gA rfl rfl (gA rfl rfl (go_nil ?_)))))
 repeat refine go_seq ?_
 refine go_region (gM rfl rfl (gr rfl (r_bin (ot rfl) (oc rfl) rfl) ?_))
 refine go_re 22 (v2 := .bool false) rfl rfl ?_
 refine gM rfl rfl (g_do rfl rfl rfl (gM rfl rfl (g_do rfl rfl rfl (gr rfl (r_bin (ot rfl) (oc rfl) rfl) ?_))))
 refine go_re 25 (v2 := .bool false) rfl (congrArg Value.bool (decide_eq_false (by omega))) ?_
 refine gr rfl (r_pkF (ot rfl) (ot rfl)) (go_nil ?_)
 refine g_cond (b := false) (ot rfl) (fun hc => by cases hc) (fun _ => go_skip ?_)
 repeat refine go_seq ?_
 refine go_region (gM rfl rfl (gr rfl (r_conv (ot rfl) rfl) ?_))
 refine go_re 29 (v2 := .int .i64 (n : Int)) rfl (congrArg (Value.int .i64) (wrap_id (by omega) (by omega))) ?_
 refine gs_mslice (n := n) (c := n) (cs := repC 0 n) rfl (ot rfl) (ot rfl) ut_120 sz_118 by_118 zo_118 ?_ ?_ ?_
 ·
  rw [Bool.and_eq_true]; exact ⟨decide_eq_true ⟨by omega, by omega, by omega, by omega⟩, rfl⟩
 ·
  exact repZ_thr n
 intro b
 refine gA rfl rfl (go_nil ?_)
 repeat refine go_seq ?_
 refine go_region (gM rfl rfl (gM rfl rfl ?_))
 refine g_wr (b := b) (v := goInt 1) (o := .cells (repC 0 n) 118) (o' := .cells (repC 1 (n - 1)) 118) (rest := [⟨bx, .cells thr0 118⟩]) (fun _ h => by cases h; rfl) ?_ ?_
 ·
  intro fr h' hf ag hs
  have hb := hs.blk _ List.mem_cons_self
  have hx := (hs.blk ⟨bx, .cells thr0 118⟩ (by simp)).1
  refine opV_copy (os1 (ot rfl) (os1 (ot rfl) os0) fr ag rfl) ?_
  have e : splice (repC 0 n) (0 * 2) (List.replicate 1 thr0).flatten = repC (0 + 1) (n - 1) := rep_step h1
  rw [Nat.zero_mul, Nat.zero_add] at e
  rw [← e]
  exact copy_own (k := 2) (m := 1) (mm := 1) (.inl rfl) rfl ut_120 sz_118 rfl (Nat.min_eq_left h1) (first_blk (n := 1) (.inl rfl) hx (Nat.le_refl _)) rfl hb.1 hb.2 (by rw [repC_len]; show 0 + 2 ≤ _; omega) rfl (by decide)
 refine gA rfl rfl (go_nil ?_)
 repeat refine go_seq ?_
 refine go_block ?_
 refine go_loop (α := Nat) (fun j => 1 ≤ j ∧ j ≤ n) (fun j => n - j) (fun j => [(0, true, .slice (some ⟨bx, 0, none⟩) 1 1), (7, true, .slice (some ⟨b, 0, none⟩) n n), (8, true, .int .i64 (j : Int))])
  (fun j => [⟨b, .cells (repC j (n - j)) 118⟩, ⟨bx, .cells thr0 118⟩]) (fun _ => h) ?_ 1 ⟨Nat.le_refl 1, h1⟩ (Sub.cons (Sub.cons (Sub.cons (Sub.nil _) rfl) rfl) rfl) rfl rfl
 rintro j ⟨j1, j2⟩ ih
 repeat refine go_seq ?_
 refine go_region (gM rfl rfl (gM rfl rfl (gr rfl (r_len rfl (os1 (ot rfl) os0) (fun _ _ => ln_120)) (gr rfl (r_bin (ot rfl) (ot rfl) rfl) (go_nil ?_)))))
 refine g_cond (b := decide ((j : Int) < (n : Int))) (ot rfl) (fun hc => ?_) (fun hc => ?_)
 ·
  have hj : j < n := by have := of_decide_eq_true hc; omega
  refine go_skip ?_
  repeat refine go_seq ?_
  refine go_block ?_
  refine go_regions (L := sq 0 10) (by kernel_rfl) (by kernel_rfl) (fun _ => rfl) ?_
  refine go_sop rfl rfl (gM rfl rfl (go_nil (go_sop rfl rfl (gM rfl rfl (go_nil (go_sop rfl rfl (gM rfl rfl (go_nil (go_sop rfl rfl ?_)))))))))
  refine gr rfl (v := .slice (some ⟨b, 0 + j * 2, none⟩) (n - j) (n - j)) (r_slice (ot rfl) (oo (ot rfl)) on on (fun hf kn => sl_any (lo := j) (hi := n) ut_120 sz_118 rfl (bound_some j2) (Nat.le_refl n) rfl (by simp only [sliceAddr, Trie.nb (show ¬ n = j by omega), cond_false]))) (go_nil ?_)
  refine go_sop rfl rfl (gM rfl rfl (go_nil (go_sop rfl rfl (gM rfl rfl (go_nil (go_sop rfl rfl ?_))))))
  refine gr rfl (v := .slice (some ⟨b, 0 + 0 * 2, none⟩) (j - 0) (n - 0)) (r_slice (ot rfl) on (oo (ot rfl)) on (fun hf kn => sl_any (lo := 0) (hi := j) ut_120 sz_118 (bound_some j2) rfl j2 rfl (by simp only [sliceAddr, Trie.nb (show ¬ n = 0 by omega), cond_false]))) (go_nil ?_)
  refine go_sop rfl rfl ?_
  have hi1 : Nat.min (j - 0) (n - j) ≤ j := Nat.le_trans (Nat.min_le_left _ _) (Nat.sub_le _ _)
  have hi2 : Nat.min (j - 0) (n - j) ≤ n - j := Nat.min_le_right _ _
  have hi3 : 1 ≤ Nat.min (j - 0) (n - j) := Nat.le_min.mpr ⟨by omega, by omega⟩
  generalize hi : Nat.min (j - 0) (n - j) = i at hi1 hi2 hi3
  refine g_wr (b := b) (v := goInt i) (o := .cells (repC j (n - j)) 118) (o' := .cells (repC (j + i) (n - (j + i))) 118) (rest := [⟨bx, .cells thr0 118⟩]) (fun _ h => by cases h; rfl) ?_ ?_
  ·
   intro fr h' hf ag hs
   have hb := hs.blk _ List.mem_cons_self
   refine opV_copy (os1 (ot rfl) (os1 (ot rfl) os0) fr ag rfl) ?_
   have e : splice (repC j (n - j)) (j * 2) (List.replicate i thr0).flatten = repC (j + i) (n - j - i) := rep_step hi2
   rw [show n - (j + i) = n - j - i by omega, ← e]
   have hf1 := first_blk (h := h') (b := b) (o := 0 + 0 * 2) (k := 2) (n := i) (len := j - 0) (c := n - 0) (.inl rfl) hb.1 (by rw [repC_len]; omega)
   rw [Nat.zero_mul, Nat.add_zero, List.drop_zero, rep_take hi1] at hf1
   have hl2 : (List.replicate i thr0).flatten.length = i * 2 := by rw [flat_len2 _ (k := 2) (fun r hr => by rw [List.eq_of_mem_replicate hr]; rfl), List.length_replicate]
   rw [show (0 + 0 * 2 : Nat) = 0 from rfl, Nat.zero_add]
   exact copy_own (k := 2) (m := j - 0) (mm := i) (.inl rfl) rfl ut_120 sz_118 rfl hi hf1 hl2 hb.1 hb.2 (by rw [repC_len, hl2]; omega) (repC_ok i) (by omega)
  refine go_nil (go_sop rfl rfl (gr rfl (r_bin (ot rfl) (ot rfl) rfl) (go_nil (go_sop rfl rfl (gA rfl rfl (go_nil (go_snil ?_)))))))
  refine go_re 8 (v2 := .int .i64 ((j + i : Nat) : Int)) rfl (congrArg (Value.int .i64) ?_) ?_
  ·
   show IntKind.wrap .i64 ((j : Int) + (i : Int)) = ((j + i : Nat) : Int)
   rw [wrap_id (by omega) (by omega)]; omega
  refine go_endb ?_
  exact Goes.weak (ih (j + i) ⟨by omega, by omega⟩ (by omega)) (Sub.cons (Sub.cons (Sub.cons (Sub.nil _) rfl) rfl) rfl)
 ·
  have hj : j = n := by have := of_decide_eq_false hc; omega
  subst hj
  refine go_exit rfl ?_
  repeat refine go_seq ?_
  refine go_region (gM rfl rfl (gA rfl rfl (go_nil ?_)))
  rw [Nat.sub_self]
  exact g_retO (S := [[⟨bx, .cells thr0 118⟩], [⟨b, .cells (repC j 0) 118⟩]]) (segs := [[⟨b, .cells (repC j 0) 118⟩], [⟨bx, .cells thr0 118⟩]]) (rst rfl rs0) (.cons (.s .z) (.cons .z .nil)) (HExt.refl _) hw (ndb (by intro e; cases e) (ndb (by intro e; cases e) nd0)) ⟨b, rfl, rfl⟩
theorem repC_rw (n : Nat) : repC n 0 = ((List.replicate n (⟨none, -1⟩ : Rw)).map Rw.c).flatten := by
 unfold repC
 rw [List.replicate_zero, List.append_nil, List.map_replicate]
 rfl
theorem repN_some {n : Int} {k : Nat} (h : repN n = some k) : n = (k : Int) ∧ 1 ≤ k ∧ k ≤ 8 := by
 unfold repN at h
 split at h
 ·
  rename_i q; cases h; exact ⟨by omega, by omega, by omega⟩
 ·
  cases h
end Go.Proofs.YtndhbaidibioeaaGreat.V
