/- Small walks.
   Conditions: what each theorem says of its arguments and of the heap. -/
import Derived.Test.YtadfhabapgipbaaRf
namespace Go.Proofs.Ytadfhabapgipbaa.V
open Go
set_option maxRecDepth 100000
set_option maxHeartbeats 4000000
set_option linter.unusedVariables false
set_option linter.unusedSimpArgs false
theorem s12 {h : Heap} (hw : Wf h) (k r : Int) (f t : ByteArray) (a1 a2 a3 : Option Addr) (n1 n2 n3 c1 c2 c3 : Nat) : Ev EE 12 [.agg #[.int .i64 k, .string f, .string t, .int .i64 r, .slice a1 n1 c1, .slice a2 n2 c2, .slice a3 n3 c3]] h (fun v _ => v = .bool (decide (n1 ≤ 20 ∧ n2 ≤ 20 ∧ n3 ≤ 20))) := by
  refine ev_of hw rfl at_12 rfl rfl ?_
  refine go_seq ?_
  refine go_region ?_
  refine g_box rfl (ot rfl) rfl ?_; intro b1
  refine gr rfl (r_assign (oc rfl)) ?_
  refine go_nil ?_
  refine go_seq ?_
  refine go_region ?_
  refine gr rfl (r_fa (ot rfl) (fa_27_3 _ _)) ?_
  refine gr rfl (r_load (ot rfl) (lo_s 0 rfl ag_24 rfl)) ?_
  refine gr rfl (r_len rfl (os1 (ot rfl) os0) (fun _ _ => ln_24)) ?_
  refine gr rfl (r_bin (ot rfl) (oc rfl) rfl) ?_
  refine gr rfl (r_move (ot rfl)) ?_
  refine grt rfl rfl rfl rfl (r_fa (ot rfl) (fa_27_4 _ _)) ?_
  refine grt rfl rfl rfl rfl (r_load (og rfl id) (lo_s 0 rfl ag_25 rfl)) ?_
  refine grt rfl rfl rfl rfl (r_len rfl (os1 (og rfl id) os0) (fun _ _ => ln_25)) ?_
  refine grt rfl rfl rfl rfl (r_bin (og rfl id) (oc rfl) rfl) ?_
  refine gr rfl (r_pickb (ot rfl) (og rfl id) (oc rfl)) ?_
  refine gr rfl (r_move (ot rfl)) ?_
  refine grt rfl rfl rfl rfl (r_fa (ot rfl) (fa_27_5 _ _)) ?_
  refine grt rfl rfl rfl rfl (r_load (og rfl id) (lo_s 0 rfl ag_25 rfl)) ?_
  refine grt rfl rfl rfl rfl (r_len rfl (os1 (og rfl id) os0) (fun _ _ => ln_25)) ?_
  refine grt rfl rfl rfl rfl (r_bin (og rfl id) (oc rfl) rfl) ?_
  refine gr rfl (r_pickb (ot rfl) (og rfl id) (oc rfl)) ?_
  refine gr rfl (r_assign (ot rfl)) ?_
  refine go_nil ?_
  refine g_ret (rst rfl rs0) (fun h1 hf hs => ⟨hs.hext, ?_⟩)
  simp only [packV]
  congr 1
  rw [Bool.eq_iff_iff]
  by_cases q1 : n1 ≤ 20 <;> by_cases q2 : n2 ≤ 20 <;> by_cases q3 : n3 ≤ 20 <;> simp <;> omega

theorem s15 {h : Heap} (hw : Wf h) (s hr z : Int) (ok : Bool) (a : Option Addr) (n c : Nat) (err hor : Int) : Ev EE 15 [.agg #[.int .i64 s, .int .i64 hr, .int .i64 z], .agg #[.bool ok, .slice a n c, .int .i64 err, .int .i64 hor]] h
    (fun v _ => v = .agg #[.int .i64 (IntKind.i64.wrap (s + 1)), .int .i64 (if n = 0 then hr else IntKind.i64.wrap (hr + 1)), .int .i64 (if hor > z then hor else z)]) := by
  refine ev_of hw rfl at_15 rfl rfl ?_
  refine go_seq ?_
  refine go_region ?_
  refine g_box rfl (ot rfl) rfl ?_; intro b2
  refine g_box rfl (ot rfl) rfl ?_; intro b3
  refine g_alloc rfl zo_30 rfl ?_; intro b4
  refine go_nil ?_
  refine go_seq ?_
  refine go_region ?_
  refine gr rfl (r_fa (ot rfl) (fa_30_0 _ _)) ?_
  refine gr rfl (r_load (ot rfl) (lo_s 2 rfl ag_3 rfl)) ?_
  refine gr rfl (r_bin (ot rfl) (oc rfl) rfl) ?_
  refine gr rfl (r_fa (ot rfl) (fa_30_0 _ _)) ?_
  refine g_store 2 (ot rfl) (ot rfl) rfl sz_3 rfl rfl rfl rfl rfl ?_
  refine go_nil ?_
  refine go_seq ?_
  refine go_seq ?_
  refine go_region ?_
  refine gr rfl (r_fa (ot rfl) (fa_37_1 _ _)) ?_
  refine gr rfl (r_load (ot rfl) (lo_s 1 rfl ag_34 rfl)) ?_
  refine gr rfl (r_len rfl (os1 (ot rfl) os0) (fun _ _ => ln_34)) ?_
  refine gr rfl (r_bin (ot rfl) (oc rfl) rfl) ?_
  refine go_nil ?_
  refine g_cond (ot rfl) (fun hc1 => ?_) (fun hc1 => ?_)
  ·
    refine go_region ?_
    refine gr rfl (r_fa (ot rfl) (fa_30_1 _ _)) ?_
    refine gr rfl (r_load (ot rfl) (lo_s 2 rfl ag_3 rfl)) ?_
    refine gr rfl (r_bin (ot rfl) (oc rfl) rfl) ?_
    refine gr rfl (r_fa (ot rfl) (fa_30_1 _ _)) ?_
    refine g_store 2 (ot rfl) (ot rfl) rfl sz_3 rfl rfl rfl rfl rfl ?_
    refine go_nil ?_
    refine go_seq ?_
    refine go_region ?_
    refine gr rfl (r_fa (ot rfl) (fa_30_2 _ _)) ?_
    refine gr rfl (r_load (ot rfl) (lo_s 2 rfl ag_3 rfl)) ?_
    refine gr rfl (r_fa (ot rfl) (fa_37_3 _ _)) ?_
    refine gr rfl (r_load (ot rfl) (lo_s 1 rfl ag_3 rfl)) ?_
    refine gr rfl (r_max (os1 (ot rfl) (os1 (ot rfl) os0)) rfl) ?_
    refine gr rfl (r_fa (ot rfl) (fa_30_2 _ _)) ?_
    refine g_store 2 (ot rfl) (ot rfl) rfl sz_3 rfl rfl rfl rfl rfl ?_
    refine go_nil ?_
    refine go_seq ?_
    refine go_region ?_
    refine gr rfl (r_load (ot rfl) (lo_w 2 rfl ag_30 sz_30 rfl)) ?_
    refine g_store 0 (ot rfl) (ot rfl) rfl sz_30 rfl rfl rfl rfl rfl ?_
    refine go_nil ?_
    refine g_ret (rsc rfl (lo_w 0 rfl ag_30 sz_30 rfl) rs0) (fun h1 hf hs => ⟨hs.hext, ?_⟩)
    first
     | (rw [if_neg (c := n = 0) (by have := hc1; simp at this; omega)]; rfl)
     | (rw [if_pos (c := n = 0) (by have := hc1; simp at this; omega)]; rfl)
  ·
    refine go_skip ?_
    refine go_seq ?_
    refine go_region ?_
    refine gr rfl (r_fa (ot rfl) (fa_30_2 _ _)) ?_
    refine gr rfl (r_load (ot rfl) (lo_s 2 rfl ag_3 rfl)) ?_
    refine gr rfl (r_fa (ot rfl) (fa_37_3 _ _)) ?_
    refine gr rfl (r_load (ot rfl) (lo_s 1 rfl ag_3 rfl)) ?_
    refine gr rfl (r_max (os1 (ot rfl) (os1 (ot rfl) os0)) rfl) ?_
    refine gr rfl (r_fa (ot rfl) (fa_30_2 _ _)) ?_
    refine g_store 2 (ot rfl) (ot rfl) rfl sz_3 rfl rfl rfl rfl rfl ?_
    refine go_nil ?_
    refine go_seq ?_
    refine go_region ?_
    refine gr rfl (r_load (ot rfl) (lo_w 2 rfl ag_30 sz_30 rfl)) ?_
    refine g_store 0 (ot rfl) (ot rfl) rfl sz_30 rfl rfl rfl rfl rfl ?_
    refine go_nil ?_
    refine g_ret (rsc rfl (lo_w 0 rfl ag_30 sz_30 rfl) rs0) (fun h1 hf hs => ⟨hs.hext, ?_⟩)
    first
     | (rw [if_neg (c := n = 0) (by have := hc1; simp at this; omega)]; rfl)
     | (rw [if_pos (c := n = 0) (by have := hc1; simp at this; omega)]; rfl)

theorem s13 {h : Heap} (hw : Wf h) {vm : Value} {m : List KV} (hm : SLv h 3 vm (m.map KV.c)) (bm : m.length < 4611686018427387904) : Ev EE 13 [vm] h (fun v _ => v = .bool (mapB m)) := by
  obtain ⟨am, cap, rfl, hm⟩ := hm
  refine ev_of hw rfl at_13 rfl rfl ?_
  refine go_seq ?_
  refine go_region ?_
  refine gr rfl (r_assign (oc rfl)) ?_
  refine go_nil ?_
  refine go_seq ?_
  refine go_seq ?_
  refine go_region ?_
  refine gr rfl (r_assign (oc rfl)) ?_
  refine go_nil ?_
  refine go_block ?_
  refine go_loop (α := Nat) (fun i => 1 ≤ i ∧ mapB (m.drop (i - 1)) = mapB m) (fun i => m.length - i) (fun i => [(3, true, .int .i64 i), (0, true, .slice am (m.map KV.c).length cap)]) (fun _ => []) (fun _ => h) (fun i hI ih => ?_) 1 ⟨Nat.le_refl _, rfl⟩ (Sub.cons (Sub.cons (Sub.nil _) rfl) rfl) rfl rfl
  refine go_seq ?_
  refine go_seq ?_
  refine go_region ?_
  refine gr rfl (r_move (ot rfl)) ?_
  refine gr rfl (r_move (ot rfl)) ?_
  refine gr rfl (r_len rfl (os1 (ot rfl) os0) (fun _ _ => ln_28)) ?_
  refine gr rfl (r_bin (ot rfl) (ot rfl) rfl) ?_
  refine go_nil ?_
  refine g_cond (ot rfl) (fun hc1 => ?_) (fun hc1 => ?_)
  ·
    refine go_skip ?_
    refine go_seq ?_
    refine go_block ?_
    refine go_seq ?_
    have hi : i < m.length := by simpa using hc1
    have hi2 : i - 1 < m.length := by omega
    have hdrop2 : m.drop i = m[i] :: m.drop (i + 1) := List.drop_eq_getElem_cons hi
    have hdrop : m.drop (i - 1) = m[i - 1] :: m.drop i := by rw [List.drop_eq_getElem_cons hi2, show i - 1 + 1 = i by omega]
    have hx_hi : (m.map KV.c)[i]? = some (m[i].c) := by simp [hi]
    obtain ⟨p_hi, q_hi, e_hi, hp_hi, hq_hi, _⟩ := row_at hm hx_hi
    subst e_hi
    have hx_hi2 : (m.map KV.c)[i - 1]? = some (m[i - 1].c) := by simp [hi2]
    obtain ⟨p2, q_hi2, e2, hp_hi2, hq_hi2, _⟩ := row_at hm hx_hi2
    obtain rfl := Option.some.inj e2
    refine go_region ?_
    refine gr rfl (r_move (ot rfl)) ?_
    refine gr rfl (r_move (ot rfl)) ?_
    refine gr rfl (r_bin (ot rfl) (oc rfl) rfl) ?_
    refine go_cast (.int .i64 ((i - 1 : Nat) : Int)) (by rw [wrap_id (by omega) (by omega)]; congr 1; omega) ?_
    refine gr rfl (r_ia (ot rfl) (ot rfl) (ia_of ut_28 sz_52 (by simpa using hi2) hp_hi2)) ?_
    refine gr rfl (r_fa (ot rfl) (fe_52_0 hp_hi2)) ?_
    refine gr rfl (r_load (ot rfl) (v := .string m[i - 1].key) (lo_e (fun hf k => ld_field ag_9 (k.cellsAt hq_hi2) rfl))) ?_
    refine gr rfl (r_move (ot rfl)) ?_
    refine gr rfl (r_move (ot rfl)) ?_
    refine gr rfl (r_ia (ot rfl) (ot rfl) (ia_of ut_28 sz_52 (by simpa using hi) hp_hi)) ?_
    refine gr rfl (r_fa (ot rfl) (fe_52_0 hp_hi)) ?_
    refine gr rfl (r_load (ot rfl) (v := .string m[i].key) (lo_e (fun hf k => ld_field ag_9 (k.cellsAt hq_hi) rfl))) ?_
    refine gr rfl (r_bin (ot rfl) (ot rfl) rfl) ?_
    refine go_nil ?_
    refine g_cond (ot rfl) (fun hc2 => ?_) (fun hc2 => ?_)
    ·
      refine go_seq ?_
      refine go_region ?_
      refine gr rfl (r_assign (oc rfl)) ?_
      refine go_nil ?_
      refine g_ret (rst rfl rs0) (fun h1 hf hs => ⟨hs.hext, ?_⟩)
      rw [← hI.2, hdrop, hdrop2, map_cons2, show lessB m[i - 1].key m[i].key = false by unfold lessB; simpa using hc2]; rfl
    ·
      refine go_skip ?_
      refine go_endb ?_
      refine go_region ?_
      refine gr rfl (r_move (ot rfl)) ?_
      refine gr rfl (r_bin (ot rfl) (oc rfl) rfl) ?_
      refine gr rfl (r_assign (ot rfl)) ?_
      refine go_nil ?_
      refine Goes.weak (ih (i + 1) ⟨by omega, by rw [← hI.2, hdrop, Nat.add_sub_cancel, hdrop2, map_cons2, show lessB m[i - 1].key m[i].key = true by unfold lessB; simpa using hc2]; rfl⟩ (by omega)) (Sub.cons (Sub.cons (Sub.nil _) rfl) ?_)
      show some (true, Value.int .i64 (IntKind.wrap .i64 ((i : Int) + 1))) = _
      rw [wrap_id (by omega) (by omega)]; rfl
  ·
    refine go_exit rfl ?_
    refine go_seq ?_
    refine go_region ?_
    refine gr rfl (r_assign (oc rfl)) ?_
    refine go_nil ?_
    refine g_ret (rst rfl rs0) (fun h1 hf hs => ⟨hs.hext, ?_⟩)
    have hi : m.length ≤ i := by simpa using hc1
    have : mapB (m.drop (i - 1)) = true := by
      cases e : m.drop (i - 1) with
      | nil => rfl
      | cons x r => cases r with
        | nil => rfl
        | cons y r => have := congrArg List.length e; simp at this; omega
    rw [← hI.2, this]; rfl
end Go.Proofs.Ytadfhabapgipbaa.V
