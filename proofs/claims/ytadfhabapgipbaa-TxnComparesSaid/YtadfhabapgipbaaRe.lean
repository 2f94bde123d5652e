/- The walk of plans.
   Conditions: what each theorem says of its arguments and of the heap. -/
import Derived.Test.YtadfhabapgipbaaRd
namespace Go.Proofs.Ytadfhabapgipbaa.V
open Go
set_option maxRecDepth 100000
set_option maxHeartbeats 4000000
set_option linter.unusedVariables false
set_option linter.unusedSimpArgs false
theorem s25 {h : Heap} (hw : Wf h) {vm vc vt ve : Value} {m : List KV} (hm : SLv h 3 vm (m.map KV.c)) (bm : m.length < 4611686018427387904) {cs : List Cmp} (hc : SLv h 4 vc (cs.map Cmp.c)) (bc : cs.length < 4611686018427387904)
    {th el : List OpX} (ht : SLv h 3 vt (th.map OpX.c)) (bt : th.length ≤ 1000) (he : SLv h 3 ve (el.map OpX.c)) (be : el.length ≤ 1000) (k r : Int) (f t : ByteArray) :
    Ev EE 25 [vm, .agg #[.int .i64 k, .string f, .string t, .int .i64 r, vc, vt, ve]] h (fun v h1 => ∃ vs, v = .tuple #[.bool (holds m cs), vs] ∧ SLv h1 3 vs ((planOps m (if holds m cs then th else el)).map OpX.c)) := by
  obtain ⟨at0, ct0, rfl, ht1⟩ := id ht
  obtain ⟨ae0, ce0, rfl, he1⟩ := id he
  obtain ⟨ac0, cc0, rfl, hc0⟩ := id hc
  refine ev_of hw rfl at_25 rfl rfl ?_
  refine go_seq ?_
  refine go_region ?_
  refine g_box rfl (ot rfl) rfl ?_; intro b3
  refine gr rfl (r_assign (oc rfl)) ?_
  refine gr rfl (r_assign (oc rfl)) ?_
  refine go_nil ?_
  refine go_seq ?_
  refine go_region ?_
  refine gr rfl (r_move (ot rfl)) ?_
  refine gr rfl (r_fa (ot rfl) (fa_27_3 _ _)) ?_
  refine gr rfl (r_load (ot rfl) (lo_s 0 rfl ag_24 rfl)) ?_
  refine g_callp EE_fr rfl of (os1 (ot rfl) (os1 (ot rfl) os0)) hb_27 (fun q => by cases q) (fun hf kn w => by exact s27 w (hm.ext kn) bm (hc.ext kn) bc) ?_
  refine gr rfl (r_assign (ot rfl)) ?_
  refine go_nil ?_
  refine go_seq ?_
  refine go_region ?_
  refine gr rfl (r_fa (ot rfl) (fa_27_5 _ _)) ?_
  refine gr rfl (r_load (ot rfl) (lo_s 0 rfl ag_25 rfl)) ?_
  refine gr rfl (r_assign (ot rfl)) ?_
  refine go_nil ?_
  refine go_seq ?_
  refine go_seq ?_
  refine go_region ?_
  refine gr rfl (r_move (ot rfl)) ?_
  refine go_nil ?_
  refine g_cond (ot rfl) (fun hc1 => ?_) (fun hc1 => ?_)
  ·
    refine go_region ?_
    refine gr rfl (r_fa (ot rfl) (fa_27_4 _ _)) ?_
    refine gr rfl (r_load (ot rfl) (lo_s 0 rfl ag_25 rfl)) ?_
    refine gr rfl (r_assign (ot rfl)) ?_
    refine go_nil ?_
    refine go_seq ?_
    refine go_region ?_
    refine gr rfl (r_assign (oc rfl)) ?_
    refine go_nil ?_
    refine go_seq ?_
    refine go_seq ?_
    refine go_region ?_
    refine gr rfl (r_move (ot rfl)) ?_
    refine gr rfl (r_len rfl (os1 (ot rfl) os0) (fun _ _ => ln_25)) ?_
    refine gr rfl (r_move (oc rfl)) ?_
    refine go_nil ?_
    refine go_block ?_
    obtain ⟨lo, rfl⟩ : ∃ lo, lo = th := ⟨_, rfl⟩
    obtain ⟨alo, rfl⟩ : ∃ x, x = at0 := ⟨_, rfl⟩
    obtain ⟨clo, rfl⟩ : ∃ x, x = ct0 := ⟨_, rfl⟩
    have hlo := ht1
    have blo := bt
    refine go_sub (own' := []) (List.nil_sublist _) ?_
    refine go_loop (α := Nat × Value × List Blk) (fun a => a.1 ≤ lo.length ∧ ∃ acc : List OpX, AccT 69 a.2.2 a.2.1 (acc.map OpX.c) ∧ acc ++ planOps m (lo.drop a.1) = planOps m lo ∧ acc.length ≤ a.1) (fun a => lo.length - a.1) (fun a => [(24, true, .int .i64 a.1), (22, true, .slice alo (lo.map OpX.c).length clo), (23, true, .int .i64 (lo.map OpX.c).length), (8, true, a.2.1), (0, true, vm), (6, true, .bool (holds m cs))]) (fun a => a.2.2) (fun _ => h) (fun a hI ih => ?_) (0, .slice none 0 0, []) ⟨Nat.zero_le _, [], AccT.nil _, rfl, Nat.zero_le _⟩ (Sub.cons (Sub.cons (Sub.cons (Sub.cons (Sub.cons (Sub.cons (Sub.nil _) rfl) rfl) rfl) rfl) rfl) rfl) rfl rfl
    obtain ⟨i, va, tl⟩ := a
    dsimp only at hI ih ⊢
    obtain ⟨hi0, acc, hacc, hpl, hal⟩ := hI
    refine go_seq ?_
    refine go_region ?_
    refine gr rfl (r_bin (ot rfl) (ot rfl) rfl) ?_
    refine go_nil ?_
    refine go_seq ?_
    refine g_cond (ot rfl) (fun hc2 => ?_) (fun hc2 => ?_)
    ·
      refine go_skip ?_
      refine go_seq ?_
      refine go_block ?_
      refine go_seq ?_
      have hi : i < lo.length := by simpa using hc2
      have hx : (lo.map OpX.c)[i]? = some (lo[i].c) := by simp [hi]
      obtain ⟨p1, q1, e1, hp1, hq1, _⟩ := row_at hlo hx
      subst e1
      refine go_region ?_
      refine gr rfl (r_ia (ot rfl) (ot rfl) (ia_of ut_25 sz_69 (by simpa using hi) hp1)) ?_
      refine gr rfl (r_load (ot rfl) (v := .agg #[.string lo[i].key, .string lo[i].val, .bool lo[i].del]) (lo_e (fun hf k => ld_of ag_69 sz_69 (k.cellsAt hq1)))) ?_
      refine g_alloc rfl zo_69 rfl ?_; intro b10
      refine g_store 0 (ot rfl) (ot rfl) rfl sz_69 rfl rfl rfl rfl rfl ?_
      refine go_nil ?_
      refine go_seq ?_
      refine go_region ?_
      refine gr rfl (r_move (ot rfl)) ?_
      refine gr rfl (r_fa (ot rfl) (fa_69_0 _ _)) ?_
      refine gr rfl (r_load (ot rfl) (lo_s 0 rfl ag_9 rfl)) ?_
      refine g_callp EE_fr rfl of (os1 (ot rfl) (os1 (ot rfl) os0)) hb_42 (fun q => by cases q) (fun hf kn w => by exact s42 w (hm.ext kn) bm lo[i].key) ?_
      refine gr rfl (r_move (ot rfl)) ?_
      refine gr rfl (r_extract (ot rfl) rfl) ?_
      refine gr rfl (r_extract (ot rfl) rfl) ?_
      refine g_alloc rfl zo_52 rfl ?_; intro b11
      refine g_store 0 (ot rfl) (ot rfl) rfl sz_52 rfl rfl rfl rfl rfl ?_
      refine gr rfl (r_assign (ot rfl)) ?_
      refine go_nil ?_
      refine go_seq ?_
      refine go_region ?_
      refine gr rfl (r_move (ot rfl)) ?_
      refine gr rfl (r_move (ot rfl)) ?_
      refine grf rfl rfl rfl rfl (r_fa (ot rfl) (fa_69_2 _ _)) ?_
      refine grf rfl rfl rfl rfl (r_load (og rfl id) (lo_s 1 rfl ag_4 rfl)) ?_
      refine grf rfl rfl rfl rfl (r_un (og rfl id) rfl) ?_
      refine gr rfl (r_pickb (ot rfl) (oc rfl) (og rfl id)) ?_
      refine go_nil ?_
      refine g_cond (ot rfl) (fun hc3 => ?_) (fun hc3 => ?_)
      ·
        refine go_region ?_
        refine gr rfl (r_move (ot rfl)) ?_
        refine gr rfl (r_load (ot rfl) (lo_w 1 rfl ag_69 sz_69 rfl)) ?_
        refine g_bslice (cs := lo[i].c) rfl (op1 (ot rfl) op0) ut_25 sz_69 zo_69 rfl rfl ?_; intro b43
        refine g_append1 (pre := [_, _, _]) (tl := tl) 0 rfl (os1 (ot rfl) (os1 (ot rfl) os0)) rfl ut_25 sz_69 by_69 zo_69 rfl zs_25_25 rfl rfl (by decide) rfl (map_len (c := OpX.c) (k := 3) (fun _ => rfl)) hacc (roomy_le (by rw [List.length_map]; omega) (by decide) (by decide)) (fun v' tl' acc' => ?_)
        refine gr rfl (r_assign (ot rfl)) ?_
        refine go_nil ?_
        refine go_endb ?_
        refine go_region ?_
        refine gr rfl (r_bin (ot rfl) (oc rfl) rfl) ?_
        refine gr rfl (r_move (ot rfl)) ?_
        refine go_nil ?_
        first
         | (refine go_sub (own' := tl') (List.sublist_append_right _ _) ?_; refine Goes.weak (ih (i + 1, v', tl') ⟨by dsimp only; omega, acc ++ [lo[i]], by simpa using acc', by rw [← hpl, List.drop_eq_getElem_cons hi, plan_cons, if_pos (by simpa using hc3)]; simp, by simp; omega⟩ (by dsimp only; omega)) (Sub.cons (Sub.cons (Sub.cons (Sub.cons (Sub.cons (Sub.cons (Sub.nil _) rfl) rfl) rfl) rfl) rfl) ?_); show some (true, Value.int .i64 (IntKind.wrap .i64 ((i : Int) + 1))) = _; rw [wrap_id (by omega) (by omega)]; rfl)
         | (refine go_sub (own' := tl) (List.sublist_append_right [_, _] tl) ?_; refine Goes.weak (ih (i + 1, va, tl) ⟨by dsimp only; omega, acc, hacc, by rw [← hpl, List.drop_eq_getElem_cons hi, plan_cons, if_neg (by simpa using hc3)], by dsimp only; omega⟩ (by dsimp only; omega)) (Sub.cons (Sub.cons (Sub.cons (Sub.cons (Sub.cons (Sub.cons (Sub.nil _) rfl) rfl) rfl) rfl) rfl) ?_); show some (true, Value.int .i64 (IntKind.wrap .i64 ((i : Int) + 1))) = _; rw [wrap_id (by omega) (by omega)]; rfl)
      ·
        refine go_skip ?_
        refine go_endb ?_
        refine go_region ?_
        refine gr rfl (r_bin (ot rfl) (oc rfl) rfl) ?_
        refine gr rfl (r_move (ot rfl)) ?_
        refine go_nil ?_
        first
         | (refine go_sub (own' := tl') (List.sublist_append_right _ _) ?_; refine Goes.weak (ih (i + 1, v', tl') ⟨by dsimp only; omega, acc ++ [lo[i]], by simpa using acc', by rw [← hpl, List.drop_eq_getElem_cons hi, plan_cons, if_pos (by simpa using hc3)]; simp, by simp; omega⟩ (by dsimp only; omega)) (Sub.cons (Sub.cons (Sub.cons (Sub.cons (Sub.cons (Sub.cons (Sub.nil _) rfl) rfl) rfl) rfl) rfl) ?_); show some (true, Value.int .i64 (IntKind.wrap .i64 ((i : Int) + 1))) = _; rw [wrap_id (by omega) (by omega)]; rfl)
         | (refine go_sub (own' := tl) (List.sublist_append_right [_, _] tl) ?_; refine Goes.weak (ih (i + 1, va, tl) ⟨by dsimp only; omega, acc, hacc, by rw [← hpl, List.drop_eq_getElem_cons hi, plan_cons, if_neg (by simpa using hc3)], by dsimp only; omega⟩ (by dsimp only; omega)) (Sub.cons (Sub.cons (Sub.cons (Sub.cons (Sub.cons (Sub.cons (Sub.nil _) rfl) rfl) rfl) rfl) rfl) ?_); show some (true, Value.int .i64 (IntKind.wrap .i64 ((i : Int) + 1))) = _; rw [wrap_id (by omega) (by omega)]; rfl)
    ·
      refine go_exit rfl ?_
      refine go_seq ?_
      have hfin : acc = planOps m lo := by rw [← hpl, List.drop_eq_nil_of_le (by simpa using hc2)]; simp [planOps]
      refine acc_rows (pre := []) hacc (map_len (c := OpX.c) (k := 3) (fun _ => rfl)) (fun g1 eg wg hv => ?_)
      refine go_region ?_
      refine gr rfl (r_move (ot rfl)) ?_
      refine gr rfl (r_move (ot rfl)) ?_
      refine gr rfl (r_assign (ot rfl)) ?_
      refine gr rfl (r_assign (ot rfl)) ?_
      refine go_nil ?_
      refine g_ret (rst rfl (rst rfl rs0)) (fun h1 hf hs => ⟨eg.trans hs.hext, ?_⟩)
      first
       | (rw [if_pos hc1, ← hfin]; exact ⟨va, rfl, hv.ext hs.hext.kn⟩)
       | (rw [if_neg (by simp [hc1]), ← hfin]; exact ⟨va, rfl, hv.ext hs.hext.kn⟩)
  ·
    refine go_skip ?_
    refine go_seq ?_
    refine go_region ?_
    refine gr rfl (r_assign (oc rfl)) ?_
    refine go_nil ?_
    refine go_seq ?_
    refine go_seq ?_
    refine go_region ?_
    refine gr rfl (r_move (ot rfl)) ?_
    refine gr rfl (r_len rfl (os1 (ot rfl) os0) (fun _ _ => ln_25)) ?_
    refine gr rfl (r_move (oc rfl)) ?_
    refine go_nil ?_
    refine go_block ?_
    obtain ⟨lo, rfl⟩ : ∃ lo, lo = el := ⟨_, rfl⟩
    obtain ⟨alo, rfl⟩ : ∃ x, x = ae0 := ⟨_, rfl⟩
    obtain ⟨clo, rfl⟩ : ∃ x, x = ce0 := ⟨_, rfl⟩
    have hlo := he1
    have blo := be
    refine go_sub (own' := []) (List.nil_sublist _) ?_
    refine go_loop (α := Nat × Value × List Blk) (fun a => a.1 ≤ lo.length ∧ ∃ acc : List OpX, AccT 69 a.2.2 a.2.1 (acc.map OpX.c) ∧ acc ++ planOps m (lo.drop a.1) = planOps m lo ∧ acc.length ≤ a.1) (fun a => lo.length - a.1) (fun a => [(24, true, .int .i64 a.1), (22, true, .slice alo (lo.map OpX.c).length clo), (23, true, .int .i64 (lo.map OpX.c).length), (8, true, a.2.1), (0, true, vm), (6, true, .bool (holds m cs))]) (fun a => a.2.2) (fun _ => h) (fun a hI ih => ?_) (0, .slice none 0 0, []) ⟨Nat.zero_le _, [], AccT.nil _, rfl, Nat.zero_le _⟩ (Sub.cons (Sub.cons (Sub.cons (Sub.cons (Sub.cons (Sub.cons (Sub.nil _) rfl) rfl) rfl) rfl) rfl) rfl) rfl rfl
    obtain ⟨i, va, tl⟩ := a
    dsimp only at hI ih ⊢
    obtain ⟨hi0, acc, hacc, hpl, hal⟩ := hI
    refine go_seq ?_
    refine go_region ?_
    refine gr rfl (r_bin (ot rfl) (ot rfl) rfl) ?_
    refine go_nil ?_
    refine go_seq ?_
    refine g_cond (ot rfl) (fun hc2 => ?_) (fun hc2 => ?_)
    ·
      refine go_skip ?_
      refine go_seq ?_
      refine go_block ?_
      refine go_seq ?_
      have hi : i < lo.length := by simpa using hc2
      have hx : (lo.map OpX.c)[i]? = some (lo[i].c) := by simp [hi]
      obtain ⟨p1, q1, e1, hp1, hq1, _⟩ := row_at hlo hx
      subst e1
      refine go_region ?_
      refine gr rfl (r_ia (ot rfl) (ot rfl) (ia_of ut_25 sz_69 (by simpa using hi) hp1)) ?_
      refine gr rfl (r_load (ot rfl) (v := .agg #[.string lo[i].key, .string lo[i].val, .bool lo[i].del]) (lo_e (fun hf k => ld_of ag_69 sz_69 (k.cellsAt hq1)))) ?_
      refine g_alloc rfl zo_69 rfl ?_; intro b10
      refine g_store 0 (ot rfl) (ot rfl) rfl sz_69 rfl rfl rfl rfl rfl ?_
      refine go_nil ?_
      refine go_seq ?_
      refine go_region ?_
      refine gr rfl (r_move (ot rfl)) ?_
      refine gr rfl (r_fa (ot rfl) (fa_69_0 _ _)) ?_
      refine gr rfl (r_load (ot rfl) (lo_s 0 rfl ag_9 rfl)) ?_
      refine g_callp EE_fr rfl of (os1 (ot rfl) (os1 (ot rfl) os0)) hb_42 (fun q => by cases q) (fun hf kn w => by exact s42 w (hm.ext kn) bm lo[i].key) ?_
      refine gr rfl (r_move (ot rfl)) ?_
      refine gr rfl (r_extract (ot rfl) rfl) ?_
      refine gr rfl (r_extract (ot rfl) rfl) ?_
      refine g_alloc rfl zo_52 rfl ?_; intro b11
      refine g_store 0 (ot rfl) (ot rfl) rfl sz_52 rfl rfl rfl rfl rfl ?_
      refine gr rfl (r_assign (ot rfl)) ?_
      refine go_nil ?_
      refine go_seq ?_
      refine go_region ?_
      refine gr rfl (r_move (ot rfl)) ?_
      refine gr rfl (r_move (ot rfl)) ?_
      refine grf rfl rfl rfl rfl (r_fa (ot rfl) (fa_69_2 _ _)) ?_
      refine grf rfl rfl rfl rfl (r_load (og rfl id) (lo_s 1 rfl ag_4 rfl)) ?_
      refine grf rfl rfl rfl rfl (r_un (og rfl id) rfl) ?_
      refine gr rfl (r_pickb (ot rfl) (oc rfl) (og rfl id)) ?_
      refine go_nil ?_
      refine g_cond (ot rfl) (fun hc3 => ?_) (fun hc3 => ?_)
      ·
        refine go_region ?_
        refine gr rfl (r_move (ot rfl)) ?_
        refine gr rfl (r_load (ot rfl) (lo_w 1 rfl ag_69 sz_69 rfl)) ?_
        refine g_bslice (cs := lo[i].c) rfl (op1 (ot rfl) op0) ut_25 sz_69 zo_69 rfl rfl ?_; intro b43
        refine g_append1 (pre := [_, _, _]) (tl := tl) 0 rfl (os1 (ot rfl) (os1 (ot rfl) os0)) rfl ut_25 sz_69 by_69 zo_69 rfl zs_25_25 rfl rfl (by decide) rfl (map_len (c := OpX.c) (k := 3) (fun _ => rfl)) hacc (roomy_le (by rw [List.length_map]; omega) (by decide) (by decide)) (fun v' tl' acc' => ?_)
        refine gr rfl (r_assign (ot rfl)) ?_
        refine go_nil ?_
        refine go_endb ?_
        refine go_region ?_
        refine gr rfl (r_bin (ot rfl) (oc rfl) rfl) ?_
        refine gr rfl (r_move (ot rfl)) ?_
        refine go_nil ?_
        first
         | (refine go_sub (own' := tl') (List.sublist_append_right _ _) ?_; refine Goes.weak (ih (i + 1, v', tl') ⟨by dsimp only; omega, acc ++ [lo[i]], by simpa using acc', by rw [← hpl, List.drop_eq_getElem_cons hi, plan_cons, if_pos (by simpa using hc3)]; simp, by simp; omega⟩ (by dsimp only; omega)) (Sub.cons (Sub.cons (Sub.cons (Sub.cons (Sub.cons (Sub.cons (Sub.nil _) rfl) rfl) rfl) rfl) rfl) ?_); show some (true, Value.int .i64 (IntKind.wrap .i64 ((i : Int) + 1))) = _; rw [wrap_id (by omega) (by omega)]; rfl)
         | (refine go_sub (own' := tl) (List.sublist_append_right [_, _] tl) ?_; refine Goes.weak (ih (i + 1, va, tl) ⟨by dsimp only; omega, acc, hacc, by rw [← hpl, List.drop_eq_getElem_cons hi, plan_cons, if_neg (by simpa using hc3)], by dsimp only; omega⟩ (by dsimp only; omega)) (Sub.cons (Sub.cons (Sub.cons (Sub.cons (Sub.cons (Sub.cons (Sub.nil _) rfl) rfl) rfl) rfl) rfl) ?_); show some (true, Value.int .i64 (IntKind.wrap .i64 ((i : Int) + 1))) = _; rw [wrap_id (by omega) (by omega)]; rfl)
      ·
        refine go_skip ?_
        refine go_endb ?_
        refine go_region ?_
        refine gr rfl (r_bin (ot rfl) (oc rfl) rfl) ?_
        refine gr rfl (r_move (ot rfl)) ?_
        refine go_nil ?_
        first
         | (refine go_sub (own' := tl') (List.sublist_append_right _ _) ?_; refine Goes.weak (ih (i + 1, v', tl') ⟨by dsimp only; omega, acc ++ [lo[i]], by simpa using acc', by rw [← hpl, List.drop_eq_getElem_cons hi, plan_cons, if_pos (by simpa using hc3)]; simp, by simp; omega⟩ (by dsimp only; omega)) (Sub.cons (Sub.cons (Sub.cons (Sub.cons (Sub.cons (Sub.cons (Sub.nil _) rfl) rfl) rfl) rfl) rfl) ?_); show some (true, Value.int .i64 (IntKind.wrap .i64 ((i : Int) + 1))) = _; rw [wrap_id (by omega) (by omega)]; rfl)
         | (refine go_sub (own' := tl) (List.sublist_append_right [_, _] tl) ?_; refine Goes.weak (ih (i + 1, va, tl) ⟨by dsimp only; omega, acc, hacc, by rw [← hpl, List.drop_eq_getElem_cons hi, plan_cons, if_neg (by simpa using hc3)], by dsimp only; omega⟩ (by dsimp only; omega)) (Sub.cons (Sub.cons (Sub.cons (Sub.cons (Sub.cons (Sub.cons (Sub.nil _) rfl) rfl) rfl) rfl) rfl) ?_); show some (true, Value.int .i64 (IntKind.wrap .i64 ((i : Int) + 1))) = _; rw [wrap_id (by omega) (by omega)]; rfl)
    ·
      refine go_exit rfl ?_
      refine go_seq ?_
      have hfin : acc = planOps m lo := by rw [← hpl, List.drop_eq_nil_of_le (by simpa using hc2)]; simp [planOps]
      refine acc_rows (pre := []) hacc (map_len (c := OpX.c) (k := 3) (fun _ => rfl)) (fun g1 eg wg hv => ?_)
      refine go_region ?_
      refine gr rfl (r_move (ot rfl)) ?_
      refine gr rfl (r_move (ot rfl)) ?_
      refine gr rfl (r_assign (ot rfl)) ?_
      refine gr rfl (r_assign (ot rfl)) ?_
      refine go_nil ?_
      refine g_ret (rst rfl (rst rfl rs0)) (fun h1 hf hs => ⟨eg.trans hs.hext, ?_⟩)
      first
       | (rw [if_pos hc1, ← hfin]; exact ⟨va, rfl, hv.ext hs.hext.kn⟩)
       | (rw [if_neg (by simp [hc1]), ← hfin]; exact ⟨va, rfl, hv.ext hs.hext.kn⟩)
end Go.Proofs.Ytadfhabapgipbaa.V
