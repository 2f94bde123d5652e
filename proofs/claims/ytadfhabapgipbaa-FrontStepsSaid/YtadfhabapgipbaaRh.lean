/- The walk of FrontSteps.
   Conditions: what each theorem says of its arguments and of the heap. -/
import Derived.Test.YtadfhabapgipbaaRg
namespace Go.Proofs.Ytadfhabapgipbaa.V
open Go
set_option maxRecDepth 100000
set_option maxHeartbeats 4000000
set_option linter.unusedVariables false
set_option linter.unusedSimpArgs false
theorem s3 {h : Heap} (hw : Wf h) {vm vc vt ve : Value} {m : List KV} (hm : SLv h 3 vm (m.map KV.c)) {cs : List Cmp} (hc : SLv h 4 vc (cs.map Cmp.c)) 
    {th el : List OpX} (ht : SLv h 3 vt (th.map OpX.c)) (he : SLv h 3 ve (el.map OpX.c)) (k r : Int) (f t : ByteArray) (s hr z : Int) (wr : -9223372036854775808 ≤ hr) : Ev EE 3 [.agg #[.int .i64 k, .string f, .string t, .int .i64 r, vc, vt, ve], vm, .agg #[.int .i64 s, .int .i64 hr, .int .i64 z]] h (fun v _ => v = .bool true) := by
  obtain ⟨ac, cc, rfl, hc0⟩ := id hc
  obtain ⟨at0, ct, rfl, ht0⟩ := id ht
  obtain ⟨ae, ce, rfl, he0⟩ := id he
  obtain ⟨am, cm, rfl, hm0⟩ := id hm
  refine ev_of hw rfl at_3 rfl rfl ?_
  refine go_seq ?_
  refine go_region ?_
  refine g_box rfl (ot rfl) rfl ?_; intro b3
  refine g_box rfl (ot rfl) rfl ?_; intro b5
  refine gr rfl (r_assign (oc rfl)) ?_
  refine go_nil ?_
  refine go_seq ?_
  refine go_region ?_
  refine g_callp EE_fr rfl of os0 hb_11 (fun q => by cases q) (fun hf kn w => by exact known_ev (E := E1) (ks := [(11, .bool true)]) rfl hf w) ?_
  refine gr rfl (r_assign (ot rfl)) ?_
  refine go_nil ?_
  refine go_seq ?_
  refine go_seq ?_
  refine go_region ?_
  refine gr rfl (r_load (ot rfl) (lo_w 1 rfl ag_27 sz_27 rfl)) ?_
  refine g_callp EE_fr rfl of (os1 (ot rfl) os0) hb_12 (fun q => by cases q) (fun hf kn w => by exact s12 w k r f t ac at0 ae _ _ _ cc ct ce) ?_
  refine gr rfl (r_un (ot rfl) rfl) ?_
  refine gr rfl (r_move (ot rfl)) ?_
  refine grf rfl rfl rfl rfl (r_move (ot rfl)) ?_
  refine grf rfl rfl rfl rfl (r_len rfl (os1 (og rfl id) os0) (fun _ _ => ln_28)) ?_
  refine grf rfl rfl rfl rfl (r_bin (og rfl id) (oc rfl) rfl) ?_
  refine gr rfl (r_pickb (ot rfl) (oc rfl) (og rfl id)) ?_
  refine gr rfl (r_move (ot rfl)) ?_
  refine grf rfl rfl rfl rfl (r_move (ot rfl)) ?_
  refine g_callf EE_fr rfl rfl rfl rfl of (os1 (og rfl id) os0) hb_13 (fun q => by cases q) (fun hf kn w hg => by exact s13 w (hm.ext kn) (by have := hg; simp at this; omega)) ?_
  refine grf rfl rfl rfl rfl (r_un (og rfl id) rfl) ?_
  refine gr rfl (r_pickb (ot rfl) (oc rfl) (og rfl id)) ?_
  refine gr rfl (r_move (ot rfl)) ?_
  refine grf rfl rfl rfl rfl (r_fa (ot rfl) (fa_30_1 _ _)) ?_
  refine grf rfl rfl rfl rfl (r_load (og rfl id) (lo_s 0 rfl ag_3 rfl)) ?_
  refine grf rfl rfl rfl rfl (r_bin (og rfl id) (oc rfl) rfl) ?_
  refine gr rfl (r_pickb (ot rfl) (oc rfl) (og rfl id)) ?_
  refine gr rfl (r_move (ot rfl)) ?_
  refine grf rfl rfl rfl rfl (r_fa (ot rfl) (fa_30_2 _ _)) ?_
  refine grf rfl rfl rfl rfl (r_load (og rfl id) (lo_s 0 rfl ag_3 rfl)) ?_
  refine grf rfl rfl rfl rfl (r_bin (og rfl id) (oc rfl) rfl) ?_
  refine gr rfl (r_pickb (ot rfl) (oc rfl) (og rfl id)) ?_
  refine gr rfl (r_move (ot rfl)) ?_
  refine grf rfl rfl rfl rfl (r_fa (ot rfl) (fa_30_2 _ _)) ?_
  refine grf rfl rfl rfl rfl (r_load (og rfl id) (lo_s 0 rfl ag_3 rfl)) ?_
  refine grf rfl rfl rfl rfl (r_bin (og rfl id) (oc rfl) rfl) ?_
  refine gr rfl (r_pickb (ot rfl) (oc rfl) (og rfl id)) ?_
  refine gr rfl (r_move (ot rfl)) ?_
  refine grf rfl rfl rfl rfl (r_fa (ot rfl) (fa_30_0 _ _)) ?_
  refine grf rfl rfl rfl rfl (r_load (og rfl id) (lo_s 0 rfl ag_3 rfl)) ?_
  refine grf rfl rfl rfl rfl (r_bin (og rfl id) (oc rfl) rfl) ?_
  refine gr rfl (r_pickb (ot rfl) (oc rfl) (og rfl id)) ?_
  refine go_nil ?_
  refine g_cond (ot rfl) (fun hc1 => ?_) (fun hc1 => ?_)
  ·
    refine go_seq ?_
    refine go_region ?_
    refine gr rfl (r_move (ot rfl)) ?_
    refine gr rfl (r_assign (ot rfl)) ?_
    refine go_nil ?_
    refine g_ret (rst rfl rs0) (fun h1 hf hs => ⟨(by first | exact hs.hext | exact eg.trans hs.hext), ?_⟩)
    rfl
  ·
    refine go_skip ?_
    refine go_seq ?_
    have hbs := hc1
    simp at hbs
    have bm : m.length < 4611686018427387904 := by omega
    have bc : cs.length < 4611686018427387904 := by omega
    have bt : th.length ≤ 1000 := by omega
    have be : el.length ≤ 1000 := by omega
    refine go_region ?_
    refine gr rfl (r_load (ot rfl) (lo_w 1 rfl ag_27 sz_27 rfl)) ?_
    refine gr rfl (r_move (ot rfl)) ?_
    refine gr rfl (r_load (ot rfl) (lo_w 0 rfl ag_30 sz_30 rfl)) ?_
    refine g_call EE_fr (fun _ h => by cases h; rfl) of (os1 (ot rfl) (os1 (ot rfl) (os1 (ot rfl) os0))) hb_14 (fun hf kn w => by exact s14 w (hm.ext kn) bm (hc.ext kn) bc (ht.ext kn) bt (he.ext kn) be k r f t s hr z) ?_
    rintro v1 g1 eg wg ⟨vr, rfl, hvr⟩; obtain ⟨d, hd⟩ : ∃ d, d = decideX m k r cs th el hr z := ⟨_, rfl⟩; rw [← hd] at hvr ⊢; obtain ⟨ar, cr, rfl, hvr1⟩ := id hvr
    refine g_alloc rfl zo_37 rfl ?_; intro b8
    refine g_store 0 (ot rfl) (ot rfl) rfl sz_37 rfl rfl rfl rfl rfl ?_
    refine go_nil ?_
    refine go_seq ?_
    refine go_region ?_
    refine gr rfl (r_load (ot rfl) (lo_w 1 rfl ag_30 sz_30 rfl)) ?_
    refine gr rfl (r_load (ot rfl) (lo_w 0 rfl ag_37 sz_37 rfl)) ?_
    refine g_callp EE_fr rfl of (os1 (ot rfl) (os1 (ot rfl) os0)) hb_15 (fun q => by cases q) (fun hf kn w => by exact s15 w s hr z d.ok ar _ cr d.err d.hor) ?_
    refine g_alloc rfl zo_30 rfl ?_; intro b9
    refine g_store 0 (ot rfl) (ot rfl) rfl sz_30 rfl rfl rfl rfl rfl ?_
    refine go_nil ?_
    refine go_seq ?_
    refine go_seq ?_
    refine go_region ?_
    refine gr rfl (r_assign (oc rfl)) ?_
    refine go_nil ?_
    refine go_block ?_
    have bd : d.rows.length ≤ 1000 := by subst hd; exact Nat.le_trans decide_len (plan_len bt be)
    refine go_sub (own' := [⟨b9, [.int .i64 (IntKind.i64.wrap (s + 1)), .int .i64 (if (d.rows.map Evt.c).length = 0 then hr else IntKind.i64.wrap (hr + 1)), .int .i64 (if d.hor > z then d.hor else z)], 30⟩, ⟨b8, [.bool d.ok, .slice ar (d.rows.map Evt.c).length cr, .int .i64 d.err, .int .i64 d.hor], 37⟩, ⟨b5, [.int .i64 s, .int .i64 hr, .int .i64 z], 30⟩]) ?_ ?_
    · exact List.Sublist.cons_cons _ (List.Sublist.cons_cons _ (List.Sublist.cons_cons _ (List.nil_sublist _)))
    refine go_loop (α := Nat) (fun i => i ≤ d.rows.length) (fun i => d.rows.length - i) (fun i => [(10, true, .int .i64 i), (5, true, .pointer (some ⟨b5, 0, none⟩)), (8, true, .pointer (some ⟨b8, 0, none⟩)), (9, true, .pointer (some ⟨b9, 0, none⟩)), (7, true, .bool true)]) (fun _ => [⟨b9, [.int .i64 (IntKind.i64.wrap (s + 1)), .int .i64 (if (d.rows.map Evt.c).length = 0 then hr else IntKind.i64.wrap (hr + 1)), .int .i64 (if d.hor > z then d.hor else z)], 30⟩, ⟨b8, [.bool d.ok, .slice ar (d.rows.map Evt.c).length cr, .int .i64 d.err, .int .i64 d.hor], 37⟩, ⟨b5, [.int .i64 s, .int .i64 hr, .int .i64 z], 30⟩]) (fun _ => g1) (fun i hI ih => ?_) 0 (Nat.zero_le _) (Sub.cons (Sub.cons (Sub.cons (Sub.cons (Sub.cons (Sub.nil _) rfl) rfl) rfl) rfl) rfl) rfl rfl
    refine go_seq ?_
    refine go_seq ?_
    refine go_region ?_
    refine gr rfl (r_move (ot rfl)) ?_
    refine gr rfl (r_fa (ot rfl) (fa_37_1 _ _)) ?_
    refine gr rfl (r_load (ot rfl) (lo_s 1 rfl ag_34 rfl)) ?_
    refine gr rfl (r_len rfl (os1 (ot rfl) os0) (fun _ _ => ln_34)) ?_
    refine gr rfl (r_bin (ot rfl) (ot rfl) rfl) ?_
    refine go_nil ?_
    refine g_cond (ot rfl) (fun hc2 => ?_) (fun hc2 => ?_)
    ·
      refine go_skip ?_
      refine go_seq ?_
      refine go_block ?_
      refine go_seq ?_
      have hi : i < d.rows.length := by simpa using hc2
      have hx : (d.rows.map Evt.c)[i]? = some (d.rows[i].c) := by simp [hi]
      obtain ⟨p1, q1, e1, hp1, hq1, _⟩ := row_at hvr1 hx
      subst e1
      have hrev : d.rows[i].rev = IntKind.i64.wrap (hr + 1) := by have q := decide_rows (k := k) (r := r) (ok := holds m cs) (ops := planOps m (if holds m cs then th else el)) (hr := hr) (z := z) d.rows[i] (by subst hd; exact List.getElem_mem hi); exact q
      refine go_region ?_
      refine gr rfl (r_fa (ot rfl) (fa_37_1 _ _)) ?_
      refine gr rfl (r_load (ot rfl) (lo_s 1 rfl ag_34 rfl)) ?_
      refine gr rfl (r_move (ot rfl)) ?_
      refine gr rfl (r_ia (ot rfl) (ot rfl) (ia_of ut_34 sz_41 (by simpa using hi) hp1)) ?_
      refine gr rfl (r_fa (ot rfl) (fe_41_0 hp1)) ?_
      refine gr rfl (r_load (ot rfl) (v := .int .i64 d.rows[i].rev) (lo_e (fun hf k => ld_field ag_3 (k.cellsAt hq1) rfl))) ?_
      refine gr rfl (r_fa (ot rfl) (fa_30_1 _ _)) ?_
      refine gr rfl (r_load (ot rfl) (lo_s 2 rfl ag_3 rfl)) ?_
      refine gr rfl (r_bin (ot rfl) (oc rfl) rfl) ?_
      refine gr rfl (r_bin (ot rfl) (ot rfl) rfl) ?_
      refine go_nil ?_
      refine g_cond (ot rfl) (fun hc3 => ?_) (fun hc3 => ?_)
      ·
        refine go_seq ?_
        refine go_region ?_
        refine gr rfl (r_assign (oc rfl)) ?_
        refine go_nil ?_
        refine g_ret (rst rfl rs0) (fun h1 hf hs => ⟨(by first | exact hs.hext | exact eg.trans hs.hext), ?_⟩)
        exact absurd hc3 (by rw [hrev]; simp)
      ·
        refine go_skip ?_
        refine go_endb ?_
        refine go_region ?_
        refine gr rfl (r_move (ot rfl)) ?_
        refine gr rfl (r_bin (ot rfl) (oc rfl) rfl) ?_
        refine gr rfl (r_assign (ot rfl)) ?_
        refine go_nil ?_
        refine Goes.weak (ih (i + 1) hi (by omega)) (Sub.cons (Sub.cons (Sub.cons (Sub.cons (Sub.cons (Sub.nil _) rfl) rfl) rfl) rfl) ?_)
        show some (true, Value.int .i64 (IntKind.wrap .i64 ((i : Int) + 1))) = _
        rw [wrap_id (by omega) (by omega)]; rfl
    ·
      refine go_exit rfl ?_
      refine go_seq ?_
      refine go_region ?_
      refine gr rfl (r_fa (ot rfl) (fa_30_0 _ _)) ?_
      refine gr rfl (r_load (ot rfl) (lo_s 0 rfl ag_3 rfl)) ?_
      refine gr rfl (r_fa (ot rfl) (fa_30_0 _ _)) ?_
      refine gr rfl (r_load (ot rfl) (lo_s 2 rfl ag_3 rfl)) ?_
      refine gr rfl (r_bin (ot rfl) (oc rfl) rfl) ?_
      refine gr rfl (r_bin (ot rfl) (ot rfl) rfl) ?_
      refine gr rfl (r_move (ot rfl)) ?_
      refine grt rfl rfl rfl rfl (r_fa (ot rfl) (fa_30_2 _ _)) ?_
      refine grt rfl rfl rfl rfl (r_load (og rfl id) (lo_s 0 rfl ag_3 rfl)) ?_
      refine grt rfl rfl rfl rfl (r_fa (ot rfl) (fa_30_2 _ _)) ?_
      refine grt rfl rfl rfl rfl (r_load (og rfl id) (lo_s 2 rfl ag_3 rfl)) ?_
      refine grt rfl rfl rfl rfl (r_bin (og rfl id) (og rfl id) rfl) ?_
      refine gr rfl (r_pickb (ot rfl) (og rfl id) (oc rfl)) ?_
      refine gr rfl (r_move (ot rfl)) ?_
      refine grt rfl rfl rfl rfl (r_fa (ot rfl) (fa_30_1 _ _)) ?_
      refine grt rfl rfl rfl rfl (r_load (og rfl id) (lo_s 0 rfl ag_3 rfl)) ?_
      refine grt rfl rfl rfl rfl (r_fa (ot rfl) (fa_30_1 _ _)) ?_
      refine grt rfl rfl rfl rfl (r_load (og rfl id) (lo_s 2 rfl ag_3 rfl)) ?_
      refine grt rfl rfl rfl rfl (r_bin (og rfl id) (oc rfl) rfl) ?_
      refine grt rfl rfl rfl rfl (r_bin (og rfl id) (og rfl id) rfl) ?_
      refine grt rfl rfl rfl rfl (r_fa (ot rfl) (fa_37_1 _ _)) ?_
      refine grt rfl rfl rfl rfl (r_load (og rfl id) (lo_s 1 rfl ag_34 rfl)) ?_
      refine grt rfl rfl rfl rfl (r_len rfl (os1 (og rfl id) os0) (fun _ _ => ln_34)) ?_
      refine grt rfl rfl rfl rfl (r_bin (og rfl id) (oc rfl) rfl) ?_
      refine grt rfl rfl rfl rfl (r_bin (og rfl id) (og rfl id) be_4) ?_
      refine gr rfl (r_pickb (ot rfl) (og rfl id) (oc rfl)) ?_
      refine gr rfl (r_move (ot rfl)) ?_
      refine grt rfl rfl rfl rfl (r_fa (ot rfl) (fa_30_1 _ _)) ?_
      refine grt rfl rfl rfl rfl (r_load (og rfl id) (lo_s 0 rfl ag_3 rfl)) ?_
      refine grt rfl rfl rfl rfl (r_fa (ot rfl) (fa_30_1 _ _)) ?_
      refine grt rfl rfl rfl rfl (r_load (og rfl id) (lo_s 2 rfl ag_3 rfl)) ?_
      refine grt rfl rfl rfl rfl (r_bin (og rfl id) (og rfl id) rfl) ?_
      refine grt rfl rfl rfl rfl (r_fa (ot rfl) (fa_37_1 _ _)) ?_
      refine grt rfl rfl rfl rfl (r_load (og rfl id) (lo_s 1 rfl ag_34 rfl)) ?_
      refine grt rfl rfl rfl rfl (r_len rfl (os1 (og rfl id) os0) (fun _ _ => ln_34)) ?_
      refine grt rfl rfl rfl rfl (r_bin (og rfl id) (oc rfl) rfl) ?_
      refine grt rfl rfl rfl rfl (r_bin (og rfl id) (og rfl id) be_4) ?_
      refine gr rfl (r_pickb (ot rfl) (og rfl id) (oc rfl)) ?_
      refine gr rfl (r_assign (ot rfl)) ?_
      refine go_nil ?_
      refine go_seq ?_
      refine go_region ?_
      refine gr rfl (r_fa (ot rfl) (fa_37_2 _ _)) ?_
      refine gr rfl (r_load (ot rfl) (lo_s 1 rfl ag_35 rfl)) ?_
      refine gr rfl (r_bin (ot rfl) (oc rfl) rfl) ?_
      refine gr rfl (r_move (ot rfl)) ?_
      refine grf rfl rfl rfl rfl (r_fa (ot rfl) (fa_37_1 _ _)) ?_
      refine grf rfl rfl rfl rfl (r_load (og rfl id) (lo_s 1 rfl ag_34 rfl)) ?_
      refine grf rfl rfl rfl rfl (r_len rfl (os1 (og rfl id) os0) (fun _ _ => ln_34)) ?_
      refine grf rfl rfl rfl rfl (r_bin (og rfl id) (oc rfl) rfl) ?_
      refine grf rfl rfl rfl rfl (r_move (og rfl id)) ?_
      refine grt' rfl rfl rfl rfl (r_fa (ot rfl) (fa_37_0 _ _)) ?_
      refine grt' rfl rfl rfl rfl (r_load (og rfl id) (lo_s 1 rfl ag_4 rfl)) ?_
      refine grt' rfl rfl rfl rfl (r_un (og rfl id) rfl) ?_
      refine grf rfl rfl rfl rfl (r_pickb (og rfl id) (og rfl id) (oc rfl)) ?_
      refine grf rfl rfl rfl rfl (r_move (og rfl id)) ?_
      refine grt' rfl rfl rfl rfl (r_fa (ot rfl) (fa_37_3 _ _)) ?_
      refine grt' rfl rfl rfl rfl (r_load (og rfl id) (lo_s 1 rfl ag_3 rfl)) ?_
      refine grt' rfl rfl rfl rfl (r_bin (og rfl id) (oc rfl) rfl) ?_
      refine grf rfl rfl rfl rfl (r_pickb (og rfl id) (og rfl id) (oc rfl)) ?_
      refine gr rfl (r_pickb (ot rfl) (oc rfl) (og rfl id)) ?_
      refine gr rfl (r_assign (ot rfl)) ?_
      refine go_nil ?_
      refine go_seq ?_
      refine go_region ?_
      refine gr rfl (r_move (ot rfl)) ?_
      refine gr rfl (r_move (ot rfl)) ?_
      refine grt rfl rfl rfl rfl (r_move (ot rfl)) ?_
      refine gr rfl (r_pickb (ot rfl) (og rfl id) (oc rfl)) ?_
      refine gr rfl (r_move (ot rfl)) ?_
      refine grt rfl rfl rfl rfl (r_move (ot rfl)) ?_
      refine gr rfl (r_pickb (ot rfl) (og rfl id) (oc rfl)) ?_
      refine gr rfl (r_assign (ot rfl)) ?_
      refine go_nil ?_
      refine g_ret (rst rfl rs0) (fun h1 hf hs => ⟨(by first | exact hs.hext | exact eg.trans hs.hext), ?_⟩)
      have hne := wrap_ne wr (by omega)
      have q := decide_err (k := k) (r := r) (ok := holds m cs) (ops := planOps m (if holds m cs then th else el)) (hr := hr) (z := z)
      rw [show decide1 k r (holds m cs) (planOps m (if holds m cs then th else el)) hr z = d from hd.symm] at q
      have hy : z ≤ (if d.hor > z then d.hor else z) := by split <;> omega
      clear hs hvr hvr1 hd
      simp only [packV, List.length_map]
      rcases Nat.eq_zero_or_pos d.rows.length with e | e
      · by_cases e2 : d.err = 0 <;> simp_all [Ne.symm hne]
      · (have e3 : ¬ d.rows.length = 0 := by omega); (have hb : (IntKind.i64.wrap (hr + 1) == hr) = false := by simpa using hne); (have hl : ((d.rows.length : Int) == 0) = false := by simp; intro x; simp [x] at e); (have hl2 : decide ((d.rows.length : Int) > 0) = true := by simp; omega); rw [if_neg e3, hb, hl, hl2]; by_cases e2 : d.err = 0 <;> simp_all
end Go.Proofs.Ytadfhabapgipbaa.V
