/- The walks of entries.
   Conditions: what each theorem says of its arguments and of the heap. -/
import Derived.Test.YtadfhabapgipbaaRe
namespace Go.Proofs.Ytadfhabapgipbaa.V
open Go
set_option maxRecDepth 100000
set_option maxHeartbeats 4000000
set_option linter.unusedVariables false
set_option linter.unusedSimpArgs false
theorem s37 {h : Heap} (hw : Wf h) (rev : Int) {vo : Value} {lo : List OpX} (ho : SLv h 3 vo (lo.map OpX.c)) (bo : lo.length ≤ 1000) :
    Ev EE 37 [.int .i64 rev, vo] h (fun v h1 => SLv h1 4 v ((lo.map (evOf rev)).map Evt.c)) := by
  obtain ⟨alo, clo, rfl, hlo⟩ := id ho
  refine ev_of hw rfl at_37 rfl rfl ?_
  refine go_seq ?_
  refine go_region ?_
  refine gr rfl (r_assign (oc rfl)) ?_
  refine go_nil ?_
  refine go_seq ?_
  refine go_region ?_
  refine gr rfl (r_assign (oc rfl)) ?_
  refine go_nil ?_
  refine go_seq ?_
  refine go_seq ?_
  refine go_region ?_
  refine gr rfl (r_move (ot rfl)) ?_
  refine gr rfl (r_len rfl (os1 (ot rfl) os0) (fun _ _ => ln_25)) ?_
  refine gr rfl (r_move (oc rfl)) ?_
  refine go_nil ?_
  refine go_block ?_
  refine go_loop (α := Nat × Value × List Blk) (fun a => a.1 ≤ lo.length ∧ ∃ acc : List Evt, AccT 41 a.2.2 a.2.1 (acc.map Evt.c) ∧ acc ++ (lo.drop a.1).map (evOf rev) = lo.map (evOf rev) ∧ acc.length ≤ a.1) (fun a => lo.length - a.1) (fun a => [(11, true, .int .i64 a.1), (9, true, .slice alo (lo.map OpX.c).length clo), (10, true, .int .i64 (lo.map OpX.c).length), (5, true, a.2.1), (0, true, .int .i64 rev)]) (fun a => a.2.2) (fun _ => h) (fun a hI ih => ?_) (0, .slice none 0 0, []) ⟨Nat.zero_le _, [], AccT.nil _, rfl, Nat.zero_le _⟩ (Sub.cons (Sub.cons (Sub.cons (Sub.cons (Sub.cons (Sub.nil _) rfl) rfl) rfl) rfl) rfl) rfl rfl
  obtain ⟨i, va, tl⟩ := a
  dsimp only at hI ih ⊢
  obtain ⟨hi0, acc, hacc, hpl, hal⟩ := hI
  refine go_seq ?_
  refine go_region ?_
  refine gr rfl (r_bin (ot rfl) (ot rfl) rfl) ?_
  refine go_nil ?_
  refine go_seq ?_
  refine g_cond (ot rfl) (fun hc1 => ?_) (fun hc1 => ?_)
  ·
    refine go_skip ?_
    refine go_seq ?_
    refine go_block ?_
    refine go_seq ?_
    have hi : i < lo.length := by simpa using hc1
    have hx : (lo.map OpX.c)[i]? = some (lo[i].c) := by simp [hi]
    obtain ⟨p1, q1, e1, hp1, hq1, _⟩ := row_at hlo hx
    subst e1
    refine go_region ?_
    refine gr rfl (r_ia (ot rfl) (ot rfl) (ia_of ut_25 sz_69 (by simpa using hi) hp1)) ?_
    refine gr rfl (r_load (ot rfl) (v := .agg #[.string lo[i].key, .string lo[i].val, .bool lo[i].del]) (lo_e (fun hf k => ld_of ag_69 sz_69 (k.cellsAt hq1)))) ?_
    refine g_alloc rfl zo_69 rfl ?_; intro b7
    refine g_store 0 (ot rfl) (ot rfl) rfl sz_69 rfl rfl rfl rfl rfl ?_
    refine go_nil ?_
    refine go_seq ?_
    refine go_region ?_
    refine gr rfl (r_move (ot rfl)) ?_
    refine gr rfl (r_fa (ot rfl) (fa_69_0 _ _)) ?_
    refine gr rfl (r_load (ot rfl) (lo_s 0 rfl ag_9 rfl)) ?_
    refine gr rfl (r_fa (ot rfl) (fa_69_1 _ _)) ?_
    refine gr rfl (r_load (ot rfl) (lo_s 0 rfl ag_9 rfl)) ?_
    refine gr rfl (r_fa (ot rfl) (fa_69_2 _ _)) ?_
    refine gr rfl (r_load (ot rfl) (lo_s 0 rfl ag_4 rfl)) ?_
    refine gr rfl (r_build (op1 (ot rfl) (op1 (ot rfl) (op1 (ot rfl) (op1 (ot rfl) op0)))) rfl) ?_
    refine g_alloc rfl zo_41 rfl ?_; intro b8
    refine g_store 0 (ot rfl) (ot rfl) rfl sz_41 rfl rfl rfl rfl rfl ?_
    refine go_nil ?_
    refine go_seq ?_
    refine go_seq ?_
    refine go_region ?_
    refine gr rfl (r_fa (ot rfl) (fa_69_2 _ _)) ?_
    refine gr rfl (r_load (ot rfl) (lo_s 1 rfl ag_4 rfl)) ?_
    refine go_nil ?_
    refine g_cond (ot rfl) (fun hc2 => ?_) (fun hc2 => ?_)
    ·
      refine go_region ?_
      refine gr rfl (r_fa (ot rfl) (fa_41_2 _ _)) ?_
      refine g_store 0 (ot rfl) (oc rfl) rfl sz_9 rfl rfl rfl rfl rfl ?_
      refine go_nil ?_
      refine go_region ?_
      refine gr rfl (r_move (ot rfl)) ?_
      refine gr rfl (r_load (ot rfl) (lo_w 0 rfl ag_41 sz_41 rfl)) ?_
      refine g_bslice rfl (op1 (ot rfl) op0) ut_34 sz_41 zo_41 rfl rfl ?_; intro b28
      refine g_append1 (pre := [_, _, _]) (tl := tl) 0 rfl (os1 (ot rfl) (os1 (ot rfl) os0)) rfl ut_34 sz_41 by_41 zo_41 rfl zs_34_34 rfl rfl (by decide) rfl (map_len (c := Evt.c) (k := 4) (fun _ => rfl)) hacc (roomy_le (by rw [List.length_map]; omega) (by decide) (by decide)) (fun v' tl' acc' => ?_)
      refine gr rfl (r_assign (ot rfl)) ?_
      refine go_nil ?_
      refine go_endb ?_
      refine go_region ?_
      refine gr rfl (r_bin (ot rfl) (oc rfl) rfl) ?_
      refine gr rfl (r_move (ot rfl)) ?_
      refine go_nil ?_
      have acc2 : AccT 41 tl' v' ((acc ++ [evOf rev lo[i]]).map Evt.c) := by
        rw [List.map_append, List.map_cons]
        first
          | (have e : (evOf rev lo[i]).c = [.int .i64 rev, .string lo[i].key, .string ByteArray.empty, .bool lo[i].del] := (by unfold evOf Evt.c; rw [if_pos hc2]); rw [e]; exact acc')
          | (have e : (evOf rev lo[i]).c = [.int .i64 rev, .string lo[i].key, .string lo[i].val, .bool lo[i].del] := (by unfold evOf Evt.c; rw [if_neg (by rw [hc2]; decide)]); rw [e]; exact acc')
      refine go_sub (own' := tl') (List.sublist_append_right _ _) ?_
      refine Goes.weak (ih (i + 1, v', tl') ⟨by dsimp only; omega, acc ++ [evOf rev lo[i]], acc2, by rw [← hpl, List.drop_eq_getElem_cons hi, List.map_cons, List.append_assoc]; rfl, by simp; omega⟩ (by dsimp only; omega)) (Sub.cons (Sub.cons (Sub.cons (Sub.cons (Sub.cons (Sub.nil _) rfl) rfl) rfl) rfl) ?_)
      show some (true, Value.int .i64 (IntKind.wrap .i64 ((i : Int) + 1))) = _
      rw [wrap_id (by omega) (by omega)]; rfl
    ·
      refine go_skip ?_
      refine go_region ?_
      refine gr rfl (r_move (ot rfl)) ?_
      refine gr rfl (r_load (ot rfl) (lo_w 0 rfl ag_41 sz_41 rfl)) ?_
      refine g_bslice rfl (op1 (ot rfl) op0) ut_34 sz_41 zo_41 rfl rfl ?_; intro b28
      refine g_append1 (pre := [_, _, _]) (tl := tl) 0 rfl (os1 (ot rfl) (os1 (ot rfl) os0)) rfl ut_34 sz_41 by_41 zo_41 rfl zs_34_34 rfl rfl (by decide) rfl (map_len (c := Evt.c) (k := 4) (fun _ => rfl)) hacc (roomy_le (by rw [List.length_map]; omega) (by decide) (by decide)) (fun v' tl' acc' => ?_)
      refine gr rfl (r_assign (ot rfl)) ?_
      refine go_nil ?_
      refine go_endb ?_
      refine go_region ?_
      refine gr rfl (r_bin (ot rfl) (oc rfl) rfl) ?_
      refine gr rfl (r_move (ot rfl)) ?_
      refine go_nil ?_
      have acc2 : AccT 41 tl' v' ((acc ++ [evOf rev lo[i]]).map Evt.c) := by
        rw [List.map_append, List.map_cons]
        first
          | (have e : (evOf rev lo[i]).c = [.int .i64 rev, .string lo[i].key, .string ByteArray.empty, .bool lo[i].del] := (by unfold evOf Evt.c; rw [if_pos hc2]); rw [e]; exact acc')
          | (have e : (evOf rev lo[i]).c = [.int .i64 rev, .string lo[i].key, .string lo[i].val, .bool lo[i].del] := (by unfold evOf Evt.c; rw [if_neg (by rw [hc2]; decide)]); rw [e]; exact acc')
      refine go_sub (own' := tl') (List.sublist_append_right _ _) ?_
      refine Goes.weak (ih (i + 1, v', tl') ⟨by dsimp only; omega, acc ++ [evOf rev lo[i]], acc2, by rw [← hpl, List.drop_eq_getElem_cons hi, List.map_cons, List.append_assoc]; rfl, by simp; omega⟩ (by dsimp only; omega)) (Sub.cons (Sub.cons (Sub.cons (Sub.cons (Sub.cons (Sub.nil _) rfl) rfl) rfl) rfl) ?_)
      show some (true, Value.int .i64 (IntKind.wrap .i64 ((i : Int) + 1))) = _
      rw [wrap_id (by omega) (by omega)]; rfl
  ·
    refine go_exit rfl ?_
    refine go_seq ?_
    have hfin : acc = lo.map (evOf rev) := by rw [← hpl, List.drop_eq_nil_of_le (by simpa using hc1)]; simp
    refine acc_rows (pre := []) hacc (map_len (c := Evt.c) (k := 4) (fun _ => rfl)) (fun g1 eg wg hv => ?_)
    refine go_region ?_
    refine gr rfl (r_move (ot rfl)) ?_
    refine gr rfl (r_assign (ot rfl)) ?_
    refine go_nil ?_
    refine g_ret (rst rfl rs0) (fun h1 hf hs => ⟨eg.trans hs.hext, ?_⟩)
    rw [← hfin]; exact hv.ext hs.hext.kn

theorem s14 {h : Heap} (hw : Wf h) {vm vc vt ve : Value} {m : List KV} (hm : SLv h 3 vm (m.map KV.c)) (bm : m.length < 4611686018427387904) {cs : List Cmp} (hc : SLv h 4 vc (cs.map Cmp.c)) (bc : cs.length < 4611686018427387904)
    {th el : List OpX} (ht : SLv h 3 vt (th.map OpX.c)) (bt : th.length ≤ 1000) (he : SLv h 3 ve (el.map OpX.c)) (be : el.length ≤ 1000) (k r : Int) (f t : ByteArray) (s hr z : Int) :
    Ev EE 14 [.agg #[.int .i64 k, .string f, .string t, .int .i64 r, vc, vt, ve], vm, .agg #[.int .i64 s, .int .i64 hr, .int .i64 z]] h (fun v h1 => ∃ vr, v = .agg #[.bool (decideX m k r cs th el hr z).ok, vr, .int .i64 (decideX m k r cs th el hr z).err, .int .i64 (decideX m k r cs th el hr z).hor] ∧ SLv h1 4 vr ((decideX m k r cs th el hr z).rows.map Evt.c)) := by
  refine ev_of hw rfl at_14 rfl rfl ?_
  refine go_seq ?_
  refine go_region ?_
  refine g_box rfl (ot rfl) rfl ?_; intro b3
  refine g_box rfl (ot rfl) rfl ?_; intro b5
  refine g_alloc rfl zo_37 rfl ?_; intro b6
  refine go_nil ?_
  refine go_seq ?_
  refine go_seq ?_
  refine go_region ?_
  refine gr rfl (r_fa (ot rfl) (fa_27_0 _ _)) ?_
  refine gr rfl (r_load (ot rfl) (lo_s 2 rfl ag_3 rfl)) ?_
  refine go_nil ?_
  refine go_block ?_
  refine go_seq ?_
  refine go_region ?_
  refine gr rfl (r_bin (ot rfl) (oc rfl) rfl) ?_
  refine gr rfl (r_assign (ot rfl)) ?_
  refine go_nil ?_
  refine g_cond (ot rfl) (fun hc1 => ?_) (fun hc1 => ?_)
  ·
    refine go_seq ?_
    refine go_seq ?_
    refine go_region ?_
    refine gr rfl (r_fa (ot rfl) (fa_27_2 _ _)) ?_
    refine gr rfl (r_load (ot rfl) (lo_s 2 rfl ag_3 rfl)) ?_
    refine gr rfl (r_fa (ot rfl) (fa_30_1 _ _)) ?_
    refine gr rfl (r_load (ot rfl) (lo_s 1 rfl ag_3 rfl)) ?_
    refine gr rfl (r_bin (ot rfl) (ot rfl) rfl) ?_
    refine go_nil ?_
    refine g_cond (ot rfl) (fun hc2 => ?_) (fun hc2 => ?_)
    ·
      refine go_seq ?_
      refine go_region ?_
      refine gr rfl (r_build (op1 (oc rfl) op0) rfl) ?_
      refine g_store 0 (ot rfl) (ot rfl) rfl sz_37 rfl rfl rfl rfl rfl ?_
      refine go_nil ?_
      refine g_ret (rsc rfl (lo_w 0 rfl ag_37 sz_37 rfl) rs0) (fun h1 hf hs => ⟨(by first | exact hs.hext | exact eg.trans hs.hext | exact (eg.trans eg2).trans hs.hext), ?_⟩)
      have hd : decideX m k r cs th el hr z = ⟨false, [], 6, 0⟩ := by unfold decideX decide1; simp_all
      rw [hd]; exact ⟨.slice none 0 0, rfl, SLv.nil _ _ _ _⟩
    ·
      refine go_skip ?_
      refine go_seq ?_
      refine go_region ?_
      refine gr rfl (r_fa (ot rfl) (fa_27_2 _ _)) ?_
      refine gr rfl (r_load (ot rfl) (lo_s 2 rfl ag_3 rfl)) ?_
      refine gr rfl (r_build (op1 (ot rfl) op0) rfl) ?_
      refine g_store 0 (ot rfl) (ot rfl) rfl sz_37 rfl rfl rfl rfl rfl ?_
      refine go_nil ?_
      refine g_ret (rsc rfl (lo_w 0 rfl ag_37 sz_37 rfl) rs0) (fun h1 hf hs => ⟨(by first | exact hs.hext | exact eg.trans hs.hext | exact (eg.trans eg2).trans hs.hext), ?_⟩)
      have hd : decideX m k r cs th el hr z = ⟨false, [], 0, r⟩ := by unfold decideX decide1; simp_all
      rw [hd]; exact ⟨.slice none 0 0, rfl, SLv.nil _ _ _ _⟩
  ·
    refine go_seq ?_
    refine go_region ?_
    refine gr rfl (r_bin (ot rfl) (oc rfl) rfl) ?_
    refine gr rfl (r_assign (ot rfl)) ?_
    refine go_nil ?_
    refine g_cond (ot rfl) (fun hc2 => ?_) (fun hc2 => ?_)
    ·
      refine go_seq ?_
      refine go_region ?_
      refine gr rfl (r_move (ot rfl)) ?_
      refine gr rfl (r_load (ot rfl) (lo_w 2 rfl ag_27 sz_27 rfl)) ?_
      refine g_call EE_fr (fun _ h => by cases h; rfl) of (os1 (ot rfl) (os1 (ot rfl) os0)) hb_25 (fun hf kn w => by exact s25 w (hm.ext kn) bm (hc.ext kn) bc (ht.ext kn) bt (he.ext kn) be k r f t) ?_
      rintro v1 g1 eg wg ⟨vs, rfl, hvs⟩; obtain ⟨ao, co, rfl, hos⟩ := id hvs
      refine gr rfl (r_move (ot rfl)) ?_
      refine gr rfl (r_extract (ot rfl) rfl) ?_
      refine gr rfl (r_extract (ot rfl) rfl) ?_
      refine gr rfl (r_assign (ot rfl)) ?_
      refine gr rfl (r_assign (ot rfl)) ?_
      refine go_nil ?_
      refine go_seq ?_
      refine go_block ?_
      refine go_seq ?_
      refine go_region ?_
      refine gr rfl (r_move (ot rfl)) ?_
      refine gr rfl (r_len rfl (os1 (ot rfl) os0) (fun _ _ => ln_25)) ?_
      refine gr rfl (r_bin (ot rfl) (oc rfl) rfl) ?_
      refine gr rfl (r_assign (ot rfl)) ?_
      refine go_nil ?_
      refine g_cond (ot rfl) (fun hc3 => ?_) (fun hc3 => ?_)
      ·
        refine go_skip ?_
        refine go_endb ?_
        refine go_seq ?_
        refine go_region ?_
        refine gr rfl (r_move (ot rfl)) ?_
        refine gr rfl (r_fa (ot rfl) (fa_30_1 _ _)) ?_
        refine gr rfl (r_load (ot rfl) (lo_s 1 rfl ag_3 rfl)) ?_
        refine gr rfl (r_bin (ot rfl) (oc rfl) rfl) ?_
        refine gr rfl (r_move (ot rfl)) ?_
        refine g_call EE_fr (fun _ h => by cases h; rfl) of (os1 (ot rfl) (os1 (ot rfl) os0)) hb_37 (fun hf kn w => by exact s37 w _ (hvs.ext kn) (Nat.le_trans (List.length_filter_le _ _) (by split; exact bt; exact be))) ?_
        rintro vr g2 eg2 wg2 hvr; obtain ⟨ar, cr, rfl, hvr1⟩ := id hvr
        refine gr rfl (r_build (op1 (ot rfl) (op1 (ot rfl) op0)) rfl) ?_
        refine g_store 0 (ot rfl) (ot rfl) rfl sz_37 rfl rfl rfl rfl rfl ?_
        refine go_nil ?_
        refine g_ret (rsc rfl (lo_w 0 rfl ag_37 sz_37 rfl) rs0) (fun h1 hf hs => ⟨(by first | exact hs.hext | exact eg.trans hs.hext | exact (eg.trans eg2).trans hs.hext), ?_⟩)
        have hnil : planOps m (if holds m cs then th else el) = [] := by simpa using hc3
        have hd : decideX m k r cs th el hr z = ⟨holds m cs, [], 0, 0⟩ := by unfold decideX decide1; rw [hnil]; simp_all
        rw [hd]; refine ⟨_, rfl, ?_⟩
        rw [hnil] at hvr ⊢; exact hvr.ext hs.hext.kn
      ·
        refine go_seq ?_
        refine go_region ?_
        refine gr rfl (r_fa (ot rfl) (fa_30_1 _ _)) ?_
        refine gr rfl (r_load (ot rfl) (lo_s 1 rfl ag_3 rfl)) ?_
        refine gr rfl (r_bin (ot rfl) (oc rfl) rfl) ?_
        refine gr rfl (r_assign (ot rfl)) ?_
        refine go_nil ?_
        refine g_cond (ot rfl) (fun hc4 => ?_) (fun hc4 => ?_)
        ·
          refine go_seq ?_
          refine go_region ?_
          refine gr rfl (r_build (op1 (oc rfl) op0) rfl) ?_
          refine g_store 0 (ot rfl) (ot rfl) rfl sz_37 rfl rfl rfl rfl rfl ?_
          refine go_nil ?_
          refine g_ret (rsc rfl (lo_w 0 rfl ag_37 sz_37 rfl) rs0) (fun h1 hf hs => ⟨(by first | exact hs.hext | exact eg.trans hs.hext | exact (eg.trans eg2).trans hs.hext), ?_⟩)
          have hd : decideX m k r cs th el hr z = ⟨false, [], 9, 0⟩ := by unfold decideX decide1; simp_all
          rw [hd]; exact ⟨.slice none 0 0, rfl, SLv.nil _ _ _ _⟩
        ·
          refine go_seq ?_
          refine go_region ?_
          refine gr rfl (r_fa (ot rfl) (fa_30_1 _ _)) ?_
          refine gr rfl (r_load (ot rfl) (lo_s 1 rfl ag_3 rfl)) ?_
          refine gr rfl (r_bin (ot rfl) (oc rfl) rfl) ?_
          refine gr rfl (r_fa (ot rfl) (fa_30_2 _ _)) ?_
          refine gr rfl (r_load (ot rfl) (lo_s 1 rfl ag_3 rfl)) ?_
          refine gr rfl (r_bin (ot rfl) (ot rfl) rfl) ?_
          refine gr rfl (r_bin (ot rfl) (oc rfl) rfl) ?_
          refine gr rfl (r_assign (ot rfl)) ?_
          refine go_nil ?_
          refine g_cond (ot rfl) (fun hc5 => ?_) (fun hc5 => ?_)
          ·
            refine go_seq ?_
            refine go_region ?_
            refine gr rfl (r_build (op1 (oc rfl) op0) rfl) ?_
            refine g_store 0 (ot rfl) (ot rfl) rfl sz_37 rfl rfl rfl rfl rfl ?_
            refine go_nil ?_
            refine g_ret (rsc rfl (lo_w 0 rfl ag_37 sz_37 rfl) rs0) (fun h1 hf hs => ⟨(by first | exact hs.hext | exact eg.trans hs.hext | exact (eg.trans eg2).trans hs.hext), ?_⟩)
            have hd : decideX m k r cs th el hr z = ⟨false, [], 3, 0⟩ := by unfold decideX decide1; simp_all
            rw [hd]; exact ⟨.slice none 0 0, rfl, SLv.nil _ _ _ _⟩
          ·
            refine go_skip ?_
            refine go_endb ?_
            refine go_seq ?_
            refine go_region ?_
            refine gr rfl (r_move (ot rfl)) ?_
            refine gr rfl (r_fa (ot rfl) (fa_30_1 _ _)) ?_
            refine gr rfl (r_load (ot rfl) (lo_s 1 rfl ag_3 rfl)) ?_
            refine gr rfl (r_bin (ot rfl) (oc rfl) rfl) ?_
            refine gr rfl (r_move (ot rfl)) ?_
            refine g_call EE_fr (fun _ h => by cases h; rfl) of (os1 (ot rfl) (os1 (ot rfl) os0)) hb_37 (fun hf kn w => by exact s37 w _ (hvs.ext kn) (Nat.le_trans (List.length_filter_le _ _) (by split; exact bt; exact be))) ?_
            rintro vr g2 eg2 wg2 hvr; obtain ⟨ar, cr, rfl, hvr1⟩ := id hvr
            refine gr rfl (r_build (op1 (ot rfl) (op1 (ot rfl) op0)) rfl) ?_
            refine g_store 0 (ot rfl) (ot rfl) rfl sz_37 rfl rfl rfl rfl rfl ?_
            refine go_nil ?_
            refine g_ret (rsc rfl (lo_w 0 rfl ag_37 sz_37 rfl) rs0) (fun h1 hf hs => ⟨(by first | exact hs.hext | exact eg.trans hs.hext | exact (eg.trans eg2).trans hs.hext), ?_⟩)
            have hd : decideX m k r cs th el hr z = ⟨holds m cs, (planOps m (if holds m cs then th else el)).map (evOf (IntKind.i64.wrap (hr + 1))), 0, 0⟩ := by unfold decideX decide1; rw [if_neg (by rw [hc1]; decide), if_pos hc2, if_neg (by simpa using hc3), if_neg (by simpa using hc4), if_neg (by simpa using hc5)]
            rw [hd]; exact ⟨_, rfl, hvr.ext hs.hext.kn⟩
    ·
      refine go_skip ?_
      refine go_endb ?_
      refine go_seq ?_
      refine go_region ?_
      refine gr rfl (r_build op0 rfl) ?_
      refine g_store 0 (ot rfl) (ot rfl) rfl sz_37 rfl rfl rfl rfl rfl ?_
      refine go_nil ?_
      refine g_ret (rsc rfl (lo_w 0 rfl ag_37 sz_37 rfl) rs0) (fun h1 hf hs => ⟨(by first | exact hs.hext | exact eg.trans hs.hext | exact (eg.trans eg2).trans hs.hext), ?_⟩)
      have hd : decideX m k r cs th el hr z = ⟨false, [], 0, 0⟩ := by unfold decideX decide1; simp_all
      rw [hd]; exact ⟨.slice none 0 0, rfl, SLv.nil _ _ _ _⟩
end Go.Proofs.Ytadfhabapgipbaa.V
