/- The walks of compares.
   Conditions: what each theorem says of its arguments and of the heap. -/
import Derived.Test.YtadfhabapgipbaaRc
namespace Go.Proofs.Ytadfhabapgipbaa.V
open Go
set_option maxRecDepth 100000
set_option maxHeartbeats 4000000
set_option linter.unusedVariables false
set_option linter.unusedSimpArgs false
theorem s44 {h : Heap} (hw : Wf h) {vm : Value} {m : List KV} (hm : SLv h 3 vm (m.map KV.c)) (bm : m.length < 4611686018427387904) {b : Nat} (hb : h.get b = some (.cells [vm] 28)) (c : Cmp) :
    Ev EE 44 [.agg #[.int .i64 c.kind, .string c.key, .string c.val, .int .i64 c.rev], .pointer (some ⟨b, 0, none⟩)] h (fun v _ => v = .bool (bad1 m c)) := by
  refine ev_of hw rfl at_44 rfl rfl ?_
  refine go_seq ?_
  refine go_region ?_
  refine g_box rfl (ot rfl) rfl ?_; intro b2
  refine gr rfl (r_assign (oc rfl)) ?_
  refine go_nil ?_
  refine go_seq ?_
  refine go_region ?_
  refine gr rfl (r_load (ot rfl) (v := vm) (lo_e (fun hf k => ld_cell ag_28 (kn_cells k hb) rfl))) ?_
  refine gr rfl (r_fa (ot rfl) (fa_65_1 _ _)) ?_
  refine gr rfl (r_load (ot rfl) (lo_s 0 rfl ag_9 rfl)) ?_
  refine g_callp EE_fr rfl of (os1 (ot rfl) (os1 (ot rfl) os0)) hb_42 (fun q => by cases q) (fun hf kn w => by exact s42 w (hm.ext kn) bm c.key) ?_
  refine gr rfl (r_move (ot rfl)) ?_
  refine gr rfl (r_extract (ot rfl) rfl) ?_
  refine gr rfl (r_extract (ot rfl) rfl) ?_
  refine g_alloc rfl zo_52 rfl ?_; intro b4
  refine g_store 0 (ot rfl) (ot rfl) rfl sz_52 rfl rfl rfl rfl rfl ?_
  refine gr rfl (r_assign (ot rfl)) ?_
  refine go_nil ?_
  refine go_seq ?_
  refine go_block ?_
  refine go_seq ?_
  refine go_region ?_
  refine gr rfl (r_fa (ot rfl) (fa_65_0 _ _)) ?_
  refine gr rfl (r_load (ot rfl) (lo_s 1 rfl ag_3 rfl)) ?_
  refine gr rfl (r_bin (ot rfl) (oc rfl) rfl) ?_
  refine gr rfl (r_assign (ot rfl)) ?_
  refine go_nil ?_
  refine g_cond (ot rfl) (fun hc1 => ?_) (fun hc1 => ?_)
  ·
    refine go_seq ?_
    refine go_region ?_
    refine gr rfl (r_move (ot rfl)) ?_
    refine gr rfl (r_un (ot rfl) rfl) ?_
    refine gr rfl (r_move (ot rfl)) ?_
    refine grf rfl rfl rfl rfl (r_fa (ot rfl) (fa_52_1 _ _)) ?_
    refine grf rfl rfl rfl rfl (r_load (og rfl id) (lo_s 0 rfl ag_9 rfl)) ?_
    refine grf rfl rfl rfl rfl (r_fa (ot rfl) (fa_65_2 _ _)) ?_
    refine grf rfl rfl rfl rfl (r_load (og rfl id) (lo_s 1 rfl ag_9 rfl)) ?_
    refine grf rfl rfl rfl rfl (r_bin (og rfl id) (og rfl id) rfl) ?_
    refine gr rfl (r_pickb (ot rfl) (oc rfl) (og rfl id)) ?_
    refine gr rfl (r_assign (ot rfl)) ?_
    refine go_nil ?_
    refine g_ret (rst rfl rs0) (fun h1 hf hs => ⟨hs.hext, ?_⟩)
    show _ = Value.bool (bad1 m c)
    unfold bad1
    simp_all [packV, eqB]
  ·
    refine go_seq ?_
    refine go_region ?_
    refine gr rfl (r_fa (ot rfl) (fa_65_0 _ _)) ?_
    refine gr rfl (r_load (ot rfl) (lo_s 1 rfl ag_3 rfl)) ?_
    refine gr rfl (r_bin (ot rfl) (oc rfl) rfl) ?_
    refine gr rfl (r_move (ot rfl)) ?_
    refine grt rfl rfl rfl rfl (r_fa (ot rfl) (fa_65_3 _ _)) ?_
    refine grt rfl rfl rfl rfl (r_load (og rfl id) (lo_s 1 rfl ag_3 rfl)) ?_
    refine grt rfl rfl rfl rfl (r_bin (og rfl id) (oc rfl) rfl) ?_
    refine gr rfl (r_pickb (ot rfl) (og rfl id) (oc rfl)) ?_
    refine gr rfl (r_assign (ot rfl)) ?_
    refine go_nil ?_
    refine g_cond (ot rfl) (fun hc2 => ?_) (fun hc2 => ?_)
    ·
      refine go_seq ?_
      refine go_region ?_
      refine gr rfl (r_move (ot rfl)) ?_
      refine gr rfl (r_assign (ot rfl)) ?_
      refine go_nil ?_
      refine g_ret (rst rfl rs0) (fun h1 hf hs => ⟨hs.hext, ?_⟩)
      show _ = Value.bool (bad1 m c)
      unfold bad1
      simp_all [packV]
    ·
      refine go_seq ?_
      refine go_region ?_
      refine gr rfl (r_fa (ot rfl) (fa_65_0 _ _)) ?_
      refine gr rfl (r_load (ot rfl) (lo_s 1 rfl ag_3 rfl)) ?_
      refine gr rfl (r_bin (ot rfl) (oc rfl) rfl) ?_
      refine gr rfl (r_assign (ot rfl)) ?_
      refine go_nil ?_
      refine g_cond (ot rfl) (fun hc3 => ?_) (fun hc3 => ?_)
      ·
        refine go_seq ?_
        refine go_region ?_
        refine gr rfl (r_move (ot rfl)) ?_
        refine gr rfl (r_un (ot rfl) rfl) ?_
        refine gr rfl (r_move (ot rfl)) ?_
        refine grf rfl rfl rfl rfl (r_fa (ot rfl) (fa_52_2 _ _)) ?_
        refine grf rfl rfl rfl rfl (r_load (og rfl id) (lo_s 0 rfl ag_3 rfl)) ?_
        refine grf rfl rfl rfl rfl (r_fa (ot rfl) (fa_65_3 _ _)) ?_
        refine grf rfl rfl rfl rfl (r_load (og rfl id) (lo_s 1 rfl ag_3 rfl)) ?_
        refine grf rfl rfl rfl rfl (r_bin (og rfl id) (og rfl id) rfl) ?_
        refine gr rfl (r_pickb (ot rfl) (oc rfl) (og rfl id)) ?_
        refine gr rfl (r_assign (ot rfl)) ?_
        refine go_nil ?_
        refine g_ret (rst rfl rs0) (fun h1 hf hs => ⟨hs.hext, ?_⟩)
        show _ = Value.bool (bad1 m c)
        unfold bad1
        simp_all [packV]
      ·
        refine go_skip ?_
        refine go_endb ?_
        refine go_seq ?_
        refine go_region ?_
        refine gr rfl (r_assign (oc rfl)) ?_
        refine go_nil ?_
        refine g_ret (rst rfl rs0) (fun h1 hf hs => ⟨hs.hext, ?_⟩)
        show _ = Value.bool (bad1 m c)
        unfold bad1
        simp_all [packV]

theorem s65 {h : Heap} (hw : Wf h) {vm vc : Value} {m : List KV} (hm : SLv h 3 vm (m.map KV.c)) (bm : m.length < 4611686018427387904) {b : Nat} (hb : h.get b = some (.cells [vm] 28)) {l : List Cmp} (hc : SLv h 4 vc (l.map Cmp.c)) (bl : l.length < 4611686018427387904) :
    Ev EE 65 [vc, .func (.func 44) #[] #[.pointer (some ⟨b, 0, none⟩)]] h (fun v _ => v = .int .i64 (idxFrom (bad1 m) l 0)) := by
  obtain ⟨ac, cap, rfl, hcs⟩ := hc
  refine ev_of hw rfl at_65 rfl rfl ?_
  refine go_seq ?_
  refine go_region ?_
  refine gr rfl (r_assign (oc rfl)) ?_
  refine go_nil ?_
  refine go_seq ?_
  refine go_seq ?_
  refine go_region ?_
  refine gr rfl (r_move (ot rfl)) ?_
  refine gr rfl (r_len rfl (os1 (ot rfl) os0) (fun _ _ => ln_24)) ?_
  refine gr rfl (r_move (oc rfl)) ?_
  refine go_nil ?_
  refine go_block ?_
  refine go_loop (α := Nat) (fun i => i ≤ l.length ∧ idxFrom (bad1 m) (l.drop i) i = idxFrom (bad1 m) l 0) (fun i => l.length - i) (fun i => [(8, true, .int .i64 i), (7, true, .int .i64 (l.map Cmp.c).length), (0, true, .slice ac (l.map Cmp.c).length cap), (1, true, .func (.func 44) #[] #[.pointer (some ⟨b, 0, none⟩)])]) (fun _ => []) (fun _ => h) (fun i hI ih => ?_) 0 ⟨Nat.zero_le _, rfl⟩ (Sub.cons (Sub.cons (Sub.cons (Sub.cons (Sub.nil _) rfl) rfl) rfl) rfl) rfl rfl
  refine go_seq ?_
  refine go_region ?_
  refine gr rfl (r_bin (ot rfl) (ot rfl) rfl) ?_
  refine go_nil ?_
  refine go_seq ?_
  refine g_cond (ot rfl) (fun hc1 => ?_) (fun hc1 => ?_)
  ·
    refine go_skip ?_
    refine go_seq ?_
    refine go_block ?_
    refine go_seq ?_
    refine go_region ?_
    refine gr rfl (r_move (ot rfl)) ?_
    refine gr rfl (r_assign (ot rfl)) ?_
    refine go_nil ?_
    refine go_seq ?_
    have hi : i < l.length := by simpa using hc1
    have hx : (l.map Cmp.c)[i]? = some (l[i].c) := by simp [hi]
    obtain ⟨p1, q1, e1, hp1, hq1, _⟩ := row_at hcs hx
    subst e1
    refine go_region ?_
    refine gr rfl (r_move (ot rfl)) ?_
    refine gr rfl (r_move (ot rfl)) ?_
    refine gr rfl (r_move (ot rfl)) ?_
    refine gr rfl (r_ia (ot rfl) (ot rfl) (ia_of ut_24 sz_65 (by simpa using hi) hp1)) ?_
    refine gr rfl (r_load (ot rfl) (v := .agg #[.int .i64 l[i].kind, .string l[i].key, .string l[i].val, .int .i64 l[i].rev]) (lo_e (fun hf k => ld_of ag_65 sz_65 (k.cellsAt hq1)))) ?_
    refine g_callp EE_fr rfl (ot rfl) (os1 (ot rfl) os0) hb_44 (fun q => by cases q) (fun hf kn w => by exact s44 w (hm.ext kn) bm (kn_cells kn hb) l[i]) ?_
    refine go_nil ?_
    refine g_cond (ot rfl) (fun hc2 => ?_) (fun hc2 => ?_)
    ·
      refine go_seq ?_
      refine go_region ?_
      refine gr rfl (r_move (ot rfl)) ?_
      refine gr rfl (r_assign (ot rfl)) ?_
      refine go_nil ?_
      refine g_ret (rst rfl rs0) (fun h1 hf hs => ⟨hs.hext, ?_⟩)
      rw [← hI.2, List.drop_eq_getElem_cons hi, idx_cons, if_pos (by simpa using hc2)]; rfl
    ·
      refine go_skip ?_
      refine go_endb ?_
      refine go_region ?_
      refine gr rfl (r_bin (ot rfl) (oc rfl) rfl) ?_
      refine gr rfl (r_move (ot rfl)) ?_
      refine go_nil ?_
      refine Goes.weak (ih (i + 1) ⟨hi, by rw [← hI.2, List.drop_eq_getElem_cons hi, idx_cons, if_neg (by simpa using hc2)]⟩ (by omega)) (Sub.cons (Sub.cons (Sub.cons (Sub.cons (Sub.nil _) rfl) rfl) rfl) ?_)
      show some (true, Value.int .i64 (IntKind.wrap .i64 ((i : Int) + 1))) = _
      rw [wrap_id (by omega) (by omega)]; rfl
  ·
    refine go_exit rfl ?_
    refine go_seq ?_
    refine go_region ?_
    refine gr rfl (r_assign (oc rfl)) ?_
    refine go_nil ?_
    refine g_ret (rst rfl rs0) (fun h1 hf hs => ⟨hs.hext, ?_⟩)
    have hi : l.length ≤ i := by simpa using hc1
    rw [← hI.2, List.drop_eq_nil_of_le hi]; rfl

theorem s43 {h : Heap} (hw : Wf h) {vm vc : Value} {m : List KV} (hm : SLv h 3 vm (m.map KV.c)) (bm : m.length < 4611686018427387904) {b : Nat} (hb : h.get b = some (.cells [vm] 28)) {l : List Cmp} (hc : SLv h 4 vc (l.map Cmp.c)) (bl : l.length < 4611686018427387904) :
    Ev EE 43 [vc, .func (.func 44) #[] #[.pointer (some ⟨b, 0, none⟩)]] h (fun v _ => v = .bool (l.any (bad1 m))) := by
  refine ev_of hw rfl at_43 rfl rfl ?_
  refine go_seq ?_
  refine go_region ?_
  refine gr rfl (r_assign (oc rfl)) ?_
  refine go_nil ?_
  refine go_seq ?_
  refine go_region ?_
  refine gr rfl (r_move (ot rfl)) ?_
  refine gr rfl (r_move (ot rfl)) ?_
  refine g_callp EE_fr rfl of (os1 (ot rfl) (os1 (ot rfl) os0)) hb_65 (fun q => by cases q) (fun hf kn w => by exact s65 w (hm.ext kn) bm (kn_cells kn hb) (hc.ext kn) bl) ?_
  refine gr rfl (r_bin (ot rfl) (oc rfl) rfl) ?_
  refine gr rfl (r_assign (ot rfl)) ?_
  refine go_nil ?_
  refine g_ret (rst rfl rs0) (fun h1 hf hs => ⟨hs.hext, ?_⟩)
  rw [← idx_any (bad1 m) l 0]; rfl

theorem s27 {h : Heap} (hw : Wf h) {vm vc : Value} {m : List KV} (hm : SLv h 3 vm (m.map KV.c)) (bm : m.length < 4611686018427387904) {l : List Cmp} (hc : SLv h 4 vc (l.map Cmp.c)) (bl : l.length < 4611686018427387904) :
    Ev EE 27 [vm, vc] h (fun v _ => v = .bool (holds m l)) := by
  obtain ⟨am, cap, rfl, hm1⟩ := id hm
  refine ev_of hw rfl at_27 rfl rfl ?_
  refine go_seq ?_
  refine go_region ?_
  refine g_box rfl (ot rfl) rfl ?_; intro b2
  refine gr rfl (r_assign (oc rfl)) ?_
  refine go_nil ?_
  refine go_seq ?_
  refine go_pub 0 rfl (fun g1 eg wg hg => ?_)
  refine go_region ?_
  refine gr rfl (r_move (ot rfl)) ?_
  refine gr rfl (r_func os0 (os1 (ot rfl) os0)) ?_
  refine g_callp EE_fr rfl of (os1 (ot rfl) (os1 (ot rfl) os0)) hb_43 (fun q => by cases q) (fun hf kn w => by exact s43 w ((hm.ext eg.kn).ext kn) bm (kn_cells kn hg) ((hc.ext eg.kn).ext kn) bl) ?_
  refine gr rfl (r_un (ot rfl) rfl) ?_
  refine gr rfl (r_assign (ot rfl)) ?_
  refine go_nil ?_
  refine g_ret (rst rfl rs0) (fun h1 hf hs => ⟨eg.trans hs.hext, ?_⟩)
  rfl
end Go.Proofs.Ytadfhabapgipbaa.V
