/- The walks of what finds a key.
   Conditions: what each theorem says of its arguments and of the heap. -/
import Derived.Test.YtadfhabapgipbaaTa
namespace Go.Proofs.Ytadfhabapgipbaa.V
open Go
set_option maxRecDepth 100000
set_option maxHeartbeats 4000000
set_option linter.unusedVariables false
set_option linter.unusedSimpArgs false
theorem s80 {h : Heap} (hw : Wf h) (x : ByteArray) : Ev EE 80 [.string x] h (fun v _ => v = .bool false) := by
  refine ev_of hw rfl at_80 rfl rfl ?_
  refine go_seq ?_
  refine go_region ?_
  refine gr rfl (r_assign (oc rfl)) ?_
  refine go_nil ?_
  refine go_seq ?_
  refine go_region ?_
  refine gr rfl (r_move (ot rfl)) ?_
  refine gr rfl (r_move (ot rfl)) ?_
  refine gr rfl (r_bin (ot rfl) (ot rfl) rfl) ?_
  refine gr rfl (r_assign (ot rfl)) ?_
  refine go_nil ?_
  refine g_ret (rst rfl rs0) (fun h1 hf hs => ⟨hs.hext, ?_⟩)
  simp [packV]

theorem s64 {h : Heap} (hw : Wf h) (x y : ByteArray) : Ev EE 64 [.string x, .string y] h (fun v _ => v = .int .i64 (cmpS x y)) := by
  refine ev_of hw rfl at_64 rfl rfl ?_
  refine go_seq ?_
  refine go_region ?_
  refine gr rfl (r_assign (oc rfl)) ?_
  refine go_nil ?_
  refine go_seq ?_
  refine go_region ?_
  refine gr rfl (r_move (ot rfl)) ?_
  refine g_callp EE_fr rfl of (os1 (ot rfl) os0) hb_80 (fun q => by cases q) (fun hf kn w => by exact s80 w x) ?_
  refine gr rfl (r_assign (ot rfl)) ?_
  refine go_nil ?_
  refine go_seq ?_
  refine go_region ?_
  refine gr rfl (r_move (ot rfl)) ?_
  refine g_callp EE_fr rfl of (os1 (ot rfl) os0) hb_80 (fun q => by cases q) (fun hf kn w => by exact s80 w y) ?_
  refine gr rfl (r_assign (ot rfl)) ?_
  refine go_nil ?_
  refine go_seq ?_
  refine go_seq ?_
  refine go_region ?_
  refine gr rfl (r_move (ot rfl)) ?_
  refine go_nil ?_
  refine g_cond (ot rfl) (fun hc1 => ?_) (fun hc1 => ?_)
  ·
    refine go_seq ?_
    refine go_seq ?_
    refine go_region ?_
    refine gr rfl (r_move (ot rfl)) ?_
    refine go_nil ?_
    refine g_cond (ot rfl) (fun hc2 => ?_) (fun hc2 => ?_)
    ·
      refine go_seq ?_
      refine go_region ?_
      refine gr rfl (r_assign (oc rfl)) ?_
      refine go_nil ?_
      refine g_ret (rst rfl rs0) (fun h1 hf hs => ⟨hs.hext, ?_⟩)
      first
       | contradiction
       | (simp_all [packV, cmpS, lessB, eqB])
    ·
      refine go_skip ?_
      refine go_seq ?_
      refine go_region ?_
      refine gr rfl (r_assign (oc rfl)) ?_
      refine go_nil ?_
      refine g_ret (rst rfl rs0) (fun h1 hf hs => ⟨hs.hext, ?_⟩)
      first
       | contradiction
       | (simp_all [packV, cmpS, lessB, eqB])
  ·
    refine go_skip ?_
    refine go_seq ?_
    refine go_seq ?_
    refine go_region ?_
    refine gr rfl (r_move (ot rfl)) ?_
    refine go_nil ?_
    refine g_cond (ot rfl) (fun hc2 => ?_) (fun hc2 => ?_)
    ·
      refine go_seq ?_
      refine go_region ?_
      refine gr rfl (r_assign (oc rfl)) ?_
      refine go_nil ?_
      refine g_ret (rst rfl rs0) (fun h1 hf hs => ⟨hs.hext, ?_⟩)
      first
       | contradiction
       | (simp_all [packV, cmpS, lessB, eqB])
    ·
      refine go_skip ?_
      refine go_seq ?_
      refine go_seq ?_
      refine go_region ?_
      refine gr rfl (r_move (ot rfl)) ?_
      refine gr rfl (r_move (ot rfl)) ?_
      refine gr rfl (r_bin (ot rfl) (ot rfl) rfl) ?_
      refine go_nil ?_
      refine g_cond (ot rfl) (fun hc3 => ?_) (fun hc3 => ?_)
      ·
        refine go_seq ?_
        refine go_region ?_
        refine gr rfl (r_assign (oc rfl)) ?_
        refine go_nil ?_
        refine g_ret (rst rfl rs0) (fun h1 hf hs => ⟨hs.hext, ?_⟩)
        first
         | contradiction
         | (simp_all [packV, cmpS, lessB, eqB])
      ·
        refine go_skip ?_
        refine go_seq ?_
        refine go_seq ?_
        refine go_region ?_
        refine gr rfl (r_move (ot rfl)) ?_
        refine gr rfl (r_move (ot rfl)) ?_
        refine gr rfl (r_bin (ot rfl) (ot rfl) rfl) ?_
        refine go_nil ?_
        refine g_cond (ot rfl) (fun hc4 => ?_) (fun hc4 => ?_)
        ·
          refine go_seq ?_
          refine go_region ?_
          refine gr rfl (r_assign (oc rfl)) ?_
          refine go_nil ?_
          refine g_ret (rst rfl rs0) (fun h1 hf hs => ⟨hs.hext, ?_⟩)
          first
           | contradiction
           | (simp_all [packV, cmpS, lessB, eqB])
        ·
          refine go_skip ?_
          refine go_seq ?_
          refine go_region ?_
          refine gr rfl (r_assign (oc rfl)) ?_
          refine go_nil ?_
          refine g_ret (rst rfl rs0) (fun h1 hf hs => ⟨hs.hext, ?_⟩)
          first
           | contradiction
           | (simp_all [packV, cmpS, lessB, eqB])

theorem s63 {h : Heap} (hw : Wf h) (x : KV) (y : ByteArray) : Ev EE 63 [.agg #[.string x.key, .string x.val, .int .i64 x.rev], .string y] h (fun v _ => v = .int .i64 (cmpS x.key y)) := by
  refine ev_of hw rfl at_63 rfl rfl ?_
  refine go_seq ?_
  refine go_region ?_
  refine g_box rfl (ot rfl) rfl ?_; intro b2
  refine gr rfl (r_assign (oc rfl)) ?_
  refine go_nil ?_
  refine go_seq ?_
  refine go_region ?_
  refine gr rfl (r_fa (ot rfl) (fa_52_0 _ _)) ?_
  refine gr rfl (r_load (ot rfl) (lo_s 0 rfl ag_9 rfl)) ?_
  refine gr rfl (r_move (ot rfl)) ?_
  refine g_callp EE_fr rfl of (os1 (ot rfl) (os1 (ot rfl) os0)) hb_64 (fun q => by cases q) (fun hf kn w => by exact s64 w x.key y) ?_
  refine gr rfl (r_assign (ot rfl)) ?_
  refine go_nil ?_
  refine g_ret (rst rfl rs0) (fun h1 hf hs => ⟨hs.hext, ?_⟩)
  rfl

theorem s62 {h : Heap} (hw : Wf h) {vm : Value} {m : List KV} (hm : SLv h 3 vm (m.map KV.c)) (bm : m.length < 4611686018427387904) (k : ByteArray) :
    Ev EE 62 [vm, .string k, .func (.func 63) #[] #[]] h (fun v _ => v = .tuple #[.int .i64 (findI m k), .bool (findK m k).isSome]) := by
  have hm0 := hm
  obtain ⟨am, cap, rfl, hm⟩ := hm
  refine ev_of hw rfl at_62 rfl rfl ?_
  refine go_seq ?_
  refine go_region ?_
  refine gr rfl (r_assign (oc rfl)) ?_
  refine gr rfl (r_assign (oc rfl)) ?_
  refine go_nil ?_
  refine go_seq ?_
  refine go_region ?_
  refine gr rfl (r_move (ot rfl)) ?_
  refine gr rfl (r_len rfl (os1 (ot rfl) os0) (fun _ _ => ln_28)) ?_
  refine gr rfl (r_assign (ot rfl)) ?_
  refine go_nil ?_
  refine go_seq ?_
  refine go_region ?_
  refine gr rfl (r_move (ot rfl)) ?_
  refine gr rfl (r_assign (oc rfl)) ?_
  refine gr rfl (r_assign (ot rfl)) ?_
  refine go_nil ?_
  refine go_seq ?_
  refine go_block ?_
  have hI0 : (0 ≤ m.length ∧ m.length ≤ m.length ∧ bs (keyLt m k) 0 m.length = findI m k) := ⟨Nat.zero_le _, Nat.le_refl _, rfl⟩
  refine go_loop (α := Nat × Nat) (fun a => a.1 ≤ a.2 ∧ a.2 ≤ m.length ∧ bs (keyLt m k) a.1 a.2 = findI m k) (fun a => a.2 - a.1) (fun a => [(9, true, .int .i64 a.1), (10, true, .int .i64 a.2), (8, true, .int .i64 (m.map KV.c).length), (0, true, .slice am (m.map KV.c).length cap), (1, true, .string k), (2, true, .func (.func 63) #[] #[])]) (fun _ => []) (fun _ => h) (fun a hI ih => ?_) (0, m.length) hI0 ((Sub.cons (Sub.cons (Sub.cons (Sub.cons (Sub.cons (Sub.cons (Sub.nil _) rfl) rfl) rfl) rfl) (by rw [show (m.map KV.c).length = m.length from List.length_map _]; rfl)) rfl)) rfl rfl
  obtain ⟨i, j⟩ := a
  dsimp only at hI ih ⊢
  refine go_seq ?_
  refine go_seq ?_
  refine go_region ?_
  refine gr rfl (r_move (ot rfl)) ?_
  refine gr rfl (r_move (ot rfl)) ?_
  refine gr rfl (r_bin (ot rfl) (ot rfl) rfl) ?_
  refine go_nil ?_
  refine g_cond (ot rfl) (fun hc1 => ?_) (fun hc1 => ?_)
  ·
    refine go_skip ?_
    refine go_block ?_
    refine go_seq ?_
    have hij : i < j := by simpa using hc1
    have hi : (i + j) / 2 < m.length := by omega
    refine go_region ?_
    refine gr rfl (r_move (ot rfl)) ?_
    refine gr rfl (r_move (ot rfl)) ?_
    refine gr rfl (r_bin (ot rfl) (ot rfl) rfl) ?_
    refine gr rfl (r_conv (ot rfl) rfl) ?_
    refine gr rfl (r_bin (ot rfl) (oc rfl) rfl) ?_
    refine gr rfl (r_conv (ot rfl) rfl) ?_
    refine gr rfl (r_assign (ot rfl)) ?_
    refine go_cast (.int .i64 (((i + j) / 2 : Nat) : Int)) (by rw [mid_eq (by omega)]) ?_
    refine go_nil ?_
    refine go_seq ?_
    have hx_hi : (m.map KV.c)[(i + j) / 2]? = some (m[(i + j) / 2].c) := by simp [hi]
    obtain ⟨p_hi, q_hi, e_hi, hp_hi, hq_hi, _⟩ := row_at hm hx_hi
    subst e_hi
    refine go_region ?_
    refine gr rfl (r_move (ot rfl)) ?_
    refine gr rfl (r_move (ot rfl)) ?_
    refine gr rfl (r_move (ot rfl)) ?_
    refine gr rfl (r_ia (ot rfl) (ot rfl) (ia_of ut_28 sz_52 (by simpa using hi) hp_hi)) ?_
    refine gr rfl (r_load (ot rfl) (v := .agg #[.string m[(i + j) / 2].key, .string m[(i + j) / 2].val, .int .i64 m[(i + j) / 2].rev]) (lo_e (fun hf k => ld_of ag_52 sz_52 (k.cellsAt hq_hi)))) ?_
    refine gr rfl (r_move (ot rfl)) ?_
    refine g_callp EE_fr rfl (ot rfl) (os1 (ot rfl) (os1 (ot rfl) os0)) hb_63 (fun q => by cases q) (fun hf kn w => by exact s63 w m[(i + j) / 2] k) ?_
    refine gr rfl (r_bin (ot rfl) (oc rfl) rfl) ?_
    refine go_nil ?_
    refine g_cond (ot rfl) (fun hc2 => ?_) (fun hc2 => ?_)
    ·
      refine go_region ?_
      refine gr rfl (r_move (ot rfl)) ?_
      refine gr rfl (r_bin (ot rfl) (oc rfl) rfl) ?_
      refine gr rfl (r_assign (ot rfl)) ?_
      refine go_nil ?_
      refine go_endb ?_
      first
       | (refine Goes.weak (ih ((i + j) / 2 + 1, j) ⟨by omega, hI.2.1, by rw [← hI.2.2, bs_lt hij, if_pos (by simp only [keyLt, List.getElem?_eq_getElem hi]; simpa using hc2)]⟩ (by dsimp only; omega)) (Sub.cons (Sub.cons (Sub.cons (Sub.cons (Sub.cons (Sub.cons (Sub.nil _) rfl) rfl) rfl) rfl) rfl) ?_); show some (true, Value.int .i64 (IntKind.wrap .i64 ((((i + j) / 2 : Nat) : Int) + 1))) = _; rw [wrap_id (by omega) (by omega)]; rfl)
       | (refine Goes.weak (ih (i, (i + j) / 2) ⟨by dsimp only; omega, by dsimp only; omega, by rw [← hI.2.2, bs_lt hij, if_neg (by simp only [keyLt, List.getElem?_eq_getElem hi]; simpa using hc2)]⟩ (by dsimp only; omega)) (Sub.cons (Sub.cons (Sub.cons (Sub.cons (Sub.cons (Sub.cons (Sub.nil _) rfl) rfl) rfl) rfl) rfl) rfl))
    ·
      refine go_region ?_
      refine gr rfl (r_move (ot rfl)) ?_
      refine gr rfl (r_assign (ot rfl)) ?_
      refine go_nil ?_
      refine go_endb ?_
      first
       | (refine Goes.weak (ih ((i + j) / 2 + 1, j) ⟨by omega, hI.2.1, by rw [← hI.2.2, bs_lt hij, if_pos (by simp only [keyLt, List.getElem?_eq_getElem hi]; simpa using hc2)]⟩ (by dsimp only; omega)) (Sub.cons (Sub.cons (Sub.cons (Sub.cons (Sub.cons (Sub.cons (Sub.nil _) rfl) rfl) rfl) rfl) rfl) ?_); show some (true, Value.int .i64 (IntKind.wrap .i64 ((((i + j) / 2 : Nat) : Int) + 1))) = _; rw [wrap_id (by omega) (by omega)]; rfl)
       | (refine Goes.weak (ih (i, (i + j) / 2) ⟨by dsimp only; omega, by dsimp only; omega, by rw [← hI.2.2, bs_lt hij, if_neg (by simp only [keyLt, List.getElem?_eq_getElem hi]; simpa using hc2)]⟩ (by dsimp only; omega)) (Sub.cons (Sub.cons (Sub.cons (Sub.cons (Sub.cons (Sub.cons (Sub.nil _) rfl) rfl) rfl) rfl) rfl) rfl))
  ·
    refine go_exit rfl ?_
    refine go_seq ?_
    have hij : i = j := by have := hc1; simp at this; omega
    have hfi : i = findI m k := by rw [← hI.2.2, bs_ge (by omega)]
    rcases Nat.lt_or_ge i m.length with hi | hi
    ·
      have hx_hi : (m.map KV.c)[i]? = some (m[i].c) := by simp [hi]
      obtain ⟨p_hi, q_hi, e_hi, hp_hi, hq_hi, _⟩ := row_at hm hx_hi
      subst e_hi
      refine go_region ?_
      refine gr rfl (r_move (ot rfl)) ?_
      refine gr rfl (r_move (ot rfl)) ?_
      refine gr rfl (r_move (ot rfl)) ?_
      refine gr rfl (r_bin (ot rfl) (ot rfl) rfl) ?_
      refine gr rfl (r_move (ot rfl)) ?_
      refine grt rfl rfl rfl rfl (r_move (ot rfl)) ?_
      refine grt rfl rfl rfl rfl (r_move (ot rfl)) ?_
      refine grt rfl rfl rfl rfl (r_move (ot rfl)) ?_
      refine grt rfl rfl rfl rfl (r_ia (og rfl id) (og rfl id) (ia_of ut_28 sz_52 (by simpa using hi) hp_hi)) ?_
      refine grt rfl rfl rfl rfl (r_load (og rfl id) (v := .agg #[.string m[i].key, .string m[i].val, .int .i64 m[i].rev]) (lo_e (fun hf k => ld_of ag_52 sz_52 (k.cellsAt hq_hi)))) ?_
      refine grt rfl rfl rfl rfl (r_move (ot rfl)) ?_
      refine g_callt EE_fr rfl rfl rfl rfl (og rfl id) (os1 (og rfl id) (os1 (og rfl id) os0)) hb_63 (fun q => by cases q) (fun hf kn w hg => by exact s63 w m[i] k) ?_
      refine grt rfl rfl rfl rfl (r_bin (og rfl id) (oc rfl) rfl) ?_
      refine gr rfl (r_pickb (ot rfl) (og rfl id) (oc rfl)) ?_
      refine gr rfl (r_assign (ot rfl)) ?_
      refine gr rfl (r_assign (ot rfl)) ?_
      refine go_nil ?_
      refine g_ret (rst rfl (rst rfl rs0)) (fun h1 hf hs => ⟨hs.hext, ?_⟩)
      have hfk : (findK m k).isSome = (cmpS m[i].key k == 0) := by unfold findK; rw [← hfi, List.getElem?_eq_getElem hi]; dsimp only; split <;> simp_all
      rw [hfk, ← hfi]
      have hd : decide ((i : Int) < ((m.map KV.c).length : Int)) = true := by simpa using hi
      simp only [packV, hd, cond_true]
    ·
      refine go_region ?_
      refine gr rfl (r_move (ot rfl)) ?_
      refine gr rfl (r_move (ot rfl)) ?_
      refine gr rfl (r_move (ot rfl)) ?_
      refine gr rfl (r_bin (ot rfl) (ot rfl) rfl) ?_
      refine gr rfl (r_move (ot rfl)) ?_
      refine grt rfl rfl rfl rfl (r_move (ot rfl)) ?_
      refine grt rfl rfl rfl rfl (r_move (ot rfl)) ?_
      refine grt rfl rfl rfl rfl (r_move (ot rfl)) ?_
      refine grt rfl rfl rfl rfl (v := .bool false) (rg (fun hg => absurd hg (by simpa using hi))) ?_
      refine grt rfl rfl rfl rfl (v := .bool false) (rg (fun hg => absurd hg (by simpa using hi))) ?_
      refine grt rfl rfl rfl rfl (r_move (ot rfl)) ?_
      refine g_callt (v := .int .i64 0) EE_fr rfl rfl rfl rfl (og rfl id) (os1 (og rfl id) (os1 (og rfl id) os0)) hb_63 (fun q => by cases q) (fun hf kn w hg => by exact absurd hg (by simpa using hi)) ?_
      refine grt rfl rfl rfl rfl (r_bin (og rfl id) (oc rfl) rfl) ?_
      refine gr rfl (r_pickb (ot rfl) (og rfl id) (oc rfl)) ?_
      refine gr rfl (r_assign (ot rfl)) ?_
      refine gr rfl (r_assign (ot rfl)) ?_
      refine go_nil ?_
      refine g_ret (rst rfl (rst rfl rs0)) (fun h1 hf hs => ⟨hs.hext, ?_⟩)
      have hfk : (findK m k).isSome = false := by unfold findK; rw [← hfi, List.getElem?_eq_none hi]; rfl
      rw [hfk, ← hfi]
      have hd : decide ((i : Int) < ((m.map KV.c).length : Int)) = false := by simpa using hi
      simp only [packV, hd, cond_false]

theorem s42 {h : Heap} (hw : Wf h) {vm : Value} {m : List KV} (hm : SLv h 3 vm (m.map KV.c)) (bm : m.length < 4611686018427387904) (k : ByteArray) :
    Ev EE 42 [vm, .string k] h (fun v _ => v = .tuple #[.agg #[.string (kvOr (findK m k)).key, .string (kvOr (findK m k)).val, .int .i64 (kvOr (findK m k)).rev], .bool (findK m k).isSome]) := by
  have hm0 := hm
  obtain ⟨am, cap, rfl, hm⟩ := hm
  refine ev_of hw rfl at_42 rfl rfl ?_
  refine go_seq ?_
  refine go_region ?_
  refine g_alloc rfl zo_52 rfl ?_; intro b4
  refine gr rfl (r_assign (oc rfl)) ?_
  refine go_nil ?_
  refine go_seq ?_
  refine go_region ?_
  refine gr rfl (r_move (ot rfl)) ?_
  refine gr rfl (r_move (ot rfl)) ?_
  refine g_callp EE_fr rfl of (os1 (ot rfl) (os1 (ot rfl) (os1 of os0))) hb_62 (fun q => by cases q) (fun hf kn w => by exact s62 w (hm0.ext kn) bm k) ?_
  refine gr rfl (r_move (ot rfl)) ?_
  refine gr rfl (r_extract (ot rfl) rfl) ?_
  refine gr rfl (r_extract (ot rfl) rfl) ?_
  refine gr rfl (r_assign (ot rfl)) ?_
  refine gr rfl (r_assign (ot rfl)) ?_
  refine go_nil ?_
  refine go_seq ?_
  refine go_seq ?_
  refine go_region ?_
  refine gr rfl (r_move (ot rfl)) ?_
  refine gr rfl (r_un (ot rfl) rfl) ?_
  refine go_nil ?_
  refine g_cond (ot rfl) (fun hc1 => ?_) (fun hc1 => ?_)
  ·
    refine go_seq ?_
    refine go_region ?_
    refine gr rfl (r_build op0 rfl) ?_
    refine g_store 0 (ot rfl) (ot rfl) rfl sz_52 rfl rfl rfl rfl rfl ?_
    refine gr rfl (r_assign (oc rfl)) ?_
    refine go_nil ?_
    refine g_ret (rsc rfl (lo_w 0 rfl ag_52 sz_52 rfl) (rst rfl rs0)) (fun h1 hf hs => ⟨hs.hext, ?_⟩)
    have hfk : findK m k = none := by simpa using hc1
    rw [hfk]; rfl
  ·
    refine go_skip ?_
    refine go_seq ?_
    obtain ⟨x, hfk⟩ : ∃ x, findK m k = some x := Option.isSome_iff_exists.mp (by simpa using hc1)
    have hi := (findK_at hfk).1
    have hil : findI m k < m.length := by rcases Nat.lt_or_ge (findI m k) m.length with q | q; exact q; rw [List.getElem?_eq_none q] at hi; cases hi
    have hx : (m.map KV.c)[findI m k]? = some x.c := by rw [List.getElem?_map, hi]; rfl
    obtain ⟨p1, q1, e1, hp1, hq1, _⟩ := row_at hm hx
    subst e1
    refine go_region ?_
    refine gr rfl (r_move (ot rfl)) ?_
    refine gr rfl (r_move (ot rfl)) ?_
    refine gr rfl (r_ia (ot rfl) (ot rfl) (ia_of ut_28 sz_52 (by simpa using hil) hp1)) ?_
    refine gr rfl (r_load (ot rfl) (v := .agg #[.string x.key, .string x.val, .int .i64 x.rev]) (lo_e (fun hf k => ld_of ag_52 sz_52 (k.cellsAt hq1)))) ?_
    refine g_store 0 (ot rfl) (ot rfl) rfl sz_52 rfl rfl rfl rfl rfl ?_
    refine gr rfl (r_assign (oc rfl)) ?_
    refine go_nil ?_
    refine g_ret (rsc rfl (lo_w 0 rfl ag_52 sz_52 rfl) (rst rfl rs0)) (fun h1 hf hs => ⟨hs.hext, ?_⟩)
    rw [hfk]; rfl
end Go.Proofs.Ytadfhabapgipbaa.V
