/- The walk of TxnCompares.
   Conditions: what each theorem says of its arguments and of the heap. -/
import Derived.Test.YtadfhabapgipbaaRi
import Derived.Test.YtadfhabapgipbaaV26
namespace Go.Proofs.Ytadfhabapgipbaa.V
open Go
set_option maxRecDepth 100000
set_option maxHeartbeats 4000000
set_option linter.unusedVariables false
set_option linter.unusedSimpArgs false
theorem s7 {h : Heap} (hw : Wf h) {vm : Value} {m : List KV} (hm : SLv h 3 vm (m.map KV.c)) {al : Option Addr} {cl : Nat} {l : List Cmp} (hl : SL h 4 al (l.map Cmp.c)) (hcl : l.length ≤ cl) (hsp : ∀ a, al = some a → a.spot ≠ some 0) (k : ByteArray) :
    Ev EE 7 [vm, .slice al (l.map Cmp.c).length cl, .string k] h (fun v _ => v = .bool true) := by
  obtain ⟨am, cm, rfl, hm0⟩ := id hm
  have hlv : SLv h 4 (.slice al (l.map Cmp.c).length cl) (l.map Cmp.c) := ⟨_, _, rfl, hl⟩
  refine ev_of hw rfl at_7 rfl rfl ?_
  refine go_seq ?_
  refine go_region ?_
  refine gr rfl (r_assign (oc rfl)) ?_
  refine go_nil ?_
  refine go_seq ?_
  refine go_region ?_
  refine g_callp EE_fr rfl of os0 hb_22 (fun q => by cases q) (fun hf kn w => by exact known_ev (E := E1) (ks := [(11, .bool true), (22, .bool true)]) rfl hf w) ?_
  refine gr rfl (r_assign (ot rfl)) ?_
  refine go_nil ?_
  refine go_seq ?_
  refine go_seq ?_
  refine go_region ?_
  refine gr rfl (r_move (ot rfl)) ?_
  refine gr rfl (r_len rfl (os1 (ot rfl) os0) (fun _ _ => ln_24)) ?_
  refine gr rfl (r_bin (ot rfl) (oc rfl) rfl) ?_
  refine gr rfl (r_move (ot rfl)) ?_
  refine grf rfl rfl rfl rfl (r_move (ot rfl)) ?_
  refine grf rfl rfl rfl rfl (r_len rfl (os1 (og rfl id) os0) (fun _ _ => ln_28)) ?_
  refine grf rfl rfl rfl rfl (r_bin (og rfl id) (oc rfl) rfl) ?_
  refine gr rfl (r_pickb (ot rfl) (oc rfl) (og rfl id)) ?_
  refine gr rfl (r_move (ot rfl)) ?_
  refine grf rfl rfl rfl rfl (r_move (ot rfl)) ?_
  refine g_callf EE_fr rfl rfl rfl rfl of (os1 (og rfl id) os0) hb_13 (fun q => by cases q) (fun hf kn w hg => by exact s13 w (hm.ext kn) (by have := hg; simp at this; omega)) ?_
  refine grf rfl rfl rfl rfl (r_un (og rfl id) rfl) ?_
  refine gr rfl (r_pickb (ot rfl) (oc rfl) (og rfl id)) ?_
  refine go_nil ?_
  refine g_cond (ot rfl) (fun hc1 => ?_) (fun hc1 => ?_)
  ·
    refine go_seq ?_
    refine go_region ?_
    refine gr rfl (r_move (ot rfl)) ?_
    refine gr rfl (r_assign (ot rfl)) ?_
    refine go_nil ?_
    refine g_ret (rst rfl rs0) (fun h1 hf hs => ⟨(by first | exact hs.hext | exact (e2.trans e3).trans hs.hext), ?_⟩)
    rfl
  ·
    refine go_skip ?_
    refine go_seq ?_
    have hbs := hc1
    simp at hbs
    have bm : m.length < 4611686018427387904 := by omega
    have bl : l.length < 4611686018427387904 := by omega
    refine go_region ?_
    refine gr rfl (r_assign (oc rfl)) ?_
    refine go_nil ?_
    refine go_seq ?_
    refine go_seq ?_
    refine go_region ?_
    refine gr rfl (r_assign (oc rfl)) ?_
    refine go_nil ?_
    refine go_block ?_
    refine go_loop (α := Nat) (fun i => i ≤ l.length) (fun i => l.length - i) (fun i => [(9, true, .int .i64 i), (8, true, .bool ((l.take i).all (fun c => holds m [c]))), (1, true, .slice al (l.map Cmp.c).length cl), (0, true, .slice am (m.map KV.c).length cm), (2, true, .string k), (7, true, .bool true)]) (fun _ => []) (fun _ => h) (fun i hI ih => ?_) 0 (Nat.zero_le _) (Sub.cons (Sub.cons (Sub.cons (Sub.cons (Sub.cons (Sub.cons (Sub.nil _) rfl) rfl) rfl) rfl) rfl) rfl) rfl rfl
    refine go_seq ?_
    refine go_seq ?_
    refine go_region ?_
    refine gr rfl (r_move (ot rfl)) ?_
    refine gr rfl (r_move (ot rfl)) ?_
    refine gr rfl (r_len rfl (os1 (ot rfl) os0) (fun _ _ => ln_24)) ?_
    refine gr rfl (r_bin (ot rfl) (ot rfl) rfl) ?_
    refine go_nil ?_
    refine g_cond (ot rfl) (fun hc2 => ?_) (fun hc2 => ?_)
    ·
      refine go_skip ?_
      refine go_seq ?_
      refine go_block ?_
      have hi : i < l.length := by simpa using hc2
      have hx : (l.map Cmp.c)[i]? = some (l[i].c) := by simp [hi]
      obtain ⟨p1, q1, e1, hp1, hq1, _⟩ := row_at hl hx
      subst e1
      obtain ⟨a2, hsl, hone, _⟩ := one_of (E := EE) hl ut_24 sz_65 hx rfl (by simpa using hcl) (hsp _ rfl)
      refine go_region ?_
      refine gr rfl (r_move (ot rfl)) ?_
      refine gr rfl (r_move (ot rfl)) ?_
      refine grt rfl rfl rfl rfl (r_move (ot rfl)) ?_
      refine grt rfl rfl rfl rfl (r_move (ot rfl)) ?_
      refine grt rfl rfl rfl rfl (r_move (ot rfl)) ?_
      refine grt rfl rfl rfl rfl (r_move (ot rfl)) ?_
      refine grt rfl rfl rfl rfl (r_bin (og rfl id) (oc rfl) rfl) ?_
      refine go_cast (.int .i64 ((i + 1 : Nat) : Int)) (by rw [wrap_id (by omega) (by omega)]; rfl) ?_
      refine grt rfl rfl rfl rfl (v := .slice (some a2) 1 (cl - i)) (r_slice (og rfl id) (oo (og rfl id)) (oo (og rfl id)) on (fun hf kn => hsl hf kn)) ?_
      refine g_callt EE_fr rfl rfl rfl rfl of (os1 (og rfl id) (os1 (og rfl id) os0)) hb_27 (fun q => by cases q) (fun hf kn w hg => by exact s27 w (hm.ext kn) bm (l := [l[i]]) (hone.ext kn) (by simp)) ?_
      refine gr rfl (r_pickb (ot rfl) (og rfl id) (oc rfl)) ?_
      refine gr rfl (r_assign (ot rfl)) ?_
      refine go_nil ?_
      refine go_endb ?_
      refine go_region ?_
      refine gr rfl (r_move (ot rfl)) ?_
      refine gr rfl (r_bin (ot rfl) (oc rfl) rfl) ?_
      refine gr rfl (r_assign (ot rfl)) ?_
      refine go_nil ?_
      refine Goes.weak (ih (i + 1) hi (by omega)) (Sub.cons (Sub.cons (Sub.cons (Sub.cons (Sub.cons (Sub.cons (Sub.nil _) rfl) rfl) rfl) rfl) ?_) ?_)
      · rw [all_take hi]; rfl
      · show some (true, Value.int .i64 (IntKind.wrap .i64 ((i : Int) + 1))) = _
        rw [wrap_id (by omega) (by omega)]; rfl
    ·
      refine go_exit rfl ?_
      refine go_seq ?_
      refine go_region ?_
      refine gr rfl (r_move (ot rfl)) ?_
      refine gr rfl (r_move (ot rfl)) ?_
      refine g_callp EE_fr rfl of (os1 (ot rfl) (os1 (ot rfl) os0)) hb_24 (fun q => by cases q) (fun hf kn w => by exact s24 w (hm.ext kn) bm k) ?_
      refine gr rfl (r_move (ot rfl)) ?_
      refine gr rfl (r_extract (ot rfl) rfl) ?_
      refine gr rfl (r_extract (ot rfl) rfl) ?_
      refine g_alloc rfl zo_52 rfl ?_; intro b10
      refine g_store 0 (ot rfl) (ot rfl) rfl sz_52 rfl rfl rfl rfl rfl ?_
      refine gr rfl (r_assign (ot rfl)) ?_
      refine go_nil ?_
      refine go_seq ?_
      refine go_region ?_
      refine gr rfl (r_move (ot rfl)) ?_
      refine gr rfl (r_move (ot rfl)) ?_
      refine gr rfl (r_build (op1 (oc rfl) (op1 (ot rfl) op0)) rfl) ?_
      refine g_bslice (cs := ([(⟨2, k, ByteArray.empty, 0⟩ : Cmp)].map Cmp.c).flatten) rfl (op1 (ot rfl) op0) ut_24 sz_65 zo_65 rfl rfl ?_; intro b54
      refine go_pub 0 rfl (fun g2 e2 w2 hb2 => ?_)
      refine g_callp EE_fr rfl of (os1 (ot rfl) (os1 (ot rfl) os0)) hb_27 (fun q => by cases q) (fun hf kn w => by exact s27 w ((hm.ext e2.kn).ext kn) bm (l := [⟨2, k, ByteArray.empty, 0⟩]) ((SLv.of_block hb2 (map_len (c := Cmp.c) (k := 4) (fun _ => rfl))).ext kn) (by simp)) ?_
      refine gr rfl (r_assign (ot rfl)) ?_
      refine go_nil ?_
      refine go_seq ?_
      refine go_region ?_
      refine gr rfl (r_move (ot rfl)) ?_
      refine gr rfl (r_move (ot rfl)) ?_
      refine gr rfl (r_fa (ot rfl) (fa_52_2 _ _)) ?_
      refine gr rfl (r_load (ot rfl) (lo_s 0 rfl ag_3 rfl)) ?_
      refine gr rfl (r_build (op1 (oc rfl) (op1 (ot rfl) (op1 (ot rfl) op0))) rfl) ?_
      refine gr rfl (r_move (ot rfl)) ?_
      refine gr rfl (r_fa (ot rfl) (fa_52_1 _ _)) ?_
      refine gr rfl (r_load (ot rfl) (lo_s 0 rfl ag_9 rfl)) ?_
      refine gr rfl (r_build (op1 (oc rfl) (op1 (ot rfl) (op1 (ot rfl) op0))) rfl) ?_
      refine g_bslice (cs := ([(⟨2, k, ByteArray.empty, (kvOr (getK m k)).rev⟩ : Cmp), ⟨1, k, (kvOr (getK m k)).val, 0⟩].map Cmp.c).flatten) rfl (op1 (ot rfl) (op1 (ot rfl) op0)) ut_24 sz_65 zo_65 rfl rfl ?_; intro b65
      refine go_pub 0 rfl (fun g3 e3 w3 hb3 => ?_)
      refine g_callp EE_fr rfl of (os1 (ot rfl) (os1 (ot rfl) os0)) hb_27 (fun q => by cases q) (fun hf kn w => by exact s27 w (((hm.ext e2.kn).ext e3.kn).ext kn) bm (l := [⟨2, k, ByteArray.empty, (kvOr (getK m k)).rev⟩, ⟨1, k, (kvOr (getK m k)).val, 0⟩]) ((SLv.of_block hb3 (map_len (c := Cmp.c) (k := 4) (fun _ => rfl))).ext kn) (by simp)) ?_
      refine gr rfl (r_assign (ot rfl)) ?_
      refine go_nil ?_
      refine go_seq ?_
      refine go_region ?_
      refine gr rfl (r_move (ot rfl)) ?_
      refine gr rfl (r_move (ot rfl)) ?_
      refine grt rfl rfl rfl rfl (r_move (ot rfl)) ?_
      refine grt rfl rfl rfl rfl (r_move (ot rfl)) ?_
      refine g_callt EE_fr rfl rfl rfl rfl of (os1 (og rfl id) (os1 (og rfl id) os0)) hb_27 (fun q => by cases q) (fun hf kn w hg => by exact s27 w (((hm.ext e2.kn).ext e3.kn).ext kn) bm (((hlv.ext e2.kn).ext e3.kn).ext kn) bl) ?_
      refine grt rfl rfl rfl rfl (r_move (ot rfl)) ?_
      refine grt rfl rfl rfl rfl (r_bin (og rfl id) (og rfl id) be_4) ?_
      refine gr rfl (r_pickb (ot rfl) (og rfl id) (oc rfl)) ?_
      refine gr rfl (r_move (ot rfl)) ?_
      refine grt rfl rfl rfl rfl (r_move (ot rfl)) ?_
      refine g_callt EE_fr rfl rfl rfl rfl of (os1 (og rfl id) (os1 (oc rfl) os0)) hb_27 (fun q => by cases q) (fun hf kn w hg => by exact s27 w (((hm.ext e2.kn).ext e3.kn).ext kn) bm (l := []) (SLv.nil _ _ _ _) (by simp)) ?_
      refine gr rfl (r_pickb (ot rfl) (og rfl id) (oc rfl)) ?_
      refine gr rfl (r_move (ot rfl)) ?_
      refine grt rfl rfl rfl rfl (r_move (ot rfl)) ?_
      refine grt rfl rfl rfl rfl (r_move (ot rfl)) ?_
      refine grt rfl rfl rfl rfl (r_un (og rfl id) rfl) ?_
      refine grt rfl rfl rfl rfl (r_bin (og rfl id) (og rfl id) be_4) ?_
      refine gr rfl (r_pickb (ot rfl) (og rfl id) (oc rfl)) ?_
      refine gr rfl (r_move (ot rfl)) ?_
      refine grt rfl rfl rfl rfl (r_move (ot rfl)) ?_
      refine grt rfl rfl rfl rfl (r_un (og rfl id) rfl) ?_
      refine grt rfl rfl rfl rfl (r_move (og rfl id)) ?_
      refine grf' rfl rfl rfl rfl (r_fa (ot rfl) (fa_52_2 _ _)) ?_
      refine grf' rfl rfl rfl rfl (r_load (og rfl id) (lo_s 0 rfl ag_3 rfl)) ?_
      refine grf' rfl rfl rfl rfl (r_bin (og rfl id) (oc rfl) rfl) ?_
      refine grt rfl rfl rfl rfl (r_pickb (og rfl id) (oc rfl) (og rfl id)) ?_
      refine grt rfl rfl rfl rfl (r_move (og rfl id)) ?_
      refine grf' rfl rfl rfl rfl (r_move (ot rfl)) ?_
      refine grt rfl rfl rfl rfl (r_pickb (og rfl id) (oc rfl) (og rfl id)) ?_
      refine gr rfl (r_pickb (ot rfl) (og rfl id) (oc rfl)) ?_
      refine gr rfl (r_assign (ot rfl)) ?_
      refine go_nil ?_
      refine g_ret (rst rfl rs0) (fun h1 hf hs => ⟨(by first | exact hs.hext | exact (e2.trans e3).trans hs.hext), ?_⟩)
      have hi : l.length ≤ i := by simpa using hc2
      rw [List.take_of_length_le hi, holds_gone, holds_all m l, getK_find (sorted_of (by simpa using hbs.2))]
      clear hs
      simp only [packV]
      cases hf2 : findK m k with
      | none => simp [holds, kvOr]
      | some x =>
        by_cases hr : x.rev = 0
        · rw [show (kvOr (some x)).rev = 0 from hr, show holds m [] = true from rfl]; simp
        · rw [show (kvOr (some x)).rev = x.rev from rfl, show (kvOr (some x)).val = x.val from rfl, holds_here hf2 hr, show holds m [] = true from rfl]; simp
end Go.Proofs.Ytadfhabapgipbaa.V
