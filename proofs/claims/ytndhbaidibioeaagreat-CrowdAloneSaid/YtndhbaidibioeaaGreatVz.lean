/- Rows that are shut.
   No condition: these are laws of the clean machine. -/
import Derived.Test.YtndhbaidibioeaaGreatVq
namespace Go.Proofs.YtndhbaidibioeaaGreat.V
open Go
set_option linter.unusedVariables false
set_option linter.unusedSimpArgs false
section
variable {X : Cx} {st : List It} {l : L} {h0 : Heap} {segs pieces rest : List (List Blk)}
theorem gs_pack (P : List Blk → Prop) (tk : Takes pieces segs rest) (h : P pieces.flatten) (g : ∀ s, P s → Goes X st l (s :: rest).flatten h0) : Goes X st l segs.flatten h0 := by
 refine go_perm tk.perm ?_
 have := g _ h
 rwa [List.flatten_cons, ← List.flatten_append] at this
theorem gs_unz (g : Goes X st l (pieces ++ rest).flatten h0) : Goes X st l (pieces.flatten :: rest).flatten h0 := by
 rw [List.flatten_append] at g
 exact g
end
theorem nd1 {s : List Blk} {r : List (List Blk)} (c : ∀ e ∈ s, e.o ≠ .dead) (k : ∀ e ∈ r.flatten, e.o ≠ .dead) : ∀ e ∈ (s :: r : List (List Blk)).flatten, e.o ≠ .dead := by
 intro e he
 rw [List.flatten_cons] at he
 rcases List.mem_append.mp he with q | q
 ·
  exact c e q
 ·
  exact k e q
section
variable {E : Env} {nt : Nat} {res : List ResultVar} {hh h0 : Heap} {Q : Value → List (List Blk) → Heap → Prop} {st : List It} {l : L} {segs S rest : List (List Blk)} {vs : List Value}
theorem g_retO (h : RS ⟨E, nt, res, fun v h' => ∃ segs' h1 hf', HExt hh h1 ∧ Wf h1 ∧ Has segs'.flatten h1 h' hf' ∧ (∀ e ∈ segs'.flatten, e.o ≠ .dead) ∧ Q v segs' h1⟩ l segs.flatten h0 res vs) (tk : Takes S segs rest) (e : HExt hh h0) (w : Wf h0) (nd : ∀ e ∈ S.flatten, e.o ≠ .dead) (hq : Q (packV vs) S h0) :
 Goes ⟨E, nt, res, fun v h' => ∃ segs' h1 hf', HExt hh h1 ∧ Wf h1 ∧ Has segs'.flatten h1 h' hf' ∧ (∀ e ∈ segs'.flatten, e.o ≠ .dead) ∧ Q v segs' h1⟩ (.code .ret :: st) l segs.flatten h0 :=
 g_ret h fun h1 hf hs => by
  have hs2 := hs.perm tk.perm
  rw [List.flatten_append] at hs2
  obtain ⟨hf', hs3⟩ := hs2.sub (List.sublist_append_left _ _)
  exact ⟨S, h0, hf', e, w, hs3, nd, hq⟩
theorem g_endO (h : RS ⟨E, nt, res, fun v h' => ∃ segs' h1 hf', HExt hh h1 ∧ Wf h1 ∧ Has segs'.flatten h1 h' hf' ∧ (∀ e ∈ segs'.flatten, e.o ≠ .dead) ∧ Q v segs' h1⟩ l segs.flatten h0 res vs) (tk : Takes S segs rest) (e : HExt hh h0) (w : Wf h0) (nd : ∀ e ∈ S.flatten, e.o ≠ .dead) (hq : Q (packV vs) S h0) :
 Goes ⟨E, nt, res, fun v h' => ∃ segs' h1 hf', HExt hh h1 ∧ Wf h1 ∧ Has segs'.flatten h1 h' hf' ∧ (∀ e ∈ segs'.flatten, e.o ≠ .dead) ∧ Q v segs' h1⟩ [] l segs.flatten h0 :=
 g_end h fun h1 hf hs => by
  have hs2 := hs.perm tk.perm
  rw [List.flatten_append] at hs2
  obtain ⟨hf', hs3⟩ := hs2.sub (List.sublist_append_left _ _)
  exact ⟨S, h0, hf', e, w, hs3, nd, hq⟩
end
theorem ca_ {α : Type} {a : α} {b c : List α} : a :: b ++ c = a :: (b ++ c) := List.cons_append
theorem na_ {α : Type} {b : List α} : [] ++ b = b := List.nil_append b
abbrev pt (b : Nat) : Value := .pointer (some ⟨b, 0, none⟩)
theorem ld_bkw {E : Env} {t T : TypeId} {b n : Nat} {cs : List Value} {h : Heap} (ht : isAggT E.P t = some true) (hz : sz E.P t = some n) (hb : BK h b cs T) (hl : cs.length = n) : loadV E h t ⟨b, 0, none⟩ = some (.agg cs.toArray) :=
 ld_bk ht hz hb (by omega) (by rw [List.drop_zero]; exact List.take_of_length_le (by omega))
section
variable {X : Cx} {st : List It} {l : L} {h0 : Heap} {segs F rest : List (List Blk)}
variable {r : Array Oper} {q : Bool} {os : List Oper} {d x : Nat} {ty : TypeId} {pos : String} {aft : Array Edge}
theorem glc {t T : TypeId} {b off : Nat} {cs : List Value} {v : Value} (ha : isAggT X.E.P t = some false) (g : BK h0 b cs T) (hn : Nat.blt d X.nt = true) (hx : lk l x = some (true, .pointer (some ⟨b, off, none⟩))) (hv : cs[off]? = some v)
 (k : Goes X (.ops r q os :: st) ((d, true, v) :: l) segs.flatten h0) : Goes X (.ops r q (⟨some d, .load t (.tmp x), ty, pos, aft, none⟩ :: os) :: st) l segs.flatten h0 :=
 gr hn (r_load (ot hx) (lo_e fun hf kn => ld_cell ha (g.ext kn) hv)) k
theorem glb {t T : TypeId} {b n : Nat} {cs : List Value} (ha : isAggT X.E.P t = some true) (hz : sz X.E.P t = some n) (g : BK h0 b cs T) (hn : Nat.blt d X.nt = true) (hx : lk l x = some (true, .pointer (some ⟨b, 0, none⟩))) (hl : cs.length = n)
 (k : Goes X (.ops r q os :: st) ((d, true, .agg cs.toArray) :: l) segs.flatten h0) : Goes X (.ops r q (⟨some d, .load t (.tmp x), ty, pos, aft, none⟩ :: os) :: st) l segs.flatten h0 :=
 gr hn (r_load (ot hx) (lo_e fun hf kn => ld_bkw ha hz (g.ext kn) hl)) k
theorem gls (i : Nat) {t T : TypeId} {b off : Nat} {cs : List Value} {v : Value} (ha : isAggT X.E.P t = some false) (hn : Nat.blt d X.nt = true) (hx : lk l x = some (true, .pointer (some ⟨b, off, none⟩))) (hs : segs[i]? = some [⟨b, .cells cs T⟩]) (hv : cs[off]? = some v)
 (k : Goes X (.ops r q os :: st) ((d, true, v) :: l) segs.flatten h0) : Goes X (.ops r q (⟨some d, .load t (.tmp x), ty, pos, aft, none⟩ :: os) :: st) l segs.flatten h0 :=
 gr hn (r_load (ot hx) (lm_s (mem_seg i hs) ha hv)) k
theorem glw (i : Nat) {t T : TypeId} {b n : Nat} {cs : List Value} (ha : isAggT X.E.P t = some true) (hz : sz X.E.P t = some n) (hn : Nat.blt d X.nt = true) (hx : lk l x = some (true, .pointer (some ⟨b, 0, none⟩))) (hs : segs[i]? = some [⟨b, .cells cs T⟩]) (hl : cs.length = n)
 (k : Goes X (.ops r q os :: st) ((d, true, .agg cs.toArray) :: l) segs.flatten h0) : Goes X (.ops r q (⟨some d, .load t (.tmp x), ty, pos, aft, none⟩ :: os) :: st) l segs.flatten h0 :=
 gr hn (r_load (ot hx) (lm_w (mem_seg i hs) ha hz hl)) k
theorem gF {s : TypeId} {f : Nat} {a v : Value} (h : fieldAddrV X.E s a f = some v) (hn : Nat.blt d X.nt = true) (hx : lk l x = some (true, a))
 (k : Goes X (.ops r q os :: st) ((d, true, v) :: l) segs.flatten h0) : Goes X (.ops r q (⟨some d, .fieldAddr s (.tmp x) f, ty, pos, aft, none⟩ :: os) :: st) l segs.flatten h0 :=
 gr hn (r_fa (ot hx) h) k
theorem gN {a : Addr} (hn : Nat.blt d X.nt = true) (hx : lk l x = some (true, .pointer (some a)))
 (k : Goes X (.ops r q os :: st) ((d, true, .pointer (some a)) :: l) segs.flatten h0) : Goes X (.ops r q (⟨some d, .nilCheck (.tmp x), ty, pos, aft, none⟩ :: os) :: st) l segs.flatten h0 :=
 gr hn (r_nilck (ot hx)) k
def okD (nt : Nat) : Option Nat → Bool
 | some d => Nat.blt d nt
 | none => true
theorem kcX {dst : Option Nat} {f : Operand} {xs : Array Operand} {ts : Array TypeId} {gf : FuncId} {fi ca : Array Value} {vs : List Value} {Q : Value → List (List Blk) → Heap → Prop}
 (hF : FramedE X.E) (hw0 : Wf h0) (hp : Takes F segs rest) (hn : okD X.nt dst = true) (hf' : OP l true f (.func (.func gf) fi ca)) (hx : OPs l true xs.toList vs) (hb : hasBody X.E.P gf = true)
 (hs : EvO X.E gf (fi.toList ++ (vs ++ ca.toList)) F h0 Q)
 (kk : ∀ v F' h1, HExt h0 h1 → Wf h1 → Q v F' h1 → Goes X (.ops r false os :: st) (match (generalizing := false) dst with | some d => (d, true, v) :: l | none => l) (F' ++ rest).flatten h1) :
 Goes X (.ops r false (⟨dst, .call ⟨.value f, xs, ts⟩, ty, pos, aft, none⟩ :: os) :: st) l segs.flatten h0 := by
 cases dst with
 | none => exact gs_call hF hw0 hp (fun _ h => by cases h) hf' hx hb hs kk
 | some d => exact gs_call hF hw0 hp (fun _ h => by cases h; exact hn) hf' hx hb hs kk
theorem ops_t {xs : List Operand} {v : Value} {vs : List Value} {g : Bool} (h : lk l x = some (true, v)) (k : OPs l g xs vs) : OPs l g (.tmp x :: xs) (v :: vs) := os1 (ot h) k
theorem ops_c {xs : List Operand} {v : Value} {vs : List Value} {g : Bool} (h : plainN 4 v = true) (k : OPs l g xs vs) : OPs l g (.const v :: xs) (v :: vs) := os1 (oc h) k
theorem rcc {i : Nat} {t T : TypeId} {b off : Nat} {cs : List Value} {v : Value} {vs : List (Nat × Value)} (ha : isAggT X.E.P t = some false) (g : BK h0 b cs T) (ho : r[i]? = some ⟨some d, .load t (.tmp x), ty, pos, aft, none⟩) (hx : lk l x = some (true, .pointer (some ⟨b, off, none⟩))) (hv : cs[off]? = some v)
 (k : ∀ fr h hf, Agree l fr → Has segs.flatten h0 h hf → Rcd X.E r vs fr h) : ∀ fr h hf, Agree l fr → Has segs.flatten h0 h hf → Rcd X.E r ((i, v) :: vs) fr h :=
 rc1 ho (r_load (ot hx) (lo_e fun hf kn => ld_cell ha (g.ext kn) hv)) k
theorem rcs (j : Nat) {i : Nat} {t T : TypeId} {b off : Nat} {cs : List Value} {v : Value} {vs : List (Nat × Value)} (ha : isAggT X.E.P t = some false) (ho : r[i]? = some ⟨some d, .load t (.tmp x), ty, pos, aft, none⟩) (hx : lk l x = some (true, .pointer (some ⟨b, off, none⟩))) (hs : segs[j]? = some [⟨b, .cells cs T⟩]) (hv : cs[off]? = some v)
 (k : ∀ fr h hf, Agree l fr → Has segs.flatten h0 h hf → Rcd X.E r vs fr h) : ∀ fr h hf, Agree l fr → Has segs.flatten h0 h hf → Rcd X.E r ((i, v) :: vs) fr h :=
 rc1 ho (r_load (ot hx) (lm_s (mem_seg j hs) ha hv)) k
end
def sq : Nat → Nat → List (Nat × List Nat)
 | _, 0 => []
 | i, n + 1 => (i, []) :: sq (i + 1) n
end Go.Proofs.YtndhbaidibioeaaGreat.V
