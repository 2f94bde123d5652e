/- Calls of closures that are kept.
   No condition: these are laws of the clean machine. -/
import Derived.Test.YtndhbaidibioeaaGreatVn
namespace Go.Proofs.YtndhbaidibioeaaGreat.V
open Go
set_option linter.unusedVariables false
set_option linter.unusedSimpArgs false
def CallV (E : Env) (v : Value) (args : List Value) (segs : List (List Blk)) (h0 : Heap) (Q : Value → List (List Blk) → Heap → Prop) : Prop :=
 ∃ gf ca, v = .func (.func gf) #[] ca ∧ hasBody E.P gf = true ∧ EvO E gf (args ++ ca.toList) segs h0 Q
section
variable {X : Cx} {st : List It} {l : L} {h0 : Heap} {segs : List (List Blk)}
variable {r : Array Oper} {os : List Oper} {ty : TypeId} {pos : String} {aft : Array Edge}
theorem gs_calld {dst : Option Nat} {f : Operand} {xs : Array Operand} {ts : Array TypeId} {fv : Value} {vs : List Value} {F rest : List (List Blk)} {Q : Value → List (List Blk) → Heap → Prop}
 (hF : FramedE X.E) (hw0 : Wf h0) (hp : Takes F segs rest) (hn : ∀ d, dst = some d → Nat.blt d X.nt = true) (hf' : OP l true f fv) (hx : OPs l true xs.toList vs)
 (hs : CallV X.E fv vs F h0 Q)
 (kk : ∀ v F' h1, HExt h0 h1 → Wf h1 → Q v F' h1 → Goes X (.ops r false os :: st) (match dst with | some d => (d, true, v) :: l | none => l) (F' ++ rest).flatten h1) :
 Goes X (.ops r false (⟨dst, .call ⟨.value f, xs, ts⟩, ty, pos, aft, none⟩ :: os) :: st) l segs.flatten h0 := by
 obtain ⟨gf, ca, rfl, hb, ev⟩ := hs
 exact gs_call (fi := #[]) hF hw0 hp hn hf' hx hb (by simpa using ev) kk
end
theorem veq_fn (n : Nat) (g : FuncId) (cs : List Value) (h : ∀ v ∈ cs, veqN n v v = true) : veqN (n + 1) (.func (.func g) #[] cs.toArray) (.func (.func g) #[] cs.toArray) = true := by
 have k := veq_agg n cs h
 simp only [veqN] at k ⊢
 simp at k ⊢
 exact k
def mkZ (n : Int) : Option (List Int) := if 0 ≤ n ∧ n ≤ 1000000 then some (List.replicate n.toNat 0) else none
theorem repZ_flat (v : Value) : ∀ m, repZ [v] m = (List.replicate m [v]).flatten
 | 0 => rfl
 | m + 1 => by rw [List.replicate_succ, List.flatten_cons, ← repZ_flat v m]; rfl
theorem zeroRows (ik : IntKind) (T : Nat) (h : Heap) (m : Nat) : Rws (RI_ ik T) h (List.replicate m [.int ik 0]) (List.replicate m 0) := by
 refine ⟨by simp, fun i row x hr hx => ?_⟩
 rw [List.getElem?_replicate] at hr hx
 split at hr
 ·
  rename_i q
  rw [if_pos q] at hx
  cases hr; cases hx; rfl
 ·
  cases hr
section
variable {X : Cx} {st : List It} {l : L} {h0 : Heap} {segs : List (List Blk)}
variable {r : Array Oper} {os : List Oper} {d : Nat} {ty : TypeId} {pos : String} {aft : Array Edge}
theorem gs_mkz {t elem : TypeId} {L C : Operand} {n : Int} {b : Nat} {xs : List Int} (ik : IntKind) (hn : Nat.blt d X.nt = true) (hx : mkZ n = some xs) (hL : OP l true L (.int .i64 n)) (hC : OP l true C (.int .i64 n))
 (hu : X.E.P.underlying t = some (.slice elem)) (hk : sz X.E.P elem = some 1) (hb : bytesOf X.E.P elem = some b) (hb8 : b ≤ 8) (hz : zeroOf X.E.P elem = some (.int ik 0))
 (kk : ∀ b h1, HExt h0 h1 → Wf h1 → RL (RI_ ik elem) h1 (some ⟨b, 0, none⟩) xs.length xs → Goes X (.ops r false os :: st) ((d, true, .slice (some ⟨b, 0, none⟩) xs.length xs.length) :: l) segs.flatten h1) :
 Goes X (.ops r false (⟨some d, .makeSlice t L C, ty, pos, aft, none⟩ :: os) :: st) l segs.flatten h0 := by
 unfold mkZ at hx
 split at hx
 ·
  rename_i q
  obtain ⟨q1, q2⟩ := q
  have hx := Option.some.inj hx
  subst hx
  have e : n = ((n.toNat : Nat) : Int) := by omega
  rw [e] at hL hC
  have hbi : (b : Int) * (n.toNat : Int) ≤ 281474976710656 := by
   have h1 : (b : Int) * (n.toNat : Int) ≤ 8 * (n.toNat : Int) := Int.mul_le_mul_of_nonneg_right (by omega) (by omega)
   omega
  refine gs_mslice (n := n.toNat) (c := n.toNat) (cs := repZ [.int ik 0] n.toNat) hn hL hC hu hk hb hz (by rw [Bool.and_eq_true]; exact ⟨decide_eq_true ⟨by omega, by omega, by omega, hbi⟩, rfl⟩) rfl (fun bk => ?_)
  refine gs_pub .z (fun h1 e1 w1 hb1 => ?_)
  have k := kk bk h1 e1 w1 (by
   rw [List.length_replicate]
   exact RL.of_blk (R := RI_ ik elem) (.inl rfl) hb1 (repZ_flat _ _) (zeroRows ik elem h1 n.toNat) (by rw [List.length_replicate]; omega) (by simp) rfl)
  rw [List.length_replicate] at k
  exact k
 ·
  cases hx
end
end Go.Proofs.YtndhbaidibioeaaGreat.V
