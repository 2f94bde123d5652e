/- Keys' versions: what a chain of them tells.
   No condition: these are laws of plain functions. -/
import Derived.Test.YtndhbaidibioeaaGreatBm
import Derived.Test.YtndhbaidibioeaaGreatNf
namespace Go.Proofs.YtndhbaidibioeaaGreat.V
open Go
set_option linter.unusedVariables false
set_option linter.unusedSimpArgs false
set_option maxRecDepth 100000

/-- Versions one behind the other, from a number on. -/
def Chn (A : List Tchain_version) : Nat → List TEvent → Prop
  | id, [] => id = 0
  | id, e :: r => ∃ (i m : Nat) (v : Tchain_version), id = i + 1 ∧ A[i]? = some v ∧ v.Event = e ∧ v.ahead = (m : Int) ∧ Chn A m r
theorem Chn.app {A B : List Tchain_version} : ∀ {id : Nat} {r : List TEvent}, Chn A id r → Chn (A ++ B) id r
  | _, [], h => h
  | _, e :: r, ⟨i, m, v, h1, h2, h3, h4, h5⟩ => ⟨i, m, v, h1, by rw [List.getElem?_append_left (List.getElem?_eq_some_iff.mp h2).1]; exact h2, h3, h4, h5.app⟩
theorem Chn.le {A : List Tchain_version} {id : Nat} {r : List TEvent} (h : Chn A id r) : id ≤ A.length := by
  cases r with
  | nil => have h : id = 0 := h; omega
  | cons e r =>
    obtain ⟨i, m, v, h1, h2, _⟩ := h
    have := (List.getElem?_eq_some_iff.mp h2).1
    omega
theorem wrapu_n {n : Nat} (h : n < 9223372036854775808) : IntKind.u64.wrap (n : Int) = (n : Int) := wrap_u64 (by omega) (by omega)
abbrev v0 : Tchain_version := ⟨⟨0, ByteArray.empty, ByteArray.empty, false⟩, 0⟩
theorem of_zero (S : Ochain_Store) : F_chain_Store_of S 0 = some (v0, false, S) := rfl
theorem of_some {S : Ochain_Store} {i : Nat} {v : Tchain_version} (hl : S.all.length < 1000000) (h : S.all[i]? = some v) : F_chain_Store_of S ((i + 1 : Nat) : Int) = some (v, true, S) := by
  have hi := (List.getElem?_eq_some_iff.mp h).1
  unfold F_chain_Store_of
  rw [if_neg (by rw [decide_eq_true_iff]; omega)]
  simp only [Option.bind_some]
  rw [wrapu_n (by omega), if_neg (by rw [decide_eq_true_iff]; omega), show (((i + 1 : Nat) : Int) - 1) = ((i : Nat) : Int) by omega, wrapu_n (by omega), getI_nat, h]
  rfl
/-- What a chain tells of itself. -/
def revOf : List TEvent → Int
  | [] => 0
  | e :: _ => e.Rev
theorem rev_ok {S : Ochain_Store} {id : Nat} {r : List TEvent} (hl : S.all.length < 1000000) (h : Chn S.all id r) : F_chain_Store_Rev S (id : Int) = some (revOf r, S) := by
  unfold F_chain_Store_Rev
  cases r with
  | nil => have h : id = 0 := h; subst h; rw [show ((0 : Nat) : Int) = 0 from rfl, of_zero]; rfl
  | cons e r =>
    obtain ⟨i, m, v, rfl, h2, h3, h4, h5⟩ := h
    rw [of_some hl h2, ← h3]; rfl
/-- What there is at a revision. -/
def look : List TEvent → Int → Option TKV
  | [], _ => none
  | e :: r, n => if e.Rev ≤ n then (if e.Del = true then none else some (kv e)) else look r n
theorem at_L1 {S : Ochain_Store} (hl : S.all.length < 1000000) (rev : Int) : ∀ (r : List TEvent) (m id : Nat), Chn S.all id r → r.length < m →
    ∃ v b, F_chain_Store_of S (id : Int) = some (v, b, S) ∧ F_chain_Store_At_L1 rev m b v S = some (match look r rev with | none => if r.all (fun e => decide (¬ e.Rev ≤ rev)) = true then .go S else .out (⟨ByteArray.empty, ByteArray.empty, 0⟩, false, S) | some x => .out (x, true, S))
  | [], 0, id, h, hm => by simp at hm
  | [], m + 1, id, h, hm => by
    have h : id = 0 := h
    subst h
    refine ⟨v0, false, of_zero S, ?_⟩
    rw [F_chain_Store_At_L1]; rfl
  | e :: r, 0, id, h, hm => by simp at hm
  | e :: r, m + 1, id, ⟨i, k, v, h1, h2, h3, h4, h5⟩, hm => by
    subst h1
    refine ⟨v, true, of_some hl h2, ?_⟩
    rw [F_chain_Store_At_L1, if_pos rfl, look, h3]
    by_cases q : e.Rev ≤ rev
    · rw [if_neg (by rw [decide_eq_true_iff]; omega), if_pos q]
      by_cases d : e.Del = true
      · rw [if_pos d, if_pos d]
        simp [q]
        intro h; omega
      · rw [if_neg d, if_neg d]; rfl
    · obtain ⟨v', b', g1, g2⟩ := at_L1 hl rev r m k h5 (by simp at hm; omega)
      rw [if_pos (by rw [decide_eq_true_iff]; omega), if_neg q, h4, g1]
      simp only [Option.bind_some]
      rw [g2]
      simp only [List.all_cons, q, not_false_eq_true, decide_true, Bool.true_and]
theorem at_ok {S : Ochain_Store} {n id : Nat} {r : List TEvent} (hl : S.all.length < 1000000) (rev : Int) (h : Chn S.all id r) (hn : r.length < n) :
    F_chain_Store_At n S (id : Int) rev = some (match look r rev with | none => (⟨ByteArray.empty, ByteArray.empty, 0⟩, false, S) | some x => (x, true, S)) := by
  obtain ⟨v, b, h1, h2⟩ := at_L1 hl rev r n id h hn
  unfold F_chain_Store_At
  rw [h1]
  simp only [Option.bind_some]
  rw [h2]
  cases look r rev with
  | some x => rfl
  | none =>
    dsimp only
    split <;> rfl
theorem grow1_ok {M : Omem_Mem} (h : M.cells.length + 1 ≤ 65536) : F_mem_Mem_Grow M 1 = some ((M.cells.length : Int), 0, ⟨M.cells ++ [0], M.count⟩) := by
  unfold F_mem_Mem_Grow
  rw [if_neg (by decide)]
  simp only [Option.bind_some]
  rw [wrap_id (by omega) (by omega), if_neg (by rw [decide_eq_true_iff]; omega)]
  have : mkZ (1 : Int) = some [0] := rfl
  rw [this]
  simp only [Option.bind_some]
  unfold F_mem_Mem_add
  rw [appL_ok (by simp; omega) (by omega) (by omega)]
  rfl
theorem ccell_ok {M : Omem_Mem} {S : Ochain_Store} (h : M.cells.length + 1 ≤ 65536) : F_chain_Store_Cell M S = some ((M.cells.length : Int), 0, ⟨M.cells ++ [0], M.count⟩, S) := by
  unfold F_chain_Store_Cell; rw [grow1_ok h]; rfl
theorem add_ok {S : Ochain_Store} {v : Tchain_version} (hl : S.all.length < 1000000) : F_chain_Store_add S [v] = some (((S.all.length + 1 : Nat) : Int), ⟨S.all ++ [v]⟩) := by
  unfold F_chain_Store_add
  rw [appL_ok (by simp; omega) (by omega) (by omega)]
  simp only [Option.bind_some]
  rw [show (S.all ++ [v]).length = S.all.length + 1 by simp, wrapu_n (by omega)]
end Go.Proofs.YtndhbaidibioeaaGreat.V
