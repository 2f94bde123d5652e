/- Slices' rows read, and small laws for the walks.
   No condition: these are laws of the clean machine. -/
import Derived.Test.YtadfhabapgipbaaV23
namespace Go.Proofs.Ytadfhabapgipbaa.V
open Go
set_option linter.unusedVariables false
set_option linter.unusedSimpArgs false

theorem and_l {a b : Bool} (h : (a && b) = true) : a = true := by cases a <;> simp_all

/-- A row's place, and what lies there. -/
theorem row_at {h : Heap} {k : Nat} {a : Option Addr} {rows : List (List Value)} (s : SL h k a rows) {i : Nat} {r : List Value} (hr : rows[i]? = some r) :
    ∃ a0 a', a = some a0 ∧ elemAddr a0 (i * k) = some a' ∧ cellsAt h a' k = some r ∧ r.length = k := by
  obtain ⟨h1, a0, a', h2, h3, h4⟩ := s i r hr
  exact ⟨a0, a', h2, h3, h4, h1⟩
theorem ia_of {E : Env} {t e k i n cap : Nat} {ik : IntKind} {a0 a' : Addr} (hu : E.P.underlying t = some (.slice e)) (hz : sz E.P e = some k) (hi : i < n) (ha : elemAddr a0 (i * k) = some a') :
    indexAddrV E t (.slice (some a0) n cap) (.int ik i) = some (.pointer (some a')) := by
  unfold indexAddrV
  dsimp only
  rw [hu]
  dsimp only
  rw [if_pos ⟨by omega, by omega⟩, hz]
  dsimp only
  rw [show ((i : Int).toNat) = i from rfl, ha]
theorem ld_of {E : Env} {e k : Nat} {a' : Addr} {r : List Value} {h : Heap} (ht : isAggT E.P e = some true) (hz : sz E.P e = some k) (hc : cellsAt h a' k = some r) : loadV E h e a' = some (.agg r.toArray) := by
  unfold loadV
  rw [ht]; dsimp only; rw [hz]; dsimp only; rw [hc]
theorem wrap_id {n : Int} (h0 : -9223372036854775808 ≤ n) (h1 : n < 9223372036854775808) : IntKind.wrap .i64 n = n := by
  unfold IntKind.wrap
  simp [IntKind.bits, IntKind.signed]
  omega

end Go.Proofs.Ytadfhabapgipbaa.V
