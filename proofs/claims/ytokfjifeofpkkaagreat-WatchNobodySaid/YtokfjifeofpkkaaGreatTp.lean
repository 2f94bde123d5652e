/- token.Put, as a call of the clean machine.
   No condition. -/
import Derived.Test.YtokfjifeofpkkaaGreatV31
import Derived.Test.YtokfjifeofpkkaaGreatTk
namespace Go.Proofs.YtokfjifeofpkkaaGreat.V
open Go Go.Proofs.YtokfjifeofpkkaaGreat
set_option linter.unusedVariables false
set_option linter.unusedSimpArgs false
def putP (args : List Value) (h : Heap) : Option (Value × Heap) := match args with
 | [.agg ⟨[.string f, .string t, .int .i64 n, .bool o]⟩] => bif Nat.ble f.size 1000000000 && Nat.ble t.size 1000000000 then some (.string (putB f t n o), h) else none
 | _ => none
theorem putP_inv {args : List Value} {h h' : Heap} {v : Value} (e : putP args h = some (v, h')) : ∃ f t n o, args = [.agg #[.string f, .string t, .int .i64 n, .bool o]] ∧ f.size ≤ 1000000000 ∧ t.size ≤ 1000000000 ∧ v = .string (putB f t n o) ∧ h' = h := by
 unfold putP at e
 split at e
 ·
  rename_i f t n o
  obtain ⟨hq, e⟩ := bif_some e
  rw [Bool.and_eq_true] at hq
  cases e
  exact ⟨f, t, n, o, rfl, Nat.le_of_ble_eq_true hq.1, Nat.le_of_ble_eq_true hq.2, rfl, rfl⟩
 ·
  cases e
theorem putP_eq {f t : ByteArray} {n : Int} {o : Bool} {h : Heap} (hf : f.size ≤ 1000000000) (ht : t.size ≤ 1000000000) : putP [.agg #[.string f, .string t, .int .i64 n, .bool o]] h = some (.string (putB f t n o), h) := by
 have h1 := Nat.ble_eq_true_of_le hf
 have h2 := Nat.ble_eq_true_of_le ht
 unfold putP
 dsimp only
 rw [h1, h2]
 rfl
theorem putP_framed : Framed (fun _ => putP) := by
 intro S f h g args v f' m hc
 obtain ⟨a, t, n, o, rfl, h1, h2, rfl, rfl⟩ := putP_inv hc
 exact ⟨h, putP_eq h1 h2, m, Kept.refl _ _⟩
theorem putP_ok : ∀ args hp v hp', putP args hp = some (v, hp') → ∀ Wr β w (args' : Array Value), Sim Tryz.prog Wr β hp w → VRs β args args'.toList → Calls Tryz.prog 28 args' w (Out Tryz.prog Wr β hp hp' v w) := by
 intro args h v h' hk Wr β w args' S ha
 obtain ⟨f, t, n, o, rfl, h1, h2, rfl, rfl⟩ := putP_inv hk
 have e : args' = #[.agg #[.string f, .string t, .int .i64 n, .bool o]] := by
  cases args' with
  | mk l =>
   cases ha with
   | cons r1 r2 =>
    cases r2
    have := plain_eq 4 (v := .agg #[.string f, .string t, .int .i64 n, .bool o]) rfl r1
    subst this
    rfl
 subst e
 refine (put_calls f t n o w h1 h2).mono ?_
 rintro e w' ⟨rfl, bel⟩
 have ex := Ext.of_below bel
 refine ⟨_, β, rfl, Up.refl _ β, S.ext ex, .string _, ⟨ex.os, ex.tape, ex.output, ex.size, fun k hk => ex.block k ?_⟩, Lm.refl _⟩
 rcases Nat.lt_or_ge k w.heap.size with q | q
 ·
  exact q
 ·
  exact absurd (S.fresh k q) hk
end Go.Proofs.YtokfjifeofpkkaaGreat.V
