/- What hist.at finds: of a key's events, from the last one back, the first one that is not above a revision.
   No condition beyond what stands in each statement. -/
import Derived.Sort.MapsRangeIn
import Derived.Sort.KeysCollected
import Derived.RangeFuncGives
import Derived.RangeFuncNested
import Derived.RangeFuncBound
import Derived.RangeFuncBox
import Derived.RangeFuncLeaves
import Derived.RangeFuncMany
import Derived.RangeFuncKeeps
import Derived.WalkKit
import Derived.OwnWalkIn
import Derived.TacticsInMore
import Derived.RegionIn
import Derived.LoopNIn
import Derived.LoopIn
import Derived.Shelf.AbstractIn
import Derived.Shelf.Abstract
import Derived.Test.YtpfdandpmpmbiaaProg
namespace Go.Proofs.Ytpfdandpmpmbiaa
open Go Go.RowKit Go.Maps Go.Sort Go.Shelf Go.Proofs
set_option linter.unusedVariables false
set_option linter.unusedSimpArgs false
attribute [local go_sem] Oper.semAt_some

/-- An event, as a value. -/
structure EvH where
  a : Int
  k : ByteArray
  x : ByteArray
  d : Bool
def EvH.cs (e : EvH) : List Value := [.int .i64 e.a, .string e.k, .string e.x, .bool e.d]
abbrev EvH.v (e : EvH) : Value := .agg #[.int .i64 e.a, .string e.k, .string e.x, .bool e.d]
def upto {α : Type} (f : Nat → α) (k : Nat) : List α := (List.range k).map f
theorem upto_succ {α : Type} (f : Nat → α) (k : Nat) : upto f (k + 1) = upto f k ++ [f k] := by simp [upto, List.range_succ]
theorem upto_length {α : Type} (f : Nat → α) (k : Nat) : (upto f k).length = k := by simp [upto]
/-- A row's events, from the last one back. -/
def backF (len : Nat) (g : Nat → EvH) (k : Nat) : Int × EvH := (((len - 1 - k : Nat) : Int), g (len - 1 - k))

set_option maxRecDepth 100000 in
set_option maxHeartbeats 4000000 in
theorem back1 (F : Fence) (n : Nat) (hF : F.fn 104) (hro : F.round = none) (hn : 1 ≤ n) (l Bs ob n₀ b off len cap : Nat) (g : Nat → EvH) (hlen : len < 4611686018427387904) (hb : b < n₀) (hBs0 : Bs < n₀) (J Jx : List (Int × EvH) → World → Prop)
    (hY : ∀ pre x W, J pre W → pre.length < len → YieldAt F (n - 1) Try.prog l #[.int .i64 x.1, x.2.v] W fun e W' =>
      (e = .returned (.bool true) ∧ J (pre ++ [x]) W' ∧ Below n₀ W W') ∨ (e = .returned (.bool false) ∧ Jx (pre ++ [x]) W'))
    (W : World) (hBs : W.cell? ⟨Bs, ob, none⟩ = some (.slice (some ⟨b, off, none⟩) len cap))
    (hc : ∀ j, j < len → W.cell? ⟨b, off + j * 4, none⟩ = some (.int .i64 (g j).a) ∧ W.cell? ⟨b, off + j * 4 + 1, none⟩ = some (.string (g j).k) ∧ W.cell? ⟨b, off + j * 4 + 2, none⟩ = some (.string (g j).x) ∧ W.cell? ⟨b, off + j * 4 + 3, none⟩ = some (.bool (g j).d)) (h0 : J [] W) :
    CallsIn F n Try.prog 104 #[.func (.yield l) #[] #[], .pointer (some ⟨Bs, ob, none⟩)] W fun e W' => (∃ v, e = .returned v) ∧
      ((∃ ys, ys = upto (backF len g) len ∧ J ys W') ∨ (∃ pre, (∃ k, k ≤ len ∧ pre = upto (backF len g) k) ∧ Jx pre W')) := by
  refine callsIn_of_wp Try.func104 rfl hF ?_ hro
  simp only [Try.ntmps104, List.size_toArray, List.length_cons, List.length_nil, Nat.reduceAdd, Nat.reduceSub, Array.replicate_succ, Array.replicate_zero, List.push_toArray, List.append_toArray, List.nil_append, List.cons_append]
  gi_wp2
  gi_loopw [3] (fun i wr => ∃ k : Nat, k ≤ len ∧ i = .int .i64 ((len : Int) - 1 - k) ∧ J (upto (backF len g) k) wr ∧ Below n₀ W wr)
    (fun i _ => (intOf i + 1).toNat)
  case atStart => exact ⟨0, Nat.zero_le _, by simp, h0, Below.refl _ _⟩
  case round =>
    obtain ⟨k, hk, rfl, hJs, hnx⟩ := hrel
    have cB : wr.cell? ⟨Bs, ob, none⟩ = some (.slice (some ⟨b, off, none⟩) len cap) := (hnx.cell (p := ⟨Bs, ob, none⟩) hBs0).trans hBs
    by_cases hlt : k < len
    · obtain ⟨j, hj⟩ : ∃ j, len - 1 - k = j := ⟨_, rfl⟩
      have ej : (len : Int) - 1 - k = (j : Int) := by omega
      have hjl : j < len := by omega
      obtain ⟨q0, q1, q2, q3⟩ := hc j hjl
      have c0 := (hnx.cell (p := ⟨b, off + j * 4, none⟩) hb).trans q0
      have c1 := (hnx.cell (p := ⟨b, off + j * 4 + 1, none⟩) hb).trans q1
      have c2 := (hnx.cell (p := ⟨b, off + j * 4 + 2, none⟩) hb).trans q2
      have c3 := (hnx.cell (p := ⟨b, off + j * 4 + 3, none⟩) hb).trans q3
      clear q0 q1 q2 q3
      obtain ⟨fn, tmps, assign, body, hy, hR⟩ := hY _ (backF len g k) wr hJs (by rw [upto_length]; exact hlt)
      have hbk : backF len g k = ((j : Int), g j) := by unfold backF; rw [hj]
      rw [hbk] at hy
      obtain ⟨ga, gk, gx, gd⟩ := g j
      dsimp only at c0 c1 c2 c3 hy
      rw [ej]
      gi_wp2
      refine hR.mono ?_
      rintro e W3 (⟨rfl, hJ3, hk3⟩ | ⟨rfl, hJx3⟩)
      · gi_wp2
        go_roundw
        case rel => exact ⟨k + 1, by omega, by simp; omega, by rw [upto_succ]; exact hJ3, hnx.trans hk3⟩
        case measure => simp [intOf]
      · gi_wp2
        refine bodyPost_ret (results_none rfl _ _ _) rfl ?_
        exact ⟨⟨_, rfl⟩, .inr ⟨_, ⟨k + 1, by omega, (upto_succ _ _).symm⟩, hJx3⟩⟩
    · obtain rfl : k = len := by omega
      have e0 : (k : Int) - 1 - k = -1 := by omega
      rw [e0]
      gi_wp2
      go_end0
      exact ⟨⟨_, rfl⟩, .inl ⟨_, rfl, hJs⟩⟩
set_option maxRecDepth 100000 in
set_option maxHeartbeats 1000000 in
/-- .. of no events: no round. -/
theorem back0 (F : Fence) (n : Nat) (hF : F.fn 104) (hro : F.round = none) (l Bs ob cap : Nat) (a : Option Addr) (J : List (Int × EvH) → World → Prop) (W : World) (hBs : W.cell? ⟨Bs, ob, none⟩ = some (.slice a 0 cap)) (h0 : J [] W) :
    CallsIn F n Try.prog 104 #[.func (.yield l) #[] #[], .pointer (some ⟨Bs, ob, none⟩)] W fun e W' => (∃ v, e = .returned v) ∧ J [] W' := by
  refine callsIn_of_wp Try.func104 rfl hF ?_ hro
  simp only [Try.ntmps104, List.size_toArray, List.length_cons, List.length_nil, Nat.reduceAdd, Nat.reduceSub, Array.replicate_succ, Array.replicate_zero, List.push_toArray, List.append_toArray, List.nil_append, List.cons_append]
  gi_wp2
  gi_loopw [3] (fun i wr => i = .int .i64 (-1) ∧ J [] wr) (fun _ _ => 0)
  case atStart => exact ⟨rfl, h0⟩
  case round =>
    obtain ⟨rfl, hJs⟩ := hrel
    gi_wp2
    go_end0
    exact ⟨⟨_, rfl⟩, hJs⟩
/-- A slice's events, as they lie below a place. -/
def RowsW (n₀ : Nat) (W : World) (sv : Value) (len : Nat) (g : Nat → EvH) : Prop :=
  (∃ a cap, sv = .slice a 0 cap ∧ len = 0) ∨ ∃ b off cap, sv = .slice (some ⟨b, off, none⟩) len cap ∧ b < n₀ ∧ len < 4611686018427387904 ∧
    ∀ j, j < len → W.cell? ⟨b, off + j * 4, none⟩ = some (.int .i64 (g j).a) ∧ W.cell? ⟨b, off + j * 4 + 1, none⟩ = some (.string (g j).k) ∧ W.cell? ⟨b, off + j * 4 + 2, none⟩ = some (.string (g j).x) ∧ W.cell? ⟨b, off + j * 4 + 3, none⟩ = some (.bool (g j).d)
theorem RowsW.below {n₀ : Nat} {A B : World} (h : Below n₀ A B) {sv : Value} {len : Nat} {g : Nat → EvH} : RowsW n₀ A sv len g → RowsW n₀ B sv len g
  | .inl e => .inl e
  | .inr ⟨b, off, cap, e, hb, hl, hc⟩ => .inr ⟨b, off, cap, e, hb, hl, fun j hj => by
      obtain ⟨q0, q1, q2, q3⟩ := hc j hj
      exact ⟨(h.cell (p := ⟨b, _, none⟩) hb).trans q0, (h.cell (p := ⟨b, _, none⟩) hb).trans q1, (h.cell (p := ⟨b, _, none⟩) hb).trans q2, (h.cell (p := ⟨b, _, none⟩) hb).trans q3⟩⟩
theorem RowsW.mono {n₀ n₁ : Nat} (hn : n₀ ≤ n₁) {A : World} {sv : Value} {len : Nat} {g : Nat → EvH} : RowsW n₀ A sv len g → RowsW n₁ A sv len g
  | .inl e => .inl e
  | .inr ⟨b, off, cap, e, hb, hl, hc⟩ => .inr ⟨b, off, cap, e, Nat.lt_of_lt_of_le hb hn, hl, hc⟩
theorem back_stops (F : Fence) (n : Nat) (hF : F.fn 104) (hro : F.round = none) (hn : 1 ≤ n) (Bs ob : Nat) (sv : Value) (len : Nat) (g : Nat → EvH) (w : World) (hBs : Bs < w.heap.size) (hc : w.cell? ⟨Bs, ob, none⟩ = some sv) (hI : RowsW w.heap.size w sv len g) :
    SeqStopsK F n Try.prog 104 #[.pointer (some ⟨Bs, ob, none⟩)] (fun x : Int × EvH => #[Value.int .i64 x.1, x.2.v]) (Below w.heap.size) (fun ys => ys = upto (backF len g) len) (fun pre => ∃ k, k ≤ len ∧ pre = upto (backF len g) k) len w := fun l J Jx W hW _ _ hY h0 => by
  have hc' := (hW.cell (p := ⟨Bs, ob, none⟩) hBs).trans hc
  rcases hI.below hW with ⟨a, cap, rfl, rfl⟩ | ⟨b, off, cap, rfl, hb, hl, hcs⟩
  · exact (back0 F n hF hro l Bs ob cap a J W hc' h0).mono fun e W' ⟨he, hj⟩ => ⟨he, .inl ⟨_, rfl, hj⟩⟩
  · exact back1 F n hF hro hn l Bs ob w.heap.size b off len cap g hl hb hBs J Jx hY W hc' hcs h0
set_option maxRecDepth 100000 in
theorem backward (F : Fence) (n : Nat) (hF : F.fn 81) (hro : F.round = none) (a : Option Addr) (len cap : Nat) (w : World) :
    CallsIn F n Try.prog 81 #[.slice a len cap] w fun e w' => e = .returned (.func (.func 104) #[] #[.pointer (some ⟨w.heap.size, 0, none⟩)]) ∧ w' = w.alloc (.cells #[.slice a len cap] 50) := by
  refine callsIn_of_wp Try.func81 rfl hF ?_ hro
  simp only [Try.ntmps81, List.size_toArray, List.length_cons, List.length_nil, Nat.reduceAdd, Nat.reduceSub, Array.replicate_succ, Array.replicate_zero, List.push_toArray, List.append_toArray, List.nil_append, List.cons_append]
  gi_wp2
  go_ret
  exact ⟨rfl, rfl⟩
end Go.Proofs.Ytpfdandpmpmbiaa
