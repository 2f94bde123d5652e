/- A request may be, or may not.
   No condition: these are laws of plain functions. -/
import Derived.Test.YtmogkmckjgeoiaaGreatPF
namespace Go.Proofs.YtmogkmckjgeoiaaGreat.V
open Go
set_option linter.unusedVariables false
set_option linter.unusedSimpArgs false
theorem key_tot (k : ByteArray) : ∃ b, F_key_May k = some b := ⟨_, rfl⟩
theorem cmp1_tot (c : TCmp) : ∃ b, F_txn_compares_1 c = some b := by
 obtain ⟨b, h⟩ := key_tot c.Key
 unfold F_txn_compares_1
 rw [h]; exact ⟨_, rfl⟩
theorem idx_tot : ∀ (l : List TCmp) (i : Nat), (∃ j : Int, F_slices_IndexFunc_txn_compares_1_L1 l i = some (.out j)) ∨ F_slices_IndexFunc_txn_compares_1_L1 l i = some (.go ())
 | [], i => .inr rfl
 | c :: l, i => by
  obtain ⟨b, h⟩ := cmp1_tot c
  rw [F_slices_IndexFunc_txn_compares_1_L1, h, Option.bind_some]
  cases b with
  | true => exact .inl ⟨i, rfl⟩
  | false => exact idx_tot l (i + 1)
theorem cmps_tot (l : List TCmp) : ∃ b, F_txn_compares l = some b := by
 unfold F_txn_compares F_slices_ContainsFunc_txn_compares_1 F_slices_IndexFunc_txn_compares_1
 rcases idx_tot l 0 with ⟨j, h⟩ | h
 ·
  rw [h]; split <;> exact ⟨_, rfl⟩
 ·
  rw [h]; split <;> exact ⟨_, rfl⟩
theorem opsl_tot : ∀ (l : List TOp) (i : Nat) (es : List (ByteArray × Bool)), (∃ b : Bool, F_txn_ops_L1 l i es = some (.out b)) ∨ ∃ es', F_txn_ops_L1 l i es = some (.go es')
 | [], i, es => .inr ⟨es, rfl⟩
 | o :: l, i, es => by
  obtain ⟨b, h⟩ := key_tot o.Key
  rw [F_txn_ops_L1, h, Option.bind_some]
  split
  ·
   exact .inl ⟨false, rfl⟩
  ·
   rw [Option.bind_some]
   split
   ·
    exact .inl ⟨false, rfl⟩
   ·
    exact opsl_tot l (i + 1) _
theorem ops_tot (l : List TOp) : ∃ b, F_txn_ops l = some b := by
 unfold F_txn_ops
 rcases opsl_tot l 0 [] with ⟨j, h⟩ | ⟨es, h⟩
 ·
  rw [h]; exact ⟨_, rfl⟩
 ·
  rw [h]; exact ⟨_, rfl⟩
theorem trim_tot (s t : ByteArray) (hs : s.size ≤ maxLen) : ∃ r, F_strings_TrimSuffix s t = some r := by
 have hm : maxLen = 9223372036854775807 := rfl
 unfold F_strings_TrimSuffix F_internal_stringslite_TrimSuffix F_internal_stringslite_HasSuffix
 by_cases q : s.size ≥ t.size
 ·
  have w1 : IntKind.i64.wrap ((s.size : Int) - (t.size : Int)) = ((s.size - t.size : Nat) : Int) := by rw [wrap_id (by omega) (by omega)]; omega
  have e1 : subS s ((s.size - t.size : Nat) : Int) (s.size : Int) = some (s.extract (s.size - t.size) s.size) := by
   unfold subS; rw [if_pos ⟨by omega, by omega, by omega⟩]; rfl
  have e2 : subS s 0 ((s.size - t.size : Nat) : Int) = some (s.extract 0 (s.size - t.size)) := by
   unfold subS; rw [if_pos ⟨by omega, by omega, by omega⟩]; rfl
  rw [if_pos (by simpa using q), w1, e1, e2]
  simp only [Option.bind_some]
  split <;> exact ⟨_, rfl⟩
 ·
  rw [if_neg (by simpa using q)]
  exact ⟨s, rfl⟩
theorem range_tot (r : TRange) (hs : r.To.size ≤ maxLen) : ∃ b, F_key_MayRange r = some b := by
 obtain ⟨t, ht⟩ := trim_tot r.To ⟨#[0]⟩ hs
 unfold F_key_MayRange F_key_Empty
 rw [ht]
 simp only [Option.bind_some]
 split <;> exact ⟨_, rfl⟩
theorem may_tot (q : TReq) (w : W_TReq q) : F_txn_May q = some 1 ∨ F_txn_May q = some 0 ∧ (q.Kind = 1 ∨ q.Kind = 2 ∨ q.Kind = 3) := by
 have fin : ∀ b : Bool, (some b : Option Bool).bind (fun s4 => if (!s4) = true then some (1 : Int) else some 0) = some 1 ∨ (some b : Option Bool).bind (fun s4 => if (!s4) = true then some (1 : Int) else some 0) = some 0 := by
  intro b; cases b
  ·
   exact .inl rfl
  ·
   exact .inr rfl
 unfold F_txn_May
 by_cases h1 : q.Kind = 1
 ·
  rw [if_pos (by simpa using h1)]
  obtain ⟨a, ha⟩ := cmps_tot q.Cmps
  obtain ⟨b, hb⟩ := ops_tot q.Then
  obtain ⟨c, hc⟩ := ops_tot q.Else
  rw [ha, hb, hc]
  cases a <;> cases b <;> cases c <;> first | exact .inl rfl | exact .inr ⟨rfl, .inl h1⟩
 ·
  rw [if_neg (by simpa using h1)]
  by_cases h2 : q.Kind = 2
  ·
   rw [if_pos (by simpa using h2)]
   obtain ⟨a, ha⟩ := range_tot q.R w.2.1.2
   rw [ha]
   simp only [Option.bind_some]
   rcases fin (bif a then decide (q.Rev ≥ 0) else false) with e | e
   ·
    exact .inl (by simpa using e)
   ·
    exact .inr ⟨by simpa using e, .inr (.inl h2)⟩
  ·
   rw [if_neg (by simpa using h2)]
   by_cases h3 : q.Kind = 3
   ·
    rw [if_pos (by simpa using h3)]
    simp only [Option.bind_some]
    rcases fin (decide (q.Rev ≥ 0)) with e | e
    ·
     exact .inl (by simpa using e)
    ·
     exact .inr ⟨by simpa using e, .inr (.inr h3)⟩
   ·
    rw [if_neg (by simpa using h3)]
    exact .inl rfl
end Go.Proofs.YtmogkmckjgeoiaaGreat.V
