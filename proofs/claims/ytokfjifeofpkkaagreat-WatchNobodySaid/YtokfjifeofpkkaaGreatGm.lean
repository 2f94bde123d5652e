/- What Take tells.
   No condition: these are laws of plain functions. -/
import Derived.Test.YtokfjifeofpkkaaGreatPF
namespace Go.Proofs.YtokfjifeofpkkaaGreat.V
open Go
set_option linter.unusedVariables false
set_option linter.unusedSimpArgs false
theorem idx_in (x : ByteArray) (i : Nat) (h : i < x.size) : ∃ b : Nat, b < 256 ∧ idxS x (i : Int) = some (b : Int) := by
 unfold idxS
 rw [if_pos (by omega), show ((i : Int)).toNat = i from by omega, getElem?_pos x i h]
 exact ⟨_, UInt8.toNat_lt _, rfl⟩
theorem sub_in (x : ByteArray) (l h : Nat) (h1 : l ≤ h) (h2 : h ≤ x.size) : subS x (l : Int) (h : Int) = some (x.extract l h) := by
 unfold subS
 rw [if_pos ⟨by omega, by omega, by omega⟩]
 rfl
theorem ext_size (x : ByteArray) (l h : Nat) (h2 : h ≤ x.size) : (x.extract l h).size = h - l := by
 rw [ByteArray.size_extract]; omega
theorem range_may (r : TRange) (hs : r.To.size ≤ maxLen) : ∃ b, F_key_MayRange r = some b ∧ (b = true → F_key_Empty r = some false ∧ r.From.size ≤ 8 ∧ r.To.size ≤ 9) := by
 have hm : maxLen = 9223372036854775807 := rfl
 obtain ⟨e, he⟩ : ∃ e, F_key_Empty r = some e := ⟨_, rfl⟩
 have tr : ∃ t : ByteArray, F_strings_TrimSuffix r.To (⟨#[0]⟩ : ByteArray) = some t ∧ r.To.size ≤ t.size + 1 := by
  have s1 : (⟨#[0]⟩ : ByteArray).size = 1 := rfl
  unfold F_strings_TrimSuffix F_internal_stringslite_TrimSuffix F_internal_stringslite_HasSuffix
  by_cases q : r.To.size ≥ 1
  ·
   have w1 : IntKind.i64.wrap ((r.To.size : Int) - ((⟨#[0]⟩ : ByteArray).size : Int)) = ((r.To.size - 1 : Nat) : Int) := by rw [s1, wrap_id (by omega) (by omega)]; omega
   have e1 := sub_in r.To (r.To.size - 1) r.To.size (by omega) (Nat.le_refl _)
   have e2 := sub_in r.To 0 (r.To.size - 1) (by omega) (by omega)
   have e2' : subS r.To 0 ((r.To.size - 1 : Nat) : Int) = some (r.To.extract 0 (r.To.size - 1)) := e2
   rw [if_pos (by rw [s1]; exact decide_eq_true (by omega)), w1, e1, e2']
   simp only [Option.bind_some]
   split
   ·
    exact ⟨_, rfl, by rw [ext_size _ _ _ (by omega)]; omega⟩
   ·
    exact ⟨_, rfl, by omega⟩
  ·
   rw [if_neg (by rw [s1, decide_eq_true_eq]; omega)]
   exact ⟨r.To, rfl, by omega⟩
 obtain ⟨t, ht, hl⟩ := tr
 unfold F_key_MayRange
 rw [he, ht]
 simp only [Option.bind_some]
 cases e with
 | true => exact ⟨_, rfl, fun h => by simp at h⟩
 | false =>
  by_cases q : r.From.size ≤ 8
  ·
   have d1 : decide ((r.From.size : Int) ≤ 8) = true := decide_eq_true (by omega)
   rw [d1]
   by_cases q2 : t.size ≤ 8
   ·
    have d2 : decide ((t.size : Int) ≤ 8) = true := decide_eq_true (by omega)
    rw [d2]
    exact ⟨true, rfl, fun _ => ⟨rfl, q, by omega⟩⟩
   ·
    have d2 : decide ((t.size : Int) ≤ 8) = false := decide_eq_false (by omega)
    rw [d2]
    exact ⟨false, rfl, fun h => by cases h⟩
  ·
   have d1 : decide ((r.From.size : Int) ≤ 8) = false := decide_eq_false (by omega)
   rw [d1]
   exact ⟨false, rfl, fun h => by cases h⟩
theorem take_tot (p0 : ByteArray) (hz : p0.size ≤ 1000000000000000) :
 F_token_Take p0 = some (⟨⟨ByteArray.empty, ByteArray.empty⟩, 0, false⟩, 2) ∨ ∃ t, F_token_Take p0 = some (t, 0) ∧ F_key_Empty t.R = some false := by
 have hm : maxLen = 9223372036854775807 := rfl
 unfold F_token_Take
 by_cases h5 : p0.size < 5
 ·
  left
  rw [if_pos (by simp; omega)]
  rfl
 ·
  rw [if_neg (by simp; omega)]
  obtain ⟨k, hk, e3⟩ := idx_in p0 3 (by omega)
  obtain ⟨_, _, e1⟩ := idx_in p0 1 (by omega)
  obtain ⟨_, _, e2⟩ := idx_in p0 2 (by omega)
  obtain ⟨_, _, e0⟩ := idx_in p0 0 (by omega)
  have e3' : idxS p0 3 = some (k : Int) := e3
  have e1' : idxS p0 1 = some _ := e1
  have e2' : idxS p0 2 = some _ := e2
  have e0' : idxS p0 0 = some _ := e0
  rw [e3', e1', e2', e0']
  have w1 : IntKind.i64.wrap ((p0.size : Int) - 5) = ((p0.size - 5 : Nat) : Int) := by rw [wrap_id (by omega) (by omega)]; omega
  have w2 : IntKind.i64.wrap (k : Int) = (k : Int) := wrap_id (by omega) (by omega)
  have w3 : IntKind.i64.wrap (4 + (k : Int)) = ((4 + k : Nat) : Int) := by rw [wrap_id (by omega) (by omega)]; omega
  have w4 : IntKind.i64.wrap (5 + (k : Int)) = ((5 + k : Nat) : Int) := by rw [wrap_id (by omega) (by omega)]; omega
  simp only [Option.bind_some, w1, w2, w3, w4]
  by_cases hs : p0.size - 5 < k
  ·
   left
   rw [if_pos (by simp; omega)]
  ·
   rw [if_neg (by simp; omega)]
   have s1 := sub_in p0 4 (4 + k) (by omega) (by omega)
   have s1' : subS p0 4 ((4 + k : Nat) : Int) = some (p0.extract 4 (4 + k)) := s1
   have s2 := sub_in p0 (5 + k) p0.size (by omega) (Nat.le_refl _)
   rw [s1', s2]
   simp only [Option.bind_some]
   unfold F_token_May
   obtain ⟨mb, hmb, hme⟩ := range_may ⟨p0.extract 4 (4 + k), p0.extract (5 + k) p0.size⟩ (by show (p0.extract (5 + k) p0.size).size ≤ maxLen; rw [ext_size _ _ _ (Nat.le_refl _)]; omega)
   rw [hmb]
   simp only [Option.bind_some]
   cases mb with
   | false =>
    left
    rfl
   | true =>
    obtain ⟨g1, g2, g3⟩ := hme rfl
    dsimp only at g1 g2 g3
    unfold F_token_Put
    dsimp only
    rw [if_pos (⟨by omega, by omega⟩ : (p0.extract 4 (4 + k)).size ≤ 1000000000 ∧ (p0.extract (5 + k) p0.size).size ≤ 1000000000)]
    simp only [Option.bind_some]
    generalize orI .i64 (shlI .i64 (IntKind.i64.wrap _) 8) (IntKind.i64.wrap _) = nv
    cases decide (nv ≥ 1) with
    | false => left; rfl
    | true =>
     cases decide (nv ≤ 1001) with
     | false => left; rfl
     | true =>
      generalize eqB (putB _ _ nv _) p0 = e
      cases e with
      | false => left; rfl
      | true => right; exact ⟨_, rfl, g1⟩
end Go.Proofs.YtokfjifeofpkkaaGreat.V
