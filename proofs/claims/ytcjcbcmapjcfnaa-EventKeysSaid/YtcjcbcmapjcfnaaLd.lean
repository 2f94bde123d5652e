/- The plain law of EventKeys.
   No condition: this is a law of plain functions. -/
import Derived.Test.YtcjcbcmapjcfnaaFo
namespace Go.Proofs.Ytcjcbcmapjcfnaa.V
open Go
set_option linter.unusedVariables false
set_option linter.unusedSimpArgs false

theorem bl_zero : ∀ x k : List UInt8, Op.bytesLess x (k ++ [0]) = (Op.bytesLess x k || x == k)
  | [], [] => rfl
  | [], b :: k => by simp [Op.bytesLess]
  | a :: x, [] => by
    have h : ¬ a < 0 := by intro h; exact absurd h (by simp [UInt8.lt_iff_toNat_lt])
    cases x <;> simp [Op.bytesLess, h]
  | a :: x, b :: k => by
    have ih := bl_zero x k
    simp only [List.cons_append, Op.bytesLess, ih]
    by_cases h : a = b
    · subst h
      simp [UInt8.lt_irrefl]
    · have h2 : (a == b) = false := by simpa using h
      simp [h2, h]
theorem less_zero (x k : ByteArray) : lessB x (k ++ (⟨#[0]⟩ : ByteArray)) = leB x k := by
  unfold leB lessB eqB
  have e : (k ++ (⟨#[0]⟩ : ByteArray)).toList = k.toList ++ [0] := by
    rw [ByteArray.toList_eq, ByteArray.toList_eq]
    simp [ByteArray.data_append]
  rw [e, bl_zero]
theorem inR_one (k x : ByteArray) : inR ⟨k, k ++ (⟨#[0]⟩ : ByteArray)⟩ x = eqB x k := by
  unfold inR
  dsimp only
  have h0 : eqB (k ++ (⟨#[0]⟩ : ByteArray)) ByteArray.empty = false := by
    rw [eqB_ne]
    intro h
    have := congrArg ByteArray.size h
    rw [ByteArray.size_append] at this
    have h1 : (⟨#[0]⟩ : ByteArray).size = 1 := rfl
    have h2 : ByteArray.empty.size = 0 := rfl
    omega
  rw [h0, less_zero, Bool.false_or]
  apply Bool.eq_iff_iff.mpr
  rw [Bool.and_eq_true, eqB_iff]
  constructor
  · rintro ⟨h1, h2⟩
    rw [leB_not, Bool.not_eq_true'] at h1 h2
    exact less_total h1 h2
  · rintro rfl
    exact ⟨leB_refl _, leB_refl _⟩
def pickE (k : ByteArray) (l : List TEvent) (i : Bool × ByteArray × ByteArray × Int) : Bool × ByteArray × ByteArray × Int := match lastFor k l with | some e => (!e.Del, k, e.Val, e.Rev) | none => i
theorem keyL1 (k : ByteArray) : ∀ (l : List TEvent) (i : Nat) (a : Bool) (b c : ByteArray) (d : Int), F_law05_EventKeys_L1 k l i a b c d = some (pickE k l (a, b, c, d))
  | [], _, _, _, _, _ => rfl
  | z :: l, i, a, b, c, d => by
    rw [F_law05_EventKeys_L1]
    unfold pickE lastFor
    cases h : eqB z.Key k with
    | true =>
      simp only [if_true, Option.bind_some]
      rw [keyL1 k l (i + 1)]
      unfold pickE
      cases lastFor k l <;> rfl
    | false =>
      simp only [Bool.false_eq_true, if_false, Option.bind_some]
      rw [keyL1 k l (i + 1)]
      unfold pickE
      cases lastFor k l <;> rfl
theorem keyL2 (k : ByteArray) : ∀ (m : List TKV) (i : Nat) (a : Bool) (b c : ByteArray) (d : Int), So m →
    (m.filter (fun t => eqB t.Key k) = [] ∧ F_law05_EventKeys_L2 k m i a b c d = some (a, b, c, d)) ∨ ∃ t, t.Key = k ∧ m.filter (fun t => eqB t.Key k) = [t] ∧ F_law05_EventKeys_L2 k m i a b c d = some (true, t.Key, t.Val, t.Rev)
  | [], _, _, _, _, _, _ => .inl ⟨rfl, rfl⟩
  | z :: m, i, a, b, c, d, hm => by
    have hm' := hm
    unfold So at hm
    rw [List.pairwise_cons] at hm
    rw [F_law05_EventKeys_L2, List.filter_cons]
    cases h : eqB z.Key k with
    | true =>
      simp only [if_true, Option.bind_some]
      have hz := eqB_iff.mp h
      have hn : m.filter (fun t => eqB t.Key k) = [] := by
        rw [List.filter_eq_nil_iff]
        intro t ht q
        have h1 := hm.1 t ht
        rw [eqB_iff.mp q, ← hz, less_irrefl] at h1
        cases h1
      rcases keyL2 k m (i + 1) true z.Key z.Val z.Rev hm.2 with ⟨_, h2⟩ | ⟨t, _, h1, _⟩
      · exact .inr ⟨z, hz, by rw [hn], h2⟩
      · rw [hn] at h1; cases h1
    | false =>
      simp only [Bool.false_eq_true, if_false, Option.bind_some]
      exact keyL2 k m (i + 1) a b c d hm.2
theorem keyF (k : ByteArray) (m : List TKV) (l : List TEvent) (hm : So m) : (l.foldl stepM m).filter (fun t => eqB t.Key k) = match lastFor k l with | some e => (if e.Del = true then [] else [kv e]) | none => m.filter (fun t => eqB t.Key k) := by
  have hs1 : So (match lastFor k l with | some e => (if e.Del = true then [] else [kv e]) | none => m.filter (fun t => eqB t.Key k)) := by
    cases lastFor k l with
    | none => exact hm.filter _
    | some e => dsimp only; split <;> simp [So]
  refine so_ext ((foldM_so l m hm).filter _) hs1 (fun t => ?_)
  rw [List.mem_filter, foldM_mem]
  constructor
  · rintro ⟨h1, h2⟩
    have hk := eqB_iff.mp h2
    subst hk
    cases h : lastFor t.Key l with
    | none => rw [h] at h1; exact List.mem_filter.mpr ⟨h1, h2⟩
    | some e => rw [h] at h1; dsimp only at h1 ⊢; rw [if_neg (by rw [h1.1]; simp), List.mem_singleton]; exact h1.2
  · intro h1
    cases h : lastFor k l with
    | none =>
      rw [h] at h1
      obtain ⟨h2, h3⟩ := List.mem_filter.mp h1
      have hk := eqB_iff.mp h3
      subst hk
      rw [h]
      exact ⟨h2, h3⟩
    | some e =>
      rw [h] at h1
      dsimp only at h1
      split at h1
      · cases h1
      · rename_i hd
        rw [List.mem_singleton] at h1
        have hk : t.Key = k := by rw [h1]; exact (lastFor_key h).2
        subst hk
        rw [h]
        exact ⟨⟨by simpa using hd, h1⟩, eqB_iff.mpr rfl⟩
theorem plain_EventKeys (p0 : List TKV) (p1 : List TEvent) (p2 : ByteArray) (w0 : (∀ a ∈ p0, W_TKV a) ∧ p0.length ≤ maxLen) (w1 : (∀ a ∈ p1, W_TEvent a) ∧ p1.length ≤ maxLen) (w2 : p2.size < 9223372036854775807) : ∃ n, F_law05_EventKeys n p0 p1 p2 = some true := by
  refine ⟨2000, ?_⟩
  unfold F_law05_EventKeys
  by_cases h1 : p1.length ≤ 60
  case neg =>
    have e1 : decide ((p1.length : Int) ≤ 60) = false := decide_eq_false (by omega)
    simp only [F_law05_few, Option.bind_some, e1, Bool.not_false, cond_true, if_true]
  have e1 : decide ((p1.length : Int) ≤ 60) = true := decide_eq_true (by omega)
  by_cases h0 : p0.length ≤ 60
  case neg =>
    have e0 : decide ((p0.length : Int) > 60) = true := decide_eq_true (by omega)
    simp only [F_law05_few, Option.bind_some, e1, e0, Bool.not_true, cond_false, if_true]
  have e0 : decide ((p0.length : Int) > 60) = false := decide_eq_false (by omega)
  simp only [F_law05_few, Option.bind_some, e1, e0, Bool.not_true, cond_false, Bool.false_eq_true, if_false]
  rcases map_eq p0 (by omega) with hm | ⟨hm, hso⟩
  · rw [hm]; simp only [Option.bind_some, Bool.not_false, if_true]
  · rw [hm]
    simp only [Option.bind_some, Bool.not_true, Bool.false_eq_true, if_false]
    have hlen := foldM_len p1 p0 hso
    have ha : addS p2 (⟨#[0]⟩ : ByteArray) = some (p2 ++ (⟨#[0]⟩ : ByteArray)) := by
      unfold addS
      have h1 : (⟨#[0]⟩ : ByteArray).size = 1 := rfl
      rw [if_pos (by omega)]
    have hfil : ∀ m : List TKV, m.filter (fun x => inR ⟨p2, p2 ++ (⟨#[0]⟩ : ByteArray)⟩ x.Key) = m.filter (fun t => eqB t.Key p2) := fun m => by
      simp only [inR_one]
    have hF := fold_eq p1 hso (n := 2000) (by omega) (by omega)
    have hR := filK (n := 2000) ⟨p2, p2 ++ (⟨#[0]⟩ : ByteArray)⟩ (p1.foldl stepM p0) (by omega) (by omega)
    rw [hfil, keyF p2 p0 p1 hso] at hR
    rcases keyL2 p2 p0 0 false ByteArray.empty ByteArray.empty 0 hso with ⟨g1, g2⟩ | ⟨t, g0, g1, g2⟩
    · rw [g2]; simp only [Option.bind_some]; rw [keyL1]; simp only [Option.bind_some]
      rw [hF]; simp only [Option.bind_some]; rw [ha]; simp only [Option.bind_some]; rw [hR]
      unfold pickE
      cases h : lastFor p2 p1 with
      | none => rw [g1]; rfl
      | some e =>
        have hk := (lastFor_key h).2
        cases hd : e.Del with
        | true => simp [hd]
        | false =>
          subst hk
          simp [hd, getI, kv, eq_TKV]
    · rw [g2]; simp only [Option.bind_some]; rw [keyL1]; simp only [Option.bind_some]
      rw [hF]; simp only [Option.bind_some]; rw [ha]; simp only [Option.bind_some]; rw [hR]
      unfold pickE
      cases h : lastFor p2 p1 with
      | none => rw [g1]; simp [getI, eq_TKV]
      | some e =>
        have hk := (lastFor_key h).2
        cases hd : e.Del with
        | true => simp [hd]
        | false =>
          subst hk
          simp [hd, getI, kv, eq_TKV]
end Go.Proofs.Ytcjcbcmapjcfnaa.V
