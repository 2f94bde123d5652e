/- The plain law of SubidxTurns.
   No condition: this is a law of plain functions. -/
import Derived.Test.YthgcmcifhhkebaaSv
namespace Go.Proofs.Ythgcmcifhhkebaa.V
open Go
set_option linter.unusedVariables false
set_option linter.unusedSimpArgs false

theorem turnsC (x8 : List Tsubidx_Sub × Osubidx_Index) : ∀ (l : List Tsubidx_Sub) (i : Nat), x8.1.drop i = l → F_law11_SubidxTurns_L1 x8 l i = some (.go ()) := by
  intro l
  induction l with
  | nil => intro i _; rfl
  | cons z l ih =>
    intro i h
    have h0 : x8.1[i]? = some z := by
      have : (x8.1.drop i)[0]? = some z := by rw [h]; rfl
      rw [List.getElem?_drop] at this; exact this
    have h1 : x8.1.drop (i + 1) = l := by rw [← List.drop_drop, h]; rfl
    rw [F_law11_SubidxTurns_L1, getI_nat, h0]
    simp only [Option.bind_some, eqSub_self, Bool.not_true, Bool.false_eq_true, if_false]
    exact ih (i + 1) h1
theorem turnsJ (p0 : List Timpostref11_Sub) (z : Timpostref11_Sub) (i : Nat) (hi : i ≤ p0.length) (hl : p0.length ≤ 40) : ∀ (f j : Nat), j ≤ i → i - j < f →
    F_law11_SubidxTurns_L4 p0 i z f (j : Int) = some (.out true) ∨ (∃ u, F_law11_SubidxTurns_L4 p0 i z f (j : Int) = some (.go u) ∧ ∀ q x, j ≤ q → q < i → p0[q]? = some x → z.Id ≠ x.Id) := by
  intro f
  induction f with
  | zero => intro j _ h; omega
  | succ f ih =>
    intro j h1 h2
    rw [F_law11_SubidxTurns_L4]
    rcases Nat.lt_or_ge j i with q | q
    · have hx := List.getElem?_eq_getElem (show j < p0.length by omega)
      rw [if_pos (by simpa using q), getI_nat, hx]
      simp only [Option.bind_some]
      by_cases e : (z.Id == p0[j].Id) = true
      · rw [if_pos e]; exact .inl rfl
      · rw [if_neg e, wrap_id (by omega) (by omega), show (j : Int) + 1 = ((j + 1 : Nat) : Int) by omega]
        rcases ih (j + 1) (by omega) (by omega) with r | ⟨u, r1, r2⟩
        · exact .inl r
        · refine .inr ⟨u, r1, fun w x hw1 hw2 hx' => ?_⟩
          rcases Nat.lt_or_ge j w with s | s
          · exact r2 w x (by omega) hw2 hx'
          · have : w = j := by omega
            subst this
            rw [hx] at hx'
            cases hx'
            simpa using e
    · rw [if_neg (by simp; omega)]
      exact .inr ⟨_, rfl, fun w x hw1 hw2 _ => by omega⟩
theorem turnsI {n : Nat} (hn : 100 < n) (p0 : List Timpostref11_Sub) (hl : p0.length ≤ 40) : ∀ (l : List Timpostref11_Sub) (i : Nat), p0.drop i = l → i ≤ p0.length →
    F_law11_SubidxTurns_L3 n p0 l i = some (.out true) ∨ (F_law11_SubidxTurns_L3 n p0 l i = some (.go ()) ∧ ∀ (a b : Nat) (x y : Timpostref11_Sub), i ≤ a → b < a → p0[a]? = some x → p0[b]? = some y → x.Id ≠ y.Id) := by
  intro l
  induction l with
  | nil =>
    intro i h hi
    refine .inr ⟨rfl, fun a b x y h1 h2 hx _ => ?_⟩
    have h3 := List.drop_eq_nil_iff.mp h
    rw [List.getElem?_eq_none (by omega)] at hx; cases hx
  | cons z l ih =>
    intro i h hi
    have h0 : p0[i]? = some z := by
      have : (p0.drop i)[0]? = some z := by rw [h]; rfl
      rw [List.getElem?_drop] at this; exact this
    have hlt := (List.getElem?_eq_some_iff.mp h0).1
    have h1 : p0.drop (i + 1) = l := by rw [← List.drop_drop, h]; rfl
    rw [F_law11_SubidxTurns_L3]
    rcases turnsJ p0 z i hi hl n 0 (Nat.zero_le _) (by omega) with r | ⟨u, r1, r2⟩
    · rw [show (0 : Int) = ((0 : Nat) : Int) from rfl, r]; exact .inl rfl
    · rw [show (0 : Int) = ((0 : Nat) : Int) from rfl, r1]
      simp only [Option.bind_some, lpK2]
      rcases ih (i + 1) h1 hlt with s | ⟨s1, s2⟩
      · exact .inl s
      · refine .inr ⟨s1, fun a b x y ha hb hx hy => ?_⟩
        rcases Nat.lt_or_ge i a with q | q
        · exact s2 a b x y q hb hx hy
        · have : a = i := by omega
          subst this
          rw [h0] at hx
          cases hx
          exact r2 b y (Nat.zero_le _) hb hy
/-- The other turn. -/
def rot (len b i : Nat) : Nat := len - 1 - (i + b) % len
theorem rot_lt {len b i : Nat} (h : 0 < len) : rot len b i < len := by unfold rot; omega
theorem addmod {len b i : Nat} (h : i < len) : (i + b) % len = if i + b % len < len then i + b % len else i + b % len - len := by
  have hb := Nat.mod_lt b (show 0 < len by omega)
  rw [Nat.add_mod, Nat.mod_eq_of_lt h]
  split
  · exact Nat.mod_eq_of_lt (by assumption)
  · rw [Nat.mod_eq_sub_mod (by omega), Nat.mod_eq_of_lt (by omega)]
theorem rot_inj {len b i j : Nat} (hi : i < len) (hj : j < len) (h : rot len b i = rot len b j) : i = j := by
  have hb := Nat.mod_lt b (show 0 < len by omega)
  have h1 := Nat.mod_lt (i + b) (show 0 < len by omega)
  have h2 := Nat.mod_lt (j + b) (show 0 < len by omega)
  have e : (i + b) % len = (j + b) % len := by unfold rot at h; omega
  rw [addmod hi, addmod hj] at e
  split at e <;> split at e <;> omega
theorem rot_onto {len b q : Nat} (hq : q < len) : ∃ i, i < len ∧ rot len b i = q := by
  have hb := Nat.mod_lt b (show 0 < len by omega)
  rcases Nat.lt_or_ge (len - 1 - q) (b % len) with h | h
  · refine ⟨len - 1 - q + len - b % len, by omega, ?_⟩
    unfold rot
    rw [addmod (by omega)]
    split <;> omega
  · refine ⟨len - 1 - q - b % len, by omega, ?_⟩
    unfold rot
    rw [addmod (by omega)]
    split <;> omega
/-- What is there, when these have come. -/
def Has_ (p0 : List Timpostref11_Sub) (f : Nat → Nat) (i : Nat) (ns : List Tsubidx_node) : Prop :=
  ∀ t, t ∈ ns.map (·.Sub) ↔ ∃ j x, j < i ∧ p0[f j]? = some x ∧ emptyR x.R = false ∧ t = mk x
theorem step_ {n : Nat} {p0 : List Timpostref11_Sub} {f : Nat → Nat} {i : Nat} {ns : List Tsubidx_node} {x : Timpostref11_Sub} (hn : 1001 < n)
    (hd : ∀ (a b : Nat) (x y : Timpostref11_Sub), a ≠ b → p0[a]? = some x → p0[b]? = some y → x.Id ≠ y.Id) (hf : ∀ j, j < i → f j ≠ f i) (hx : p0[f i]? = some x)
    (hv : Inx ns) (hl : ns.length ≤ i) (hi : i ≤ 40) (hs : Has_ p0 f i ns) :
    ∃ e ns', F_subidx_Index_Add n ⟨ns⟩ (mk x) = some (e, ⟨ns'⟩) ∧ Inx ns' ∧ ns'.length ≤ i + 1 ∧ Has_ p0 f (i + 1) ns' ∧ ((e == 0) == emptyR x.R) = false := by
  obtain ⟨e, ns', h1, h2, h3⟩ := add_eq (n := n) (mk x) hv (by omega) hn
  have hE : emptyR (mk x).R = emptyR x.R := rfl
  rw [hE] at h3
  rcases h3 with ⟨b1, b2, b3⟩ | ⟨b1, ⟨t, ht, b2⟩, b3, b4⟩ | ⟨b1, b2, b3, b4, b5⟩
  · subst b2 b3
    refine ⟨1, ns', h1, h2, by omega, fun t => ?_, by rw [b1]; rfl⟩
    rw [hs]
    constructor
    · rintro ⟨j, y, hj, q⟩; exact ⟨j, y, by omega, q⟩
    · rintro ⟨j, y, hj, q1, q2, q3⟩
      rcases Nat.lt_or_ge j i with r | r
      · exact ⟨j, y, r, q1, q2, q3⟩
      · have : j = i := by omega
        subst this
        rw [hx] at q1; cases q1
        rw [b1] at q2; cases q2
  · exfalso
    obtain ⟨j, y, hj, q1, q2, q3⟩ := (hs t).mp ht
    subst q3
    exact hd (f j) (f i) y x (hf j hj) q1 hx b2
  · subst b3
    refine ⟨0, ns', h1, h2, by omega, fun t => ?_, by rw [b1]; rfl⟩
    rw [b4, hs]
    constructor
    · rintro (q | ⟨j, y, hj, q⟩)
      · exact ⟨i, x, by omega, hx, b1, q⟩
      · exact ⟨j, y, by omega, q⟩
    · rintro ⟨j, y, hj, q1, q2, q3⟩
      rcases Nat.lt_or_ge j i with r | r
      · exact .inr ⟨j, y, r, q1, q2, q3⟩
      · have : j = i := by omega
        subst this
        rw [hx] at q1; cases q1
        exact .inl q3
theorem turnsL {n : Nat} (hn : 1001 < n) (p0 : List Timpostref11_Sub) (b : Nat) (hb : b ≤ 255) (hl : p0.length ≤ 40) (hd : ∀ (a b : Nat) (x y : Timpostref11_Sub), a ≠ b → p0[a]? = some x → p0[b]? = some y → x.Id ≠ y.Id) :
    ∀ (l : List Timpostref11_Sub) (i : Nat) (ys xs : List Tsubidx_node), p0.drop i = l → i ≤ p0.length → Inx xs → Inx ys → xs.length ≤ i → ys.length ≤ i → Has_ p0 (fun j => j) i xs → Has_ p0 (rot p0.length b) i ys →
    ∃ ys' xs', F_law11_SubidxTurns_L2 n p0 (b : Int) l i ys xs = some (.go (ys', xs')) ∧ Inx xs' ∧ Inx ys' ∧ xs'.length ≤ 40 ∧ ys'.length ≤ 40 ∧ Has_ p0 (fun j => j) p0.length xs' ∧ Has_ p0 (rot p0.length b) p0.length ys' := by
  intro l
  induction l with
  | nil =>
    intro i ys xs h hi h1 h2 h3 h4 h5 h6
    have e := List.drop_eq_nil_iff.mp h
    have : i = p0.length := by omega
    subst this
    exact ⟨ys, xs, rfl, h1, h2, by omega, by omega, h5, h6⟩
  | cons z l ih =>
    intro i ys xs h hi h1 h2 h3 h4 h5 h6
    have h0 : p0[i]? = some z := by
      have : (p0.drop i)[0]? = some z := by rw [h]; rfl
      rw [List.getElem?_drop] at this; exact this
    have hlt := (List.getElem?_eq_some_iff.mp h0).1
    have hdr : p0.drop (i + 1) = l := by rw [← List.drop_drop, h]; rfl
    have hr := rot_lt (b := b) (i := i) (show 0 < p0.length by omega)
    have hg := List.getElem?_eq_getElem hr
    obtain ⟨e, xs', a1, a2, a3, a4, a5⟩ := step_ (n := n) (p0 := p0) (f := fun j => j) (i := i) hn hd (fun j hj => by omega) h0 h1 h3 (by omega) h5
    obtain ⟨e', ys', b1, b2, b3, b4, b5⟩ := step_ (n := n) (p0 := p0) (f := rot p0.length b) (i := i) hn hd (fun j hj e => by have := rot_inj (by omega) hlt e; omega) hg h2 h4 (by omega) h6
    rw [F_law11_SubidxTurns_L2, made_eq]
    simp only [Option.bind_some]
    rw [a1]
    simp only [Option.bind_some]
    have hrem : remI (IntKind.i64.wrap ((i : Int) + IntKind.i64.wrap (b : Int))) (p0.length : Int) = some (((i + b) % p0.length : Nat) : Int) := by
      rw [wrap_id (n := (b : Int)) (by omega) (by omega), wrap_id (by omega) (by omega)]
      unfold remI
      rw [if_neg (by omega), Int.tmod_eq_emod_of_nonneg (by omega)]
      congr 1
    have hm := Nat.mod_lt (i + b) (show 0 < p0.length by omega)
    have hidx : IntKind.i64.wrap (IntKind.i64.wrap ((p0.length : Int) - 1) - (((i + b) % p0.length : Nat) : Int)) = ((rot p0.length b i : Nat) : Int) := by
      rw [wrap_id (n := (p0.length : Int) - 1) (by omega) (by omega), wrap_id (by omega) (by omega)]
      unfold rot; omega
    rw [hrem]
    simp only [Option.bind_some]
    rw [hidx, getI_nat, hg]
    simp only [Option.bind_some, made_eq]
    rw [b1]
    simp only [Option.bind_some, refEmpty_eq]
    rw [a5]
    simp only [Bool.false_eq_true, if_false]
    exact ih (i + 1) ys' xs' hdr hlt a2 b2 a3 b3 a4 b4
theorem plain_SubidxTurns (p0 : List Timpostref11_Sub) (p1 : ByteArray) (p2 : Int) (w0 : (∀ a ∈ p0, W_Timpostref11_Sub a) ∧ p0.length ≤ maxLen) (w1 : p1.size ≤ maxLen) (w2 : okI .u8 p2) : ∃ n, F_law11_SubidxTurns n p0 p1 p2 = some true := by
  refine ⟨2000, ?_⟩
  have hp := okI_u8 w2
  obtain ⟨b, rfl⟩ : ∃ b : Nat, p2 = (b : Int) := ⟨p2.toNat, by omega⟩
  unfold F_law11_SubidxTurns F_subidx_New
  by_cases hl : p0.length > 40
  · rw [if_pos (by simp; omega)]
  · rw [if_neg (by simp; omega)]
    rcases turnsI (n := 2000) (by omega) p0 (by omega) p0 0 rfl (Nat.zero_le _) with r | ⟨r1, r2⟩
    · rw [r]; rfl
    · rw [r1]
      simp only [Option.bind_some, lpK]
      have hd : ∀ (a b : Nat) (x y : Timpostref11_Sub), a ≠ b → p0[a]? = some x → p0[b]? = some y → x.Id ≠ y.Id := by
        intro a b x y hab hx hy
        rcases Nat.lt_or_ge a b with q | q
        · exact (r2 b a y x (Nat.zero_le _) q hy hx).symm
        · exact r2 a b x y (Nat.zero_le _) (by omega) hx hy
      have h00 : ∀ f, Has_ p0 f 0 [] := by
        intro f t
        constructor
        · intro h; cases h
        · rintro ⟨j, x, hj, _⟩; omega
      obtain ⟨ys, xs, h1, h2, h3, h4, h5, h6, h7⟩ := turnsL (n := 2000) (by omega) p0 b (by omega) (by omega) hd p0 0 [] [] rfl (Nat.zero_le _) Inx.nil Inx.nil (by simp) (by simp) (h00 _) (h00 _)
      rw [h1]
      simp only [Option.bind_some]
      have hsame : xs.map (·.Sub) = ys.map (·.Sub) := sorted_ext bef_irr bef_asym h2.so h3.so (fun t => by
        rw [h6, h7]
        constructor
        · rintro ⟨j, x, hj, q⟩
          obtain ⟨i, hi, e⟩ := rot_onto (b := b) hj
          exact ⟨i, x, hi, by rw [e]; exact q⟩
        · rintro ⟨j, x, hj, q⟩
          exact ⟨rot p0.length b j, x, rot_lt (by omega), q⟩)
      rw [all_eq (by omega), all_eq (by omega)]
      simp only [Option.bind_some]
      rw [hsame, if_neg (by simp), turnsC (ys.map (·.Sub), ⟨ys⟩) (ys.map (·.Sub)) 0 rfl]
      simp only [Option.bind_some]
      obtain ⟨r, k1, k2, k3, _⟩ := stab_eq (n := 2000) p1 5 h2 (by omega) (by omega)
      obtain ⟨r', m1, m2, m3, _⟩ := stab_eq (n := 2000) p1 5 h3 (by omega) (by omega)
      have e : r = r' := int_ext k2 m2 (fun x => by rw [k3, m3, hsame])
      subst e
      rw [k1, m1]
      simp only [Option.bind_some, ints_eq]
end Go.Proofs.Ythgcmcifhhkebaa.V
