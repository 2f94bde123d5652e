/- What is given, opened, with what the strings in it weigh.
   No condition: these are laws of the clean machine. -/
import Derived.Test.YtndhbaidibioeaaGreatVQ
import Derived.SizedLaws
namespace Go.Proofs.YtndhbaidibioeaaGreat.V
open Go
set_option linter.unusedVariables false
set_option linter.unusedSimpArgs false
theorem weightsAll_in {H : Type} {P : Program} {e : TypeId} : ∀ {l : List (DataW H)} {d : DataW H}, d ∈ l → ∀ n ∈ d.weights P e, n ∈ DataW.weightsAll P e l
 | d' :: r, d, hd, n, hn => by
  simp only [DataW.weightsAll, List.mem_append]
  rcases List.mem_cons.1 hd with rfl | h
  ·
   exact Or.inl hn
  ·
   exact Or.inr (weightsAll_in h n hn)
section
variable {H : Type} {enc : TypeId × Value → H} {P : Program} {W : World} {spare : Nat → Bool} {held : Bool}
def OpenW {α : Type} (enc : TypeId × Value → H) (P : Program) (W : World) (spare : Nat → Bool) (held : Bool) (t : TypeId) (R : Rep α) (ok : α → Prop) : Prop :=
 ∀ fuel cs y, DataW.trod enc P W 0 spare held fuel t cs = some y → (∀ n ∈ y.1.weights P t, n ≤ reachBytes) → ∃ a : α, R.C (heap0 W) (cs.map flagS) a ∧ cs.all okC = true ∧ ok a
theorem open_strW {t : TypeId} (ht : P.underlying t = some .string) {T : Nat} : OpenW enc P W spare held t (RS_ T) (fun x => x.size ≤ reachBytes) := by
 intro fuel cs y h hw
 obtain ⟨x, e, e2, w⟩ := DataW.trod_string ht h
 subst e
 subst e2
 refine ⟨x, rfl, rfl, ?_⟩
 have := hw x.data.toList.length (by simp [DataW.weights])
 exact this
theorem wpart {t : TypeId} {fs : Array Field} {xs : List (DataW H × List MemPlace)} {i : Nat} {f : Field} {x : DataW H × List MemPlace} {B : Nat} (hu : P.underlying t = some (.struct fs)) (hw : ∀ n ∈ (DataW.agg (xs.map (·.1))).weights P t, n ≤ B) (hf : fs[i]? = some f) (hx : xs[i]? = some x) : ∀ n ∈ x.1.weights P f.type, n ≤ B := by
 intro n hn
 refine hw n ?_
 simp only [DataW.weights, hu]
 exact DataW.weights_mem_each (j := i) (by simp [hf]) (by simp [hx]) n hn
theorem open_RLW {α : Type} {t e : TypeId} {R : Rep α} {ok : α → Prop} (ht : P.underlying t = some (.slice e)) (hk : P.cellsOf e = R.k) (hk0 : 0 < R.k) (he : OpenW enc P W spare held e R ok) {T : Nat} :
 OpenW enc P W spare held t (Rep.sl R T) (fun l => (∀ a ∈ l, ok a) ∧ l.length ≤ maxLen) := by
 intro fuel cs x hd hw
 rcases Go.Deep.open_slice ht hd with ⟨hc, _⟩ | ⟨a, len, cap, m, n, D, Pl, hc, _, hl, hm, hmm, hxe, hx⟩
 ·
  subst hc
  exact ⟨[], ⟨none, 0, rfl, RL.nil _ _ _⟩, rfl, fun _ h => (by cases h), Nat.zero_le _⟩
 ·
  subst hc
  have hlm : len ≤ m := by rw [hmm]; split <;> omega
  have hex : ∀ i, i < len → ∃ q : α, ∃ cs', W.cells? 0 (a.add (i * R.k)) R.k = some cs' ∧ R.C (heap0 W) (cs'.map flagS) q ∧ cs'.all okC = true ∧ ok q := by
   intro i hi
   obtain ⟨cs', h1, h2⟩ := hx i (by omega)
   rw [hk] at h1
   obtain ⟨q, h3, h4, h5⟩ := he _ _ _ h2 (fun n hn => hw n (by rw [hxe]; simp only [DataW.weights, ht, List.mem_cons, List.mem_append]; exact .inr (.inl (weightsAll_in (List.mem_map_of_mem (List.mem_range.mpr hi)) n hn))))
   exact ⟨q, cs', h1, h3, h4, h5⟩
  have build : ∀ n, n ≤ len → ∃ l : List α, l.length = n ∧ ∀ (i : Nat) (q : α), l[i]? = some q → ∃ cs', W.cells? 0 (a.add (i * R.k)) R.k = some cs' ∧ R.C (heap0 W) (cs'.map flagS) q ∧ cs'.all okC = true ∧ ok q := by
   intro n
   induction n with
   | zero => intro _; exact ⟨[], rfl, fun i q h => by simp at h⟩
   | succ n ih =>
    intro hn
    obtain ⟨l, h1, h2⟩ := ih (by omega)
    obtain ⟨q, hq⟩ := hex n (by omega)
    refine ⟨l ++ [q], by simp [h1], fun i r hr => ?_⟩
    rw [List.getElem?_append] at hr
    split at hr
    ·
     exact h2 i r hr
    ·
     rename_i hlt
     cases e : i - l.length with
     | zero =>
      rw [e] at hr
      have : i = n := by omega
      subst this
      have : q = r := by simpa using hr
      subst this
      exact hq
     | succ j => rw [e] at hr; simp at hr
  obtain ⟨l, h1, h2⟩ := build len (Nat.le_refl _)
  subst h1
  refine ⟨l, ⟨some (flagA a), cap, rfl, ⟨?_, hl, ?_, ?_⟩⟩, rfl, ?_, by omega⟩
  ·
   have : maxLen = 9223372036854775807 := rfl
   omega
  ·
   intro i q e
   obtain ⟨cs', g1, g2, g3, _⟩ := h2 i q e
   obtain ⟨_, gl, gc⟩ := World.cells?_some g1
   have hs : a.spot = none := by
    have hl0 : 0 < l.length := by
     rcases Nat.lt_or_ge i l.length with q | q
     ·
      omega
     ·
      rw [List.getElem?_eq_none q] at e; cases e
    obtain ⟨cs0, f1, _, _, _⟩ := h2 0 (l[0]) (List.getElem?_eq_getElem hl0)
    obtain ⟨_, fl, fc⟩ := World.cells?_some f1
    have f0 := fc 0 (by omega)
    cases hs : a.spot with
    | none => rfl
    | some s =>
     exfalso
     have : W.cell? ((a.add (0 * R.k)).add 0) = none := by
      unfold World.cell?
      split
      ·
       have : (((a.add (0 * R.k)).add 0).spot) = some s := by rw [Nat.zero_mul]; unfold Addr.add; simpa using hs
       rw [this]; rfl
      ·
       rfl
     rw [this] at f0
     cases cs0 with
     | nil => simp at fl; omega
     | cons _ _ => cases f0
   obtain ⟨b, o, s⟩ := a
   cases hs
   refine ⟨flagA ⟨b, o, none⟩, ⟨b, o + i * R.k, some 1⟩, cs'.map flagS, rfl, rfl, ?_, g2⟩
   show baseCells (heap0 W) b (o + i * R.k) R.k = some (cs'.map flagS)
   refine base_cells (W := W) (cs := cs') rfl gl (fun j w hw => ?_)
   have hj : j < R.k := by
    rcases Nat.lt_or_ge j R.k with q | q
    ·
     exact q
    ·
     rw [List.getElem?_eq_none (by omega)] at hw; cases hw
   have := gc j hj
   rw [hw] at this
   have ad : ((⟨b, o, none⟩ : Addr).add (i * R.k)).add j = ⟨b, o + i * R.k + j, none⟩ := by
    unfold Addr.add; split <;> split <;> simp_all
   rw [ad] at this
   exact ⟨this, List.all_eq_true.mp g3 w (List.mem_of_getElem? hw)⟩
  ·
   intro a0 e1 e2
   cases e1
   unfold flagA at e2
   split at e2
   ·
    cases e2
   ·
    cases e2
  ·
   intro q hq
   obtain ⟨i, hi⟩ := List.mem_iff_getElem?.mp hq
   obtain ⟨_, _, _, _, h⟩ := h2 i q hi
   exact h
end
end Go.Proofs.YtndhbaidibioeaaGreat.V
