/- What a law is given, by types.
   No condition: these are laws of the clean machine. -/
import Derived.Test.YtadfhabapgipbaaV28
import Derived.OpenShut
namespace Go.Proofs.Ytadfhabapgipbaa.V
open Go
set_option linter.unusedVariables false
set_option linter.unusedSimpArgs false

def okI (k : IntKind) (x : Int) : Prop := (Lit.int k x).wf = true
theorem okI_i64 {x : Int} (h : okI .i64 x) : -9223372036854775808 ≤ x ∧ x ≤ 9223372036854775807 := by
  unfold okI at h
  simp [Lit.wf, IntKind.min, IntKind.max, IntKind.signed, IntKind.bits] at h
  omega
theorem okI_u8 {x : Int} (h : okI .u8 x) : 0 ≤ x ∧ x ≤ 255 := by
  unfold okI at h
  simp [Lit.wf, IntKind.min, IntKind.max, IntKind.signed, IntKind.bits] at h
  omega
theorem okI_u64 {x : Int} (h : okI .u64 x) : 0 ≤ x ∧ x ≤ 18446744073709551615 := by
  unfold okI at h
  simp [Lit.wf, IntKind.min, IntKind.max, IntKind.signed, IntKind.bits] at h
  omega

section
variable {H : Type} {enc : TypeId × Value → H} {P : Program} {W : World} {spare : Nat → Bool} {held : Bool}

/-- A type whose values in memory are read as such. -/
def OpenT {α : Type} (enc : TypeId × Value → H) (P : Program) (W : World) (spare : Nat → Bool) (held : Bool) (t : TypeId) (R : Rep α) (ok : α → Prop) : Prop :=
  ∀ fuel cs y, DataW.trod enc P W 0 spare held fuel t cs = some y → ∃ a : α, R.C (heap0 W) (cs.map flagS) a ∧ cs.all okC = true ∧ ok a

theorem open_RL {α : Type} {t e : TypeId} {R : Rep α} {ok : α → Prop} (ht : P.underlying t = some (.slice e)) (hk : P.cellsOf e = R.k) (hk0 : 0 < R.k) (he : OpenT enc P W spare held e R ok) {T : Nat} :
    OpenT enc P W spare held t (Rep.sl R T) (fun l => (∀ a ∈ l, ok a) ∧ l.length ≤ maxLen) := by
  intro fuel cs x hd
  rcases Go.Deep.open_slice ht hd with ⟨hc, _⟩ | ⟨a, len, cap, m, n, D, Pl, hc, _, hl, hm, hmm, _, hx⟩
  · subst hc
    exact ⟨[], ⟨none, 0, rfl, RL.nil _ _ _⟩, rfl, fun _ h => (by cases h), Nat.zero_le _⟩
  · subst hc
    have hlm : len ≤ m := by rw [hmm]; split <;> omega
    have hex : ∀ i, i < len → ∃ q : α, ∃ cs', W.cells? 0 (a.add (i * R.k)) R.k = some cs' ∧ R.C (heap0 W) (cs'.map flagS) q ∧ cs'.all okC = true ∧ ok q := by
      intro i hi
      obtain ⟨cs', h1, h2⟩ := hx i (by omega)
      rw [hk] at h1
      obtain ⟨q, h3, h4, h5⟩ := he _ _ _ h2
      exact ⟨q, cs', h1, h3, h4, h5⟩
    have build : ∀ n, n ≤ len → ∃ l : List α, l.length = n ∧ ∀ (i : Nat) (q : α), l[i]? = some q → ∃ cs', W.cells? 0 (a.add (i * R.k)) R.k = some cs' ∧ R.C (heap0 W) (cs'.map flagS) q ∧ cs'.all okC = true ∧ ok q := by
      intro n
      induction n with
      | zero => intro _; exact ⟨[], rfl, fun i q h => by simp at h⟩
      | succ n ih =>
        intro hn
        obtain ⟨l, h1, h2⟩ := ih (by omega)
        obtain ⟨q, hq⟩ := hex n (by omega)
        refine ⟨l ++ [q], by simp [h1], fun i r hr => ?_⟩
        rw [List.getElem?_append] at hr
        split at hr
        · exact h2 i r hr
        · rename_i hlt
          cases e : i - l.length with
          | zero =>
            rw [e] at hr
            have : i = n := by omega
            subst this
            have : q = r := by simpa using hr
            subst this
            exact hq
          | succ j => rw [e] at hr; simp at hr
    obtain ⟨l, h1, h2⟩ := build len (Nat.le_refl _)
    subst h1
    refine ⟨l, ⟨some (flagA a), cap, rfl, ⟨?_, hl, ?_, ?_⟩⟩, rfl, ?_, by omega⟩
    · have : maxLen = 9223372036854775807 := rfl
      omega
    · intro i q e
      obtain ⟨cs', g1, g2, g3, _⟩ := h2 i q e
      obtain ⟨_, gl, gc⟩ := World.cells?_some g1
      have hs : a.spot = none := by
        have hl0 : 0 < l.length := by
          rcases Nat.lt_or_ge i l.length with q | q
          · omega
          · rw [List.getElem?_eq_none q] at e; cases e
        obtain ⟨cs0, f1, _, _, _⟩ := h2 0 (l[0]) (List.getElem?_eq_getElem hl0)
        obtain ⟨_, fl, fc⟩ := World.cells?_some f1
        have f0 := fc 0 (by omega)
        cases hs : a.spot with
        | none => rfl
        | some s =>
          exfalso
          have : W.cell? ((a.add (0 * R.k)).add 0) = none := by
            unfold World.cell?
            split
            · have : (((a.add (0 * R.k)).add 0).spot) = some s := by rw [Nat.zero_mul]; unfold Addr.add; simpa using hs
              rw [this]; rfl
            · rfl
          rw [this] at f0
          cases cs0 with
          | nil => simp at fl; omega
          | cons _ _ => cases f0
      obtain ⟨b, o, s⟩ := a
      cases hs
      refine ⟨flagA ⟨b, o, none⟩, ⟨b, o + i * R.k, some 1⟩, cs'.map flagS, rfl, rfl, ?_, g2⟩
      show baseCells (heap0 W) b (o + i * R.k) R.k = some (cs'.map flagS)
      refine base_cells (W := W) (cs := cs') rfl gl (fun j w hw => ?_)
      have hj : j < R.k := by
        rcases Nat.lt_or_ge j R.k with q | q
        · exact q
        · rw [List.getElem?_eq_none (by omega)] at hw; cases hw
      have := gc j hj
      rw [hw] at this
      have ad : ((⟨b, o, none⟩ : Addr).add (i * R.k)).add j = ⟨b, o + i * R.k + j, none⟩ := by
        unfold Addr.add; split <;> split <;> simp_all
      rw [ad] at this
      exact ⟨this, List.all_eq_true.mp g3 w (List.mem_of_getElem? hw)⟩
    · intro a0 e1 e2
      cases e1
      unfold flagA at e2
      split at e2
      · cases e2
      · cases e2
    · intro q hq
      obtain ⟨i, hi⟩ := List.mem_iff_getElem?.mp hq
      obtain ⟨_, _, _, _, h⟩ := h2 i q hi
      exact h
theorem open_int {t : TypeId} {k : IntKind} (ht : P.underlying t = some (.int k)) {T : Nat} : OpenT enc P W spare held t (RI_ k T) (okI k) := by
  intro fuel cs y h
  obtain ⟨x, e, _, w⟩ := DataW.trod_int ht h
  subst e
  exact ⟨x, rfl, rfl, w⟩
theorem open_str {t : TypeId} (ht : P.underlying t = some .string) {T : Nat} : OpenT enc P W spare held t (RS_ T) (fun x => x.size ≤ maxLen) := by
  intro fuel cs y h
  obtain ⟨x, e, _, w⟩ := DataW.trod_string ht h
  subst e
  exact ⟨x, rfl, rfl, w⟩
theorem open_bool {t : TypeId} (ht : P.underlying t = some .bool) {T : Nat} : OpenT enc P W spare held t (RB_ T) (fun _ => True) := by
  intro fuel cs y h
  obtain ⟨x, e, _⟩ := DataW.trod_bool ht h
  subst e
  exact ⟨x, rfl, rfl, trivial⟩
end
theorem okWide_arr {P : Program} {w : World} {base : Nat} {t e : TypeId} {n : Nat} {v : Value} (ht : P.underlying t = some (.array n e)) (h : Value.okWide P w .any base t v) : ∃ cs, v = .agg cs := by
  simp only [Value.okWide, ht] at h
  obtain ⟨cs, h1, _⟩ := h
  exact ⟨cs, h1⟩
theorem VRs_of {β : Inj} {cs : List Value} (h : cs.all okC = true) : VRs β (cs.map flagS) cs := flagS_oks h β
end Go.Proofs.Ytadfhabapgipbaa.V
