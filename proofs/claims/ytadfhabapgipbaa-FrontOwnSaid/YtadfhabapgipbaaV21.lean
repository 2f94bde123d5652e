/- From the clean machine to the world: what a law's arguments are, and what its run tells.
   No condition: these are laws of the clean machine. -/
import Derived.Test.YtadfhabapgipbaaV20
import Derived.Deep.Slices
import Derived.ChangeArms
import Derived.WideShapes
namespace Go.Proofs.Ytadfhabapgipbaa.V
open Go
set_option linter.unusedVariables false
set_option linter.unusedSimpArgs false

/-! ### The memory that was there -/
def flagA (a : Addr) : Addr := match a.spot with
  | none => ⟨a.block, a.off, some 1⟩
  | some s => ⟨a.block, a.off, some (s + 3)⟩
def flagS : Value → Value
  | .slice (some a) l c => .slice (some (flagA a)) l c
  | .pointer (some a) => .pointer (some (flagA a))
  | v => v
def okC : Value → Bool
  | .bool _ | .int _ _ | .string _ | .slice _ _ _ | .pointer _ => true
  | _ => false

theorem flagA_ok (β : Inj) (a : Addr) : AR β (flagA a) a := by
  obtain ⟨b, o, s⟩ := a
  cases s with
  | none => exact .base
  | some s => exact .odd
theorem flagS_ok {v : Value} (h : okC v = true) (β : Inj) : VR β (flagS v) v := by
  cases v with
  | bool b => exact .bool b
  | int k n => exact .int k n
  | string s => exact .string s
  | slice a l c =>
    cases a with
    | none => exact .sliceNil l c
    | some a => exact .slice (flagA_ok β a) l c
  | pointer a =>
    cases a with
    | none => exact .ptrNil
    | some a => exact .ptr (flagA_ok β a)
  | _ => cases h
theorem flagS_oks {l : List Value} (h : l.all okC = true) (β : Inj) : VRs β (l.map flagS) l := by
  induction l with
  | nil => exact .nil
  | cons v l ih =>
    rw [List.all_cons, Bool.and_eq_true] at h
    exact .cons (flagS_ok h.1 β) (ih h.2)

def baseOf (W : World) (b o : Nat) : Option Value := match W.cell? ⟨b, o, none⟩ with
  | some v => bif okC v then some (flagS v) else none
  | none => none
def heap0 (W : World) : Heap := ⟨baseOf W, 0, 0, .nil⟩

theorem heap0_get (W : World) (b : Nat) : (heap0 W).get b = none := rfl
theorem heap0_wf (W : World) : Wf (heap0 W) := ⟨fun b o h => (by rw [heap0_get] at h; cases h), Nat.le_refl 0⟩

theorem sim0 (P : Program) (W : World) : Sim P (fun k => W.heap.size ≤ k) (fun _ => none) (heap0 W) W where
  base := by
    intro b o v h
    have h' : baseOf W b o = some v := h
    unfold baseOf at h'
    split at h'
    · rename_i v' hc
      cases e : okC v' with
      | false => rw [e] at h'; cases h'
      | true =>
        rw [e] at h'
        cases h'
        exact ⟨fun hle => absurd (cell_lt hc) (Nat.not_lt.mpr hle), v', hc, flagS_ok e⟩
    · cases h'
  dom := fun b x h => by cases h
  tdom := fun b o h => by cases h
  live := fun b c T h => by cases h
  liveM := fun b es h => by cases h
  inj := fun b1 b2 x1 x2 _ _ h => by cases h
  wr := fun b x _ _ h => by cases h
  fresh := fun k h => h
  img := fun b x h => by cases h

theorem law_ok {E : Env} (hE : SideOK E) {f : FuncId} {args : List Value} {args' : Array Value} {W : World} (ha : ∀ β, VRs β args args'.toList)
    (hr : Ev E f args (heap0 W) (fun v _ => v = .bool true)) : Calls E.P f args' W (fun e w' => e = .returned (.bool true) ∧ RowKit.Below W.heap.size W w') := by
  obtain ⟨n, v, h', hrun, _, rfl⟩ := hr
  refine (run_ok hE n f args _ _ _ hrun _ _ W args' (sim0 E.P W) (ha _)).mono ?_
  rintro e w' ⟨v', β', rfl, _, _, hv, hf, _⟩
  cases hv
  exact ⟨rfl, hf.os, hf.tape, hf.output, hf.size, fun k hk => hf.block k (Nat.not_le.mpr hk)⟩

/-! ### A slice's rows -/
/-- A slice of rows. -/
def SLv (h : Heap) (k : Nat) (v : Value) (rows : List (List Value)) : Prop := ∃ a cap, v = .slice a rows.length cap ∧ SL h k a rows
theorem SLv.ext {h h' : Heap} (e : Kn h h') {k : Nat} {v : Value} {rows : List (List Value)} (s : SLv h k v rows) : SLv h' k v rows := by
  obtain ⟨a, cap, h1, h2⟩ := s
  exact ⟨a, cap, h1, h2.ext e⟩
theorem SLv.nil (h : Heap) (k cap : Nat) (a : Option Addr) : SLv h k (.slice a 0 cap) [] := ⟨a, cap, rfl, fun i r hr => by simp at hr⟩

theorem base_cells {W : World} {b : Nat} {cs : List Value} {h : Heap} (hb : h.base = baseOf W) : ∀ {n o : Nat} {cs : List Value}, cs.length = n → (∀ i v, cs[i]? = some v → W.cell? ⟨b, o + i, none⟩ = some v ∧ okC v = true) →
    baseCells h b o n = some (cs.map flagS) := by
  intro n
  induction n with
  | zero => intro o cs hl _; cases cs with
    | nil => rfl
    | cons v cs => cases hl
  | succ n ih =>
    intro o cs hl hc
    cases cs with
    | nil => cases hl
    | cons v cs =>
      have h0 := hc 0 v rfl
      have : h.base b o = some (flagS v) := by
        rw [hb]; unfold baseOf
        have := h0.1; rw [Nat.add_zero] at this
        rw [this]; simp only [h0.2, cond_true]
      have r := ih (o := o + 1) (cs := cs) (by simpa using hl) (fun i w hw => by
        have := hc (i + 1) w hw
        rw [show o + 1 + i = o + (i + 1) by omega]; exact this)
      unfold baseCells
      rw [this]; dsimp only; rw [r]; rfl

section
variable {H : Type} {enc : TypeId × Value → H} {P : Program} {W : World} {spare : Nat → Bool} {held : Bool}

/-- A slice that is given, of rows that are read one by one. -/
theorem open_rows {α : Type} {t e : TypeId} {fuel k : Nat} {v : Value} {x : DataW H × List MemPlace} {h : Heap} (hb : h.base = baseOf W) (ht : P.underlying t = some (.slice e)) (hk : P.cellsOf e = k) (hk0 : 0 < k) (c : α → List Value) (ok : α → Prop)
    (he : ∀ fuel cs y, DataW.trod enc P W 0 spare held fuel e cs = some y → ∃ a : α, cs.map flagS = c a ∧ cs.all okC = true ∧ ok a)
    (hd : DataW.trod enc P W 0 spare held fuel t [v] = some x) :
    ∃ l : List α, SLv h k (flagS v) (l.map c) ∧ (∀ a ∈ l, ok a) ∧ l.length ≤ maxLen ∧ okC v = true := by
  rcases Go.Deep.open_slice ht hd with ⟨hc, _⟩ | ⟨a, len, cap, m, n, D, Pl, hc, _, hl, hm, hmm, _, hx⟩
  · have : v = .slice none 0 0 := by simpa using hc
    subst this
    exact ⟨[], SLv.nil _ _ _ _, fun _ h => (by cases h), Nat.zero_le _, rfl⟩
  · have : v = .slice (some a) len cap := by simpa using hc
    subst this
    have hlm : len ≤ m := by rw [hmm]; split <;> omega
    have hex : ∀ i, i < len → ∃ q : α, ∃ cs', W.cells? 0 (a.add (i * k)) k = some cs' ∧ cs'.map flagS = c q ∧ cs'.all okC = true ∧ ok q := by
      intro i hi
      obtain ⟨cs', h1, h2⟩ := hx i (by omega)
      rw [hk] at h1
      obtain ⟨q, h3, h4, h5⟩ := he _ _ _ h2
      exact ⟨q, cs', h1, h3, h4, h5⟩
    have build : ∀ n, n ≤ len → ∃ l : List α, l.length = n ∧ ∀ i q, l[i]? = some q → ∃ cs', W.cells? 0 (a.add (i * k)) k = some cs' ∧ cs'.map flagS = c q ∧ cs'.all okC = true ∧ ok q := by
      intro n
      induction n with
      | zero => intro _; exact ⟨[], rfl, fun i q h => by simp at h⟩
      | succ n ih =>
        intro hn
        obtain ⟨l, h1, h2⟩ := ih (by omega)
        obtain ⟨q, hq⟩ := hex n (by omega)
        refine ⟨l ++ [q], by simp [h1], fun i r hr => ?_⟩
        rw [List.getElem?_append] at hr
        split at hr
        · exact h2 i r hr
        · rename_i hlt
          cases e : i - l.length with
          | zero =>
            rw [e] at hr
            have : i = n := by omega
            subst this
            have : q = r := by simpa using hr
            subst this
            exact hq
          | succ j => rw [e] at hr; simp at hr
    obtain ⟨l, h1, h2⟩ := build len (Nat.le_refl _)
    refine ⟨l, ⟨some (flagA a), cap, by show Value.slice (some (flagA a)) len cap = _; rw [List.length_map, h1], ?_⟩, ?_, by omega, rfl⟩
    · intro i r hr
      rw [List.getElem?_map] at hr
      cases e : l[i]? with
      | none => rw [e] at hr; cases hr
      | some q =>
        rw [e] at hr
        have : c q = r := by simpa using hr
        subst this
        obtain ⟨cs', g1, g2, g3, _⟩ := h2 i q e
        obtain ⟨_, gl, gc⟩ := World.cells?_some g1
        refine ⟨by rw [← g2, List.length_map, gl], ?_⟩
        refine ⟨flagA a, ?_⟩
        cases k with
        | zero => omega
        | succ k =>
          have hs : a.spot = none := by
            have hl0 : 0 < l.length := by
              rcases Nat.lt_or_ge i l.length with q | q
              · omega
              · rw [List.getElem?_eq_none q] at e; cases e
            obtain ⟨cs0, f1, _, _, _⟩ := h2 0 (l[0]) (List.getElem?_eq_getElem hl0)
            obtain ⟨_, fl, fc⟩ := World.cells?_some f1
            have f0 := fc 0 (by omega)
            cases hs : a.spot with
            | none => rfl
            | some s =>
              exfalso
              have : W.cell? ((a.add (0 * (k + 1))).add 0) = none := by
                unfold World.cell?
                split
                · have : (((a.add (0 * (k + 1))).add 0).spot) = some s := by rw [Nat.zero_mul]; unfold Addr.add; simpa using hs
                  rw [this]; rfl
                · rfl
              rw [this] at f0
              cases cs0 with
              | nil => cases fl
              | cons _ _ => cases f0
          obtain ⟨b, o, s⟩ := a
          cases hs
          refine ⟨⟨b, o + i * (k + 1), some 1⟩, rfl, rfl, ?_⟩
          show baseCells h b (o + i * (k + 1)) (k + 1) = some (c q)
          rw [← g2]
          refine base_cells (W := W) (cs := cs') hb gl (fun j w hw => ?_)
          have hj : j < k + 1 := by
            rcases Nat.lt_or_ge j (k + 1) with q | q
            · exact q
            · rw [List.getElem?_eq_none (by omega)] at hw; cases hw
          have := gc j hj
          rw [hw] at this
          have ad : ((⟨b, o, none⟩ : Addr).add (i * (k + 1))).add j = ⟨b, o + i * (k + 1) + j, none⟩ := by
            unfold Addr.add; split <;> split <;> simp_all
          rw [ad] at this
          exact ⟨this, List.all_eq_true.mp g3 w (List.mem_of_getElem? hw)⟩
    · intro q hq
      obtain ⟨i, hi⟩ := List.mem_iff_getElem?.mp hq
      obtain ⟨_, _, _, _, h⟩ := h2 i q hi
      exact h
end

end Go.Proofs.Ytadfhabapgipbaa.V
