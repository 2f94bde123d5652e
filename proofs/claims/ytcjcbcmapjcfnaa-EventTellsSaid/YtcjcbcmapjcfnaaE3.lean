/- slices.SortedFunc of a map's events.
   No condition beyond what stands in each statement. -/
import Derived.Shelf.SlSortCmp.WholeK
import Derived.Laws.Cover1
import Derived.Test.YtcjcbcmapjcfnaaE2
namespace Go.Proofs.Ytcjcbcmapjcfnaa
open Go Go.RowKit Go.Maps Go.Sort Go.Shelf Go.Proofs
set_option linter.unusedVariables false
set_option linter.unusedSimpArgs false
attribute [local go_sem] Oper.semAt_some

theorem collect (F : Fence) (n : Nat) (hF : F.fn 43) (hF50 : F.fn 50) (hro : F.round = none) (hn : 3 ≤ n) (g : Nat) (lb : Array Value) (hFg : F.fn g) (eg : ∀ args w, (callFunc g args).run Try.prog w = .ok (.enter g args) w)
    (S Sp : List EvV → Prop) (N : Nat) (hN : N ≤ maxLen) (hNb : N * 48 ≤ 140737488355328) (w : World) (hseq : SeqStopsK F (n - 1 - 1) Try.prog g lb (fun x : EvV => #[x.v]) KeepsWalks S Sp N w) :
    CallsIn F n Try.prog 43 #[.func (.func g) #[] lb] w fun e w' => ∃ (v : Value) (xs : List EvV), e = .returned v ∧ S xs ∧
      w'.ownsRow w.heap.size 40 4 v xs.length (xs.flatMap EvV.cs) ∧ (v = .slice none 0 0 ↔ xs = []) ∧ xs.length ≤ N ∧ Below w.heap.size w w' := by
  have h1 : 1 ≤ n := by omega
  refine callsIn_of_wp Try.func43 rfl hF ?_ hro
  simp only [Try.ntmps43, List.size_toArray, List.length_cons, List.length_nil, Nat.reduceAdd, Nat.reduceSub, Array.replicate_succ, Array.replicate_zero, List.push_toArray, List.append_toArray, List.nil_append, List.cons_append]
  gi_wp2_with (gi_at_call 50; refine (appendSeq F (n - 1) hF50 hro (by omega) g lb hFg eg S Sp N hN hNb _ hseq).mono ?_; rintro e w' ⟨v, ss, rfl, hS, hrow, hnil, hxl, hb⟩)
  go_ret
  exact ⟨v, ss, rfl, hS, hrow, hnil, hxl, hb⟩

theorem eL_irrefl : ∀ x : List UInt8, Op.bytesLess x x = false
  | [] => rfl
  | a :: x => by
    have h : ¬ a < a := UInt8.lt_irrefl a
    simp [Op.bytesLess, h, eL_irrefl x]
theorem eL_trans : ∀ x y z : List UInt8, Op.bytesLess x y = true → Op.bytesLess y z = true → Op.bytesLess x z = true
  | _, [], _, h, _ => by cases ‹List UInt8› <;> simp [Op.bytesLess] at h
  | _, b :: y, [], _, h => by simp [Op.bytesLess] at h
  | [], b :: y, c :: z, _, _ => rfl
  | a :: x, b :: y, c :: z, h1, h2 => by
    simp only [Op.bytesLess, Bool.or_eq_true, Bool.and_eq_true, decide_eq_true_eq, beq_iff_eq] at h1 h2 ⊢
    rcases h1 with h1 | ⟨e1, h1⟩
    · rcases h2 with h2 | ⟨e2, h2⟩
      · exact .inl (UInt8.lt_trans h1 h2)
      · subst e2; exact .inl h1
    · subst e1
      rcases h2 with h2 | ⟨e2, h2⟩
      · exact .inl h2
      · exact .inr ⟨e2, eL_trans x y z h1 h2⟩
theorem eL_total : ∀ x y : List UInt8, Op.bytesLess x y = false → Op.bytesLess y x = false → x = y
  | [], [], _, _ => rfl
  | [], b :: y, h, _ => by simp [Op.bytesLess] at h
  | a :: x, [], _, h => by simp [Op.bytesLess] at h
  | a :: x, b :: y, h1, h2 => by
    simp only [Op.bytesLess, Bool.or_eq_false_iff, Bool.and_eq_false_iff, decide_eq_false_iff_not, beq_eq_false_iff_ne] at h1 h2
    have e : a = b := by
      apply UInt8.toNat_inj.mp
      have q1 := h1.1; have q2 := h2.1
      rw [UInt8.lt_iff_toNat_lt] at q1 q2
      omega
    subst e
    have q1 := h1.2.resolve_left (fun h => h rfl)
    have q2 := h2.2.resolve_left (fun h => h rfl)
    rw [eL_total x y q1 q2]
theorem arr_toList (x : List UInt8) : (⟨x.toArray⟩ : ByteArray).toList = x := by rw [ByteArray.toList_eq]
theorem isNaN (x : List UInt8) (W : World) : Calls Try.prog 46 #[encStr x] W fun e w' => e = .returned (.bool false) ∧ w' = W := by
  go_enter Try.func46, Try.ntmps46
  go_wp2
  go_ret
  exact ⟨rfl, rfl⟩
def cmpL (x y : List UInt8) : Int := if Op.bytesLess x y = true then -1 else if Op.bytesLess y x = true then 1 else 0
theorem cmpStr (x y : List UInt8) (W : World) : Calls Try.prog 33 #[encStr x, encStr y] W fun e w' => e = .returned (.int .i64 (cmpL x y)) ∧ w' = W := by
  have main : ∀ (b1 b2 b3 : Bool) (r : Int), Op.bytesLess x y = b1 → (x == y) = b3 → r = (if b1 then -1 else if b3 then 0 else 1) → Calls Try.prog 33 #[encStr x, encStr y] W fun e w' => e = .returned (.int .i64 r) ∧ w' = W := by
    intro b1 b2 b3 r h1 h3 hr
    cases b1 <;> cases b3 <;> simp only [if_true, Bool.false_eq_true, if_false] at hr <;> subst hr <;>
    (go_enter Try.func33, Try.ntmps33
     go_wp2_with (go_at_call 46; refine (isNaN _ _).mono ?_; rintro e w' ⟨rfl, rfl⟩)
     go_ret
     exact ⟨rfl, rfl⟩)
  refine main _ true _ _ rfl rfl ?_
  unfold cmpL
  cases h1 : Op.bytesLess x y with
  | true => rfl
  | false =>
    cases h2 : Op.bytesLess y x with
    | true =>
      have : (x == y) = false := by
        rw [beq_eq_false_iff_ne]
        intro e; subst e; rw [eL_irrefl] at h2; cases h2
      rw [this]; rfl
    | false => have := eL_total _ _ h1 h2; subst this; simp
theorem closure (x y : EvV) (W : World) : Calls Try.prog 32 #[x.v, y.v] W fun e w' => e = .returned (.int .i64 (cmpL x.k y.k)) ∧ ∃ q os', w' = grow (W.drewN q) os' := by
  obtain ⟨xa, xk, xx, xd⟩ := x
  obtain ⟨ya, yk, yx, yd⟩ := y
  have hcon := fun W' => cmpStr xk yk W'
  dsimp only
  generalize cmpL xk yk = r at hcon ⊢
  go_enter Try.func32, Try.ntmps32
  go_wp2_with (go_at_call 33; refine (hcon _).mono ?_; rintro e w' ⟨rfl, rfl⟩)
  go_ret
  exact ⟨rfl, 0, _, by rw [alloc_eq_grow, alloc_eq_grow, grow_grow]; rfl⟩
end Go.Proofs.Ytcjcbcmapjcfnaa
