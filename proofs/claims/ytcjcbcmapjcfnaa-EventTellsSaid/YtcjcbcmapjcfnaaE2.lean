/- slices.AppendSeq, slices.Collect of events: what an iterator hands on, in a new row.
   No condition beyond what stands in each statement. -/
import Derived.RangeFuncNested
import Derived.RangeFuncBox
import Derived.Maps.AppendAt
import Derived.Test.YtcjcbcmapjcfnaaE1
namespace Go.Proofs.Ytcjcbcmapjcfnaa
open Go Go.RowKit Go.Maps Go.Sort Go.Shelf Go.Proofs
set_option linter.unusedVariables false
set_option linter.unusedSimpArgs false
attribute [local go_sem] Oper.semAt_some

theorem cell4_new (w : World) (a b c d : Value) (t : TypeId) : ∀ j u, [a, b, c, d][j]? = some u → (w.alloc (.cells #[a, b, c, d] t)).cell? ((⟨w.heap.size, 0, none⟩ : Addr).add j) = some u := by
  intro j u hj
  match j, hj with
  | 0, hj => simp at hj; subst hj; simp [Addr.add]
  | 1, hj => simp at hj; subst hj; simp [Addr.add]
  | 2, hj => simp at hj; subst hj; simp [Addr.add]
  | 3, hj => simp at hj; subst hj; simp [Addr.add]
  | j + 4, hj => simp at hj
theorem flat_len (l : List EvV) : (l.flatMap EvV.cs).length = l.length * 4 := by
  induction l with
  | nil => rfl
  | cons a l ih => rw [List.flatMap_cons, List.length_append, ih, List.length_cons]; show 4 + _ = _; omega

set_option maxRecDepth 100000 in
set_option maxHeartbeats 4000000 in
theorem appendSeq (F : Fence) (n : Nat) (hF : F.fn 50) (hro : F.round = none) (hn : 2 ≤ n) (g : Nat) (lb : Array Value) (hFg : F.fn g) (eg : ∀ args w, (callFunc g args).run Try.prog w = .ok (.enter g args) w)
    (S Sp : List EvV → Prop) (N : Nat) (hN : N ≤ maxLen) (hNb : N * 48 ≤ 140737488355328) (w : World) (hseq : SeqStopsK F (n - 1) Try.prog g lb (fun x : EvV => #[x.v]) KeepsWalks S Sp N w) :
    CallsIn F n Try.prog 50 #[.slice none 0 0, .func (.func g) #[] lb] w fun e w' => ∃ (v : Value) (xs : List EvV), e = .returned v ∧ S xs ∧
      w'.ownsRow w.heap.size 40 4 v xs.length (xs.flatMap EvV.cs) ∧ (v = .slice none 0 0 ↔ xs = []) ∧ xs.length ≤ N ∧ Below w.heap.size w w' := by
  have h1 : 1 ≤ n := by omega
  have ty22 : Try.prog.underlying 22 = some (.slice 40) := by kernel_rfl
  obtain ⟨i0, hi, hz0, hz1, hz2⟩ := info_parts (show (Try.prog.info? 40).map (fun i => (i.zero, i.size, i.bytes)) = some (some (.agg #[.int .i64 0, .string ⟨#[]⟩, .string ⟨#[]⟩, .bool false]), 4, 48) by kernel_rfl)
  refine callsIn_of_wp_marks Try.func50 rfl hF ?_ hro
  simp only [Try.ntmps50, List.size_toArray, List.length_cons, List.length_nil, Nat.reduceAdd, Nat.reduceSub, Array.replicate_succ, Array.replicate_zero, List.push_toArray, List.append_toArray, List.nil_append, List.cons_append]
  gi_wp2
  obtain ⟨W0, hW0⟩ : ∃ W0, w.alloc (.cells #[.slice none 0 0] 22) = W0 := ⟨_, rfl⟩
  have hs0 : W0.heap.size = w.heap.size + 1 := by rw [← hW0]; simp
  have hB0 : Below w.heap.size w W0 := by rw [← hW0]; exact (Below.refl _ w).alloc (Nat.le_refl _) _
  have bS : Boxed W0 w.heap.size 22 (.slice none 0 0) := by rw [← hW0]; exact Boxed.new w 22 _
  rw [hW0]
  refine wpIn_rangeFunc_ownH hro h1 (gf := g) (lb := lb) rfl hFg eg hseq walksK_t walksK_b hB0 (fun _ => rfl)
    (fun pre W => (∃ v, Boxed W w.heap.size 22 v ∧ W.ownsRow w.heap.size 40 4 v pre.length (pre.flatMap EvV.cs) ∧ ((v = .slice none 0 0 ↔ pre = []) ∧ pre.length ≤ N)) ∧ Below w.heap.size w W)
    (fun _ _ _ => False)
    (OwnFrom.and (Own.from (holdsRow_own _ _ _ _ _ (fun pre : List EvV => pre.length) (fun pre => pre.flatMap EvV.cs) (fun pre v => (v = .slice none 0 0 ↔ pre = []) ∧ pre.length ≤ N)) _) (ownFrom_below (Nat.le_refl _) (by omega)))
    (fun _ _ _ _ _ hs _ _ => hs)
    ⟨⟨_, bS, World.ownsRow_nil _ _ _ _, by simp, by simp⟩, hB0⟩
    (fun x a' W => ∃ Bx, w.heap.size < Bx ∧ W.heap[Bx]? = some (.cells #[.int .i64 x.a, .string ⟨x.k.toArray⟩, .string x.x, .bool x.d] 40 (0, 0)) ∧ a' = { tmps := #[.slice none 0 0, .func (.func g) #[] lb, .pointer (some ⟨w.heap.size, 0, none⟩), undef, .slice none 0 0, .pointer (some ⟨Bx, 0, none⟩), .func (.func g) #[] lb, x.v, undef, undef, undef, undef, undef], defers := [] })
    (fun x a' _ X Y row hs hg hr => by
      obtain ⟨Bx, h1, h2, h3⟩ := hs
      exact ⟨Bx, h1, (hg.block Bx (Array.getElem?_eq_some_iff.1 h2).1 (fun e => by obtain ⟨_, o, ho, hc⟩ := hr Bx e.symm; rw [h2] at ho; cases ho; cases hc)).trans h2, h3⟩)
    ?assign ?body ?done ?stop
  case assign =>
    rintro l pre ⟨xa, xk, xx, xd⟩ W K ⟨⟨v, bv, hrow, hnil⟩, hB1⟩ hK
    gi_wp2
    exact hK _ _ ((KeepsOthers.alloc _ _).from _) (KeepsWalks.alloc _ _) ⟨⟨v, bv.alloc _, hrow.alloc _, hnil⟩, hB1.alloc hB1.size _⟩ ⟨W.heap.size, bv.lt, World.alloc_heap_new W _, rfl⟩
  case body =>
    rintro l pre ⟨xa, xk, xx, xd⟩ a' W hl hr ⟨⟨v, hv, hrow, hnil⟩, hB1⟩ ⟨Bx, hBx, bX, rfl⟩ hlen
    have cS := hv.cell
    have fS := hv.frozen
    have hle : w.heap.size ≤ w.heap.size := Nat.le_refl _
    have c0 : W.cell? ⟨Bx, 0, none⟩ = some (.int .i64 xa) := by simp [World.cell?, bX]
    have c1 : W.cell? ⟨Bx, 1, none⟩ = some (.string ⟨xk.toArray⟩) := by simp [World.cell?, bX]
    have c2 : W.cell? ⟨Bx, 2, none⟩ = some (.string xx) := by simp [World.cell?, bX]
    have c3 : W.cell? ⟨Bx, 3, none⟩ = some (.bool xd) := by simp [World.cell?, bX]
    gi_wp2_with (first
      | (gi_at_builtin; refine wpListIn_append_own _ rfl _ _ 22 rfl w.heap.size 40 i0 _ 4 48 ty22 hi hz0 hz1 hz2 rfl (by decide) _ _ _ rfl (hrow.alloc _) ⟨W.heap.size, 0, none⟩ 1 1 [.int .i64 xa, .string ⟨xk.toArray⟩, .string xx, .bool xd] rfl rfl (cell4_new _ _ _ _ _ _) (by simp [Value.oneCell']) (by omega) (by omega) (by have := hB1.size; simp; omega) ?_
         intro v' w1 hown' hgrow _
         obtain ⟨g', cap', rfl⟩ := ownsRow_succ hown'
         obtain ⟨hv1, hv2, hr2, hk2, hb2⟩ := hv.appended (by decide) hrow hB1.size hle hown' hgrow
         have hc1 := hv1.cell
         have hf1 := hv1.frozen)
      | gi_in)
    refine ⟨hk2.from _, hk2.walks, ⟨_, hv2, ?_, by simp, by simp; omega⟩, hB1.trans hb2⟩
    rw [List.flatMap_append, List.length_append]
    exact hr2
  case done =>
    rintro D xs W hD hS ⟨⟨v, hv, hrow, hnil⟩, hB1⟩ hK
    have cS := hv.cell
    gi_wp2
    refine ⟨by simp, .inl ⟨_, _, rfl, run_takeDeferred hK, ?_⟩⟩
    exact ⟨_, results_tmp rfl _ _ _, v, xs, rfl, hS, ownsRow_putObj hrow _ hK rfl, hnil.1, hnil.2, hB1.grown (grownBy_putObj' _ D _) hB1.size (fun j e => by cases e; omega)⟩
  case stop =>
    rintro D c pre W hD _ hf
    exact hf.elim
end Go.Proofs.Ytcjcbcmapjcfnaa
