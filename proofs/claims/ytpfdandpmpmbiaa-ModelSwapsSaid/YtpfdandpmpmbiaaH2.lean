/- hist.at, walked.
   No condition beyond what stands in each statement. -/
import Derived.RangeFuncCalls
import Derived.Shelf.RegionOpen
import Derived.Test.YtpfdandpmpmbiaaH1
namespace Go.Proofs.Ytpfdandpmpmbiaa
open Go Go.RowKit Go.Maps Go.Sort Go.Shelf Go.Proofs
set_option linter.unusedVariables false
set_option linter.unusedSimpArgs false
attribute [local go_sem] Oper.semAt_some

/-- The first one, from the last one back, that is not above a revision. -/
def atB (g : Nat → EvH) (rev : Int) : Nat → Option EvH
  | 0 => none
  | n + 1 => if (g n).a ≤ rev then some (g n) else atB g rev n
def Miss (rev : Int) (pre : List (Int × EvH)) : Prop := ∀ x ∈ pre, ¬ x.2.a ≤ rev
def Hit (rev : Int) (pre : List (Int × EvH)) (x : EvH) : Prop := ∃ p i, pre = p ++ [(i, x)] ∧ Miss rev p ∧ x.a ≤ rev
theorem atB_miss {g : Nat → EvH} {rev : Int} {len : Nat} : ∀ k, k ≤ len → Miss rev (upto (backF len g) k) → atB g rev len = atB g rev (len - k)
  | 0, _, _ => rfl
  | k + 1, hk, h => by
    rw [upto_succ] at h
    have ih := atB_miss k (by omega) (fun x hx => h x (List.mem_append_left _ hx))
    have hl := h (backF len g k) (List.mem_append_right _ (by simp))
    rw [ih, show len - k = (len - (k + 1)) + 1 from by omega, atB]
    unfold backF at hl
    dsimp only at hl
    rw [show len - 1 - k = len - (k + 1) from by omega] at hl
    rw [if_neg hl]
theorem atB_none {g : Nat → EvH} {rev : Int} {len : Nat} (h : Miss rev (upto (backF len g) len)) : atB g rev len = none := by
  rw [atB_miss len (Nat.le_refl _) h, Nat.sub_self]; rfl
theorem atB_hit {g : Nat → EvH} {rev : Int} {len k : Nat} {x : EvH} (hk : k ≤ len) (h : Hit rev (upto (backF len g) k) x) : atB g rev len = some x := by
  obtain ⟨p, i, h1, h2, h3⟩ := h
  cases k with
  | zero => simp [upto] at h1
  | succ k =>
    rw [upto_succ] at h1
    obtain ⟨h4, h5⟩ := List.append_inj' h1 rfl
    subst h4
    rw [atB_miss k (by omega) h2, show len - k = (len - (k + 1)) + 1 from by omega, atB]
    have h6 : g (len - 1 - k) = x := by
      have h7 := (List.cons.inj h5).1
      unfold backF at h7
      exact (Prod.mk.inj h7).2
    rw [show len - (k + 1) = len - 1 - k from by omega, h6, if_pos h3]
theorem blk_kept {A B : World} {row : Option Nat} {b : Nat} {c : Array Value} {t : TypeId} {fr : Nat × Nat} (h : A.heap[b]? = some (.cells c t fr)) (hg : A.grownBy B row) (hr : ∀ r, row = some r → ∃ o : Obj, A.heap[r]? = some o ∧ o.isCells = false) : B.heap[b]? = some (.cells c t fr) :=
  (hg.block b (Array.getElem?_eq_some_iff.1 h).1 (fun e => by obtain ⟨o, ho, hc⟩ := hr b e.symm; rw [h] at ho; cases ho; cases hc)).trans h
theorem blk_below {s : Nat} {A B : World} (h : Below s A B) {b : Nat} {o : Obj} (hb : b < s) (ha : A.heap[b]? = some o) : B.heap[b]? = some o := (h.block b hb).trans ha
theorem push_new {h : Array Obj} {o : Obj} {n : Nat} (e : h.size = n) : (h.push o)[n]? = some o := by subst e; simp
theorem push_old {h : Array Obj} {o x : Obj} {n : Nat} (e : h[n]? = some x) : (h.push o)[n]? = some x := by
  have := (Array.getElem?_eq_some_iff.1 e).1
  rw [Array.getElem?_push, if_neg (by omega)]; exact e
theorem new4 (w : World) (o1 o2 o3 o4 : Obj) : ((((w.alloc o1).alloc o2).alloc o3).alloc o4).heap[w.heap.size]? = some o1 ∧ ((((w.alloc o1).alloc o2).alloc o3).alloc o4).heap[w.heap.size + 1]? = some o2 ∧
    ((((w.alloc o1).alloc o2).alloc o3).alloc o4).heap[w.heap.size + 1 + 1]? = some o3 ∧ ((((w.alloc o1).alloc o2).alloc o3).alloc o4).heap[w.heap.size + 1 + 1 + 1]? = some o4 :=
  ⟨push_old (push_old (push_old (push_new rfl))), push_old (push_old (push_new (by simp))), push_old (push_new (by simp)), push_new (by simp)⟩
theorem set_blk {w : World} {b : Nat} {c : Array Value} {t : TypeId} {fr : Nat × Nat} (h : w.heap[b]? = some (.cells c t fr)) (o : Nat) (v : Value) : (w.setCell ⟨b, o, none⟩ v).heap[b]? = some (.cells (c.setIfInBounds o v) t fr) := by
  simp [World.setCell, Array.getElem?_modify, h]
theorem put5 {s : Nat} {W : World} {z0 z1 z2 z3 y : Value} {T T' : TypeId} (h3 : W.heap[s + 1]? = some (.cells #[z0, z1, z2, z3] T (0, 0))) (h4 : W.heap[s + 1 + 1]? = some (.cells #[y] T' (0, 0))) (a b c d e : Value) :
    (((((W.setCell ⟨s + 1, 0, none⟩ a).setCell ⟨s + 1, 1, none⟩ b).setCell ⟨s + 1, 2, none⟩ c).setCell ⟨s + 1, 3, none⟩ d).setCell ⟨s + 1 + 1, 0, none⟩ e).heap[s + 1]? = some (.cells #[a, b, c, d] T (0, 0)) ∧
    (((((W.setCell ⟨s + 1, 0, none⟩ a).setCell ⟨s + 1, 1, none⟩ b).setCell ⟨s + 1, 2, none⟩ c).setCell ⟨s + 1, 3, none⟩ d).setCell ⟨s + 1 + 1, 0, none⟩ e).heap[s + 1 + 1]? = some (.cells #[e] T' (0, 0)) ∧
    Below (s + 1) W (((((W.setCell ⟨s + 1, 0, none⟩ a).setCell ⟨s + 1, 1, none⟩ b).setCell ⟨s + 1, 2, none⟩ c).setCell ⟨s + 1, 3, none⟩ d).setCell ⟨s + 1 + 1, 0, none⟩ e) ∧
    KeepsOthers W (((((W.setCell ⟨s + 1, 0, none⟩ a).setCell ⟨s + 1, 1, none⟩ b).setCell ⟨s + 1, 2, none⟩ c).setCell ⟨s + 1, 3, none⟩ d).setCell ⟨s + 1 + 1, 0, none⟩ e) := by
  refine ⟨?_, ?_, ?_, ?_⟩
  · rw [Below.heap_setCell _ _ _ _ (by simp)]
    exact set_blk (set_blk (set_blk (set_blk h3 0 a) 1 b) 2 c) 3 d
  · refine set_blk (c := #[y]) ?_ 0 e
    rw [Below.heap_setCell _ _ _ _ (by simp), Below.heap_setCell _ _ _ _ (by simp), Below.heap_setCell _ _ _ _ (by simp), Below.heap_setCell _ _ _ _ (by simp)]
    exact h4
  · exact (((((Below.refl _ W).setCell (by simp) _).setCell (by simp) _).setCell (by simp) _).setCell (by simp) _).setCell (by simp) _
  · exact ((((KeepsOthers.setCell _ _ _).trans (KeepsOthers.setCell _ _ _)).trans (KeepsOthers.setCell _ _ _)).trans (KeepsOthers.setCell _ _ _)).trans (KeepsOthers.setCell _ _ _)
theorem res5 {F : Fence} {n s D : Nat} {W : World} {a b c d e : Value} {Q : Ending → World → Prop} {tm : Array Value} (hD : s + 1 + 1 + 1 + 1 ≤ D) (h6 : tm[6]? = some (.pointer (some ⟨s + 1, 0, none⟩))) (h7 : tm[7]? = some (.pointer (some ⟨s + 1 + 1, 0, none⟩)))
    (h3 : W.heap[s + 1]? = some (.cells #[a, b, c, d] 108 (0, 0))) (h4 : W.heap[s + 1 + 1]? = some (.cells #[e] 4 (0, 0))) (hK : W.heap[D]? = some (.deferred (some [])))
    (hQ : Q (.returned (.tuple #[.agg #[a, b, c, d], e])) (W.putObj D (.deferred none))) :
    bodyPostM F n Try.prog Try.f55 Q Exit.ret { tmps := tm, defers := [{ target := Target.collected D, args := #[] }] } W := by
  refine ⟨by simp, .inl ⟨_, _, rfl, run_takeDeferred hK, ?_⟩⟩
  have r3 : (W.putObj D (.deferred none)).heap[s + 1]? = some (.cells #[a, b, c, d] 108 (0, 0)) := (World.putObj_heap_other (by omega)).trans h3
  have r4 : (W.putObj D (.deferred none)).heap[s + 1 + 1]? = some (.cells #[e] 4 (0, 0)) := (World.putObj_heap_other (by omega)).trans h4
  have c0 : (W.putObj D (.deferred none)).cell? ⟨s + 1, 0, none⟩ = some a := by simp [World.cell?, r3]
  have c1 : (W.putObj D (.deferred none)).cell? ⟨s + 1, 1, none⟩ = some b := by simp [World.cell?, r3]
  have c2 : (W.putObj D (.deferred none)).cell? ⟨s + 1, 2, none⟩ = some c := by simp [World.cell?, r3]
  have c3 : (W.putObj D (.deferred none)).cell? ⟨s + 1, 3, none⟩ = some d := by simp [World.cell?, r3]
  have c4 : (W.putObj D (.deferred none)).cell? ⟨s + 1 + 1, 0, none⟩ = some e := by simp [World.cell?, r4]
  refine ⟨_, ?_, hQ⟩
  simp [results, Try.f55, go_sem, h6, h7, c0, c1, c2, c3, c4]
theorem own_ret {α : Type} {B : Nat} {Kp : World → World → Prop} {I : List α → World → Prop} {Ix : Code → List α → World → Prop} {xs : List α} {W W' : World} {a : Act} (h1 : KeepsOthers W W') (h2 : Ix .ret xs W') : ownPostG B Kp I Ix xs W Exit.ret a W' := ⟨h1.from _, h2⟩
def evZ : EvH := ⟨0, ByteArray.empty, ByteArray.empty, false⟩
def okB (o : Option EvH) : Bool := match o with | some x => !x.d | none => false

set_option maxRecDepth 100000 in
set_option maxHeartbeats 4000000 in
theorem at1 (F : Fence) (n : Nat) (hF : F.fn 55) (hFB : F.fn 81) (hFI : F.fn 104) (hro : F.round = none) (hn : 3 ≤ n) (hb ho mb : Nat) (k : ByteArray) (rev : Int) (sv : Value) (len : Nat) (g : Nat → EvH) (w : World)
    (hm : w.cell? ⟨hb, ho + 2, none⟩ = some (.map (some mb))) (hlt : hb < w.heap.size) (hsv : ∃ a c, sv = .slice a len c)
    (hlk : (Instr.lookup 98 (.map (some mb)) (.string k) false).run Try.prog (((w.alloc (.cells #[.int .i64 rev] 3)).alloc (.cells #[.int .i64 0, .string ⟨#[]⟩, .string ⟨#[]⟩, .bool false] 108)).alloc (.cells #[.bool false] 4)) = .ok sv (((w.alloc (.cells #[.int .i64 rev] 3)).alloc (.cells #[.int .i64 0, .string ⟨#[]⟩, .string ⟨#[]⟩, .bool false] 108)).alloc (.cells #[.bool false] 4)))
    (hrow : RowsW w.heap.size w sv len g) :
    CallsIn F n Try.prog 55 #[.pointer (some ⟨hb, ho, none⟩), .string k, .int .i64 rev] w fun e w' => e = .returned (.tuple #[((atB g rev len).getD evZ).v, .bool (okB (atB g rev len))]) ∧ Below w.heap.size w w' := by
  have h1 : 1 ≤ n := by omega
  obtain ⟨sa, sc, rfl⟩ := hsv
  obtain ⟨R, hR⟩ : ∃ R, atB g rev len = R := ⟨_, rfl⟩
  obtain ⟨rv, hrv⟩ : ∃ rv, Value.tuple #[(R.getD evZ).v, .bool (okB R)] = rv := ⟨_, rfl⟩
  rw [hR, hrv]
  refine callsIn_of_wp_marks Try.func55 rfl hF ?_ hro
  simp only [Try.ntmps55, List.size_toArray, List.length_cons, List.length_nil, Nat.reduceAdd, Nat.reduceSub, Array.replicate_succ, Array.replicate_zero, List.push_toArray, List.append_toArray, List.nil_append, List.cons_append]
  have hm2 : ∀ o1 o2 o3 : Obj, (((w.alloc o1).alloc o2).alloc o3).cell? ⟨hb, ho + 2, none⟩ = some (.map (some mb)) := fun o1 o2 o3 => by
    have h1 : Below w.heap.size w (((w.alloc o1).alloc o2).alloc o3) := (((Below.refl _ w).alloc (Nat.le_refl _) _).alloc (by simp) _).alloc (by simp; omega) _
    exact (h1.cell (p := ⟨hb, ho + 2, none⟩) hlt).trans hm
  gi_wp2_with (gi_at_call 81; refine (backward F (n - 1) hFB hro _ _ _ _).mono ?_; rintro e w' ⟨rfl, rfl⟩)
  obtain ⟨s, hs⟩ : ∃ s, w.heap.size = s := ⟨_, rfl⟩
  obtain ⟨W0, hW0⟩ : ∃ W0, ((((w.alloc (.cells #[.int .i64 rev] 3)).alloc (.cells #[.int .i64 0, .string ⟨#[]⟩, .string ⟨#[]⟩, .bool false] 108)).alloc (.cells #[.bool false] 4)).alloc (.cells #[.slice sa len sc] 50)) = W0 := ⟨_, rfl⟩
  have hB0 : Below s w W0 := by rw [← hW0, ← hs]; exact ((((Below.refl _ w).alloc (Nat.le_refl _) _).alloc (by simp) _).alloc (by simp; omega) _).alloc (by simp; omega) _
  have hs0 : W0.heap.size = s + 1 + 1 + 1 + 1 := by rw [← hW0, ← hs]; simp
  have b5 : W0.heap[s]? = some (.cells #[.int .i64 rev] 3 (0, 0)) := by rw [← hW0, ← hs]; exact (new4 _ _ _ _ _).1
  have b6 : W0.heap[s + 1]? = some (.cells #[.int .i64 0, .string ⟨#[]⟩, .string ⟨#[]⟩, .bool false] 108 (0, 0)) := by rw [← hW0, ← hs]; exact (new4 _ _ _ _ _).2.1
  have b7 : W0.heap[s + 1 + 1]? = some (.cells #[.bool false] 4 (0, 0)) := by rw [← hW0, ← hs]; exact (new4 _ _ _ _ _).2.2.1
  have b8 : W0.heap[s + 1 + 1 + 1]? = some (.cells #[.slice sa len sc] 50 (0, 0)) := by rw [← hW0, ← hs]; exact (new4 _ _ _ _ _).2.2.2
  have hbx : W0.cell? ⟨s + 1 + 1 + 1, 0, none⟩ = some (.slice sa len sc) := by simp [World.cell?, b8]
  have hrow0 : RowsW W0.heap.size W0 (.slice sa len sc) len g := (hrow.below (by rw [hs]; exact hB0)).mono (by rw [hs, hs0]; omega)
  rw [hW0, hs]
  clear hm2 hlk hm hrow hW0
  have hsl : s ≤ W0.heap.size := by omega
  refine wpIn_rangeFunc_ownH hro h1 (gf := 104) (lb := #[.pointer (some ⟨s + 1 + 1 + 1, 0, none⟩)]) rfl hFI (enters_of Try.func104 (by kernel_rfl) rfl) (back_stops F (n - 1) hFI hro (by omega) (s + 1 + 1 + 1) 0 _ len g W0 (by omega) hbx hrow0)
    belowK_t (belowK_b (Nat.le_refl _)) (Below.refl _ _) (fun _ => rfl)
    (fun pre W => Miss rev pre ∧ Below W0.heap.size W0 W)
    (fun c pre W => (c = .ret ∧ ∃ x, Hit rev pre x ∧ W.heap[s + 1]? = some (.cells #[.int .i64 x.a, .string x.k, .string x.x, .bool x.d] 108 (0, 0)) ∧ W.heap[s + 1 + 1]? = some (.cells #[.bool (!x.d)] 4 (0, 0))) ∧ Below s w W)
    (OwnFrom.and (ownFrom_pure _ _) (ownFrom_below (Nat.le_refl _) (Nat.le_refl _)))
    (fun c => OwnFrom.and (Own.from (fun pre A B row h hg hr => by
      obtain ⟨h1, x, h2, h5, h6⟩ := h
      exact ⟨h1, x, h2, blk_kept h5 hg hr, blk_kept h6 hg hr⟩) _) (ownFrom_below (by omega) (by omega)))
    ⟨(fun x hx => absurd hx List.not_mem_nil), Below.refl _ _⟩
    (fun x a' W => ∃ Bx, W0.heap.size ≤ Bx ∧ W.heap[Bx]? = some (.cells #[.int .i64 x.2.a, .string x.2.k, .string x.2.x, .bool x.2.d] 108 (0, 0)) ∧ a' = { tmps := #[Value.pointer (some ⟨hb, ho, none⟩), .string k, .int .i64 rev, undef, undef, .pointer (some ⟨s, 0, none⟩), .pointer (some ⟨s + 1, 0, none⟩), .pointer (some ⟨s + 1 + 1, 0, none⟩), .slice sa len sc, undef, .pointer (some ⟨Bx, 0, none⟩), .pointer (some ⟨hb, ho, none⟩), .pointer (some ⟨hb, ho, none⟩), .pointer (some ⟨hb, ho + 2, none⟩), .map (some mb), .string k, .slice sa len sc, .slice sa len sc, .func (.func 104) #[] #[.pointer (some ⟨s + 1 + 1 + 1, 0, none⟩)], .int .i64 x.1, x.2.v, undef, undef, undef, undef, undef, undef, undef, undef, undef], defers := [] })
    (fun x a' _ X Y row h hg hr => by
      obtain ⟨Bx, h1, h2, h3⟩ := h
      exact ⟨Bx, h1, blk_kept h2 hg (fun r e => (hr r e).2), h3⟩)
    ?assign ?body ?done ?stop
  case assign =>
    rintro l pre ⟨xi, xa, xk, xx, xd⟩ W K ⟨h1, hB1⟩ hK
    gi_wp2
    exact hK _ _ ((KeepsOthers.alloc _ _).from _) ((Below.refl _ W).alloc hB1.size _) ⟨h1, hB1.alloc hB1.size _⟩ ⟨W.heap.size, hB1.size, World.alloc_heap_new W _, rfl⟩
  case body =>
    rintro l pre ⟨xi, xa, xk, xx, xd⟩ a' W hl hr ⟨h1, hB1⟩ ⟨Bx, hBx, bX, rfl⟩ hlen
    have h2 := blk_below hB1 (by omega) b5
    have h3 := blk_below hB1 (by omega) b6
    have h4 := blk_below hB1 (by omega) b7
    have c0 : W.cell? ⟨Bx, 0, none⟩ = some (.int .i64 xa) := by simp [World.cell?, bX]
    have c1 : W.cell? ⟨Bx, 1, none⟩ = some (.string xk) := by simp [World.cell?, bX]
    have c2 : W.cell? ⟨Bx, 2, none⟩ = some (.string xx) := by simp [World.cell?, bX]
    have c3 : W.cell? ⟨Bx, 3, none⟩ = some (.bool xd) := by simp [World.cell?, bX]
    have f0 : ∀ j, W.frozen? ⟨s + 1, j, none⟩ = false := fun j => by simp [World.frozen?, h3]
    have f1 : ∀ j, W.frozen? ⟨s + 1 + 1, j, none⟩ = false := fun j => by simp [World.frozen?, h4]
    have g0 : W.cell? ⟨s + 1, 0, none⟩ = some (.int .i64 0) := by simp [World.cell?, h3]
    have g1 : W.cell? ⟨s + 1, 1, none⟩ = some (.string ⟨#[]⟩) := by simp [World.cell?, h3]
    have g2 : W.cell? ⟨s + 1, 2, none⟩ = some (.string ⟨#[]⟩) := by simp [World.cell?, h3]
    have g3 : W.cell? ⟨s + 1, 3, none⟩ = some (.bool false) := by simp [World.cell?, h3]
    have g4 : W.cell? ⟨s + 1 + 1, 0, none⟩ = some (.bool false) := by simp [World.cell?, h4]
    have d5 : W.cell? ⟨s, 0, none⟩ = some (.int .i64 rev) := by simp [World.cell?, h2]
    have hne : Bx ≠ s + 1 := by omega
    have hne2 : Bx ≠ s + 1 + 1 := by omega
    gi_wp2
    · have hxa : xa ≤ rev := by assumption
      have hmx : Try.prog.follows .mixedOrders = true := by kernel_rfl
      have hd : 1 ≤ n - 1 - 1 := by omega
      gi_region_with_o (fail)
      all_goals gi_wp2
      all_goals (try go_bits)
      all_goals
        obtain ⟨p3, p4, pB, pK⟩ := put5 h3 h4 (.int .i64 xa) (.string xk) (.string xx) (.bool xd) (.bool !xd)
        generalize (((((W.setCell ⟨s + 1, 0, none⟩ (.int .i64 xa)).setCell ⟨s + 1, 1, none⟩ (.string xk)).setCell ⟨s + 1, 2, none⟩ (.string xx)).setCell ⟨s + 1, 3, none⟩ (.bool xd)).setCell ⟨s + 1 + 1, 0, none⟩ (.bool !xd)) = W5 at p3 p4 pB pK ⊢
        exact own_ret (pK.trans (KeepsOthers.drew W5)) ⟨⟨rfl, ⟨xa, xk, xx, xd⟩, ⟨pre, xi, rfl, h1, hxa⟩, p3, p4⟩, ((hB0.trans (hB1.mono hsl)).trans (pB.mono (by omega))).drew⟩
    · rename_i hx
      exact ⟨KeepsFrom.refl _ _, Below.refl _ _, (fun y hy => (List.mem_append.1 hy).elim (h1 y) (fun e => by rw [List.mem_singleton] at e; subst e; dsimp only; omega)), (by rw [← hs0]; exact hB1)⟩
  case done =>
    rintro D ys W hD rfl ⟨h1, hB1⟩ hK
    have h3 := blk_below hB1 (by omega) b6
    have h4 := blk_below hB1 (by omega) b7
    have f0 : ∀ j, W.frozen? ⟨s + 1, j, none⟩ = false := fun j => by simp [World.frozen?, h3]
    have f1 : ∀ j, W.frozen? ⟨s + 1 + 1, j, none⟩ = false := fun j => by simp [World.frozen?, h4]
    have g0 : W.cell? ⟨s + 1, 0, none⟩ = some (.int .i64 0) := by simp [World.cell?, h3]
    have g1 : W.cell? ⟨s + 1, 1, none⟩ = some (.string ⟨#[]⟩) := by simp [World.cell?, h3]
    have g2 : W.cell? ⟨s + 1, 2, none⟩ = some (.string ⟨#[]⟩) := by simp [World.cell?, h3]
    have g3 : W.cell? ⟨s + 1, 3, none⟩ = some (.bool false) := by simp [World.cell?, h3]
    have g4 : W.cell? ⟨s + 1 + 1, 0, none⟩ = some (.bool false) := by simp [World.cell?, h4]
    obtain rfl : none = R := (atB_none h1).symm.trans hR
    obtain ⟨p3, p4, pB, pK⟩ := put5 h3 h4 (.int .i64 0) (.string ⟨#[]⟩) (.string ⟨#[]⟩) (.bool false) (.bool false)
    have hK2 := pK.same D _ hK rfl
    gi_wp2
    have hD2 := (Array.getElem?_eq_some_iff.1 hK).1
    refine res5 (by omega) rfl rfl p3 p4 hK2 ⟨?_, ?_⟩
    · rw [← hrv]; rfl
    · rw [hs]
      have q := (hB0.trans (hB1.mono hsl)).trans (pB.mono (by omega))
      exact q.grown (grownBy_putObj' _ D _) (by have := q.size; omega) (fun j e => by cases e; omega)
  case stop =>
    rintro D c pre W hD ⟨j, hj, rfl⟩ ⟨⟨rfl, x, hx, h3, h4⟩, hB1⟩ hK
    obtain rfl : some x = R := (atB_hit hj hx).symm.trans hR
    gi_wp2
    refine res5 (by omega) rfl rfl h3 h4 hK ⟨?_, ?_⟩
    · rw [← hrv]; rfl
    · rw [hs]
      exact hB1.grown (grownBy_putObj' _ D _) (by have := hB1.size; omega) (fun j e => by cases e; omega)
end Go.Proofs.Ytpfdandpmpmbiaa
