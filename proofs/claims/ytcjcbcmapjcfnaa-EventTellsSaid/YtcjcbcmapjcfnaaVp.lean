/- What calls of the library's own share.
   No condition beyond what stands in each statement. -/
import Derived.Test.YtcjcbcmapjcfnaaVc
import Derived.Test.YtcjcbcmapjcfnaaMb
import Derived.Sort.KeysCollected
import Derived.StringKeys
namespace Go.Proofs.Ytcjcbcmapjcfnaa.V
open Go Go.RowKit Go.Maps Go.Sort Go.Shelf Go.Proofs Go.WideElems
set_option linter.unusedVariables false
set_option linter.unusedSimpArgs false

/-- A row that a contract has laid anew. -/
theorem Sim.newRow {P : Program} {Wr : Nat → Prop} {β : Inj} {hp : Heap} {w w' : World} (S : Sim P Wr β hp w) (hb : RowKit.Below w.heap.size w w') {g : Nat} {cur : Array Value} {T : TypeId} (hg : w.heap.size ≤ g)
    (hgb : w'.heap[g]? = some (.cells cur T (0, 0))) {cs : List Value} (hcs : cur.toList.take cs.length = cs) (hlen : cs.length ≤ cur.size) (hpl : ∀ v ∈ cs, plainN 4 v = true) :
    ∃ β', Up hp.n β β' ∧ β' hp.n = some ⟨g, 0, cur.size, P.cellsOf T⟩ ∧ Sim P Wr β' (hp.alloc (.cells cs T)) w' ∧ FrameW Wr w w' := by
  have e : Ext w w' := Ext.of_below hb
  obtain ⟨g1, g2⟩ := (S.ext e).addO (o := .cells cs T) (x := ⟨g, 0, cur.size, P.cellsOf T⟩)
    (fun b' x' _ hb => by have := S.img b' x' hb; simp; omega) (S.fresh g hg) (Array.getElem?_eq_some_iff.1 hgb).1
    ⟨cur, (0, 0), rfl, rfl, hgb, Unfrozen.none _, by simpa using hlen, fun i v hv => ⟨v, by
      have h1 : i < cs.length := (List.getElem?_eq_some_iff.mp hv).1
      rw [← hcs, List.getElem?_take, if_pos h1] at hv
      simpa using hv, VR.plain 4 _ (hpl v (List.mem_of_getElem? hv))⟩⟩
  exact ⟨_, g2, by simp [upd], g1, Ext.frame S e⟩

theorem str_enc (s : ByteArray) : Value.string s = encStr s.toList := by
  show Value.string s = Value.string ⟨s.toList.toArray⟩
  rw [toList_arr]
def nodupB : List (List UInt8) → Bool
  | [] => true
  | x :: r => !r.contains x && nodupB r
theorem nodupB_iff : ∀ {l : List (List UInt8)}, nodupB l = true ↔ l.Nodup
  | [] => ⟨fun _ => List.nodup_nil, fun _ => rfl⟩
  | x :: r => by
    unfold nodupB
    rw [Bool.and_eq_true, List.nodup_cons, nodupB_iff]
    simp

theorem encStr_size (x : List UInt8) : (⟨x.toArray⟩ : ByteArray).size = x.length := by simp [ByteArray.size]
/-- A closed call, at whatever world. -/
theorem closed_call {E : Env} (hE : SideOK E) {f : FuncId} {args : List Value} {args' : Array Value} {v : Value} {n : Nat} (ha : ∀ β, VRs β args args'.toList) (hp : plainN 4 v = true)
    (hr : (match run E n f args heapE with | some (u, _) => u = v | none => False)) (W : World) : Calls E.P f args' W fun e w' => e = .returned v ∧ RowKit.Below W.heap.size W w' := by
  split at hr
  · rename_i u h2 hrun
    subst hr
    refine (run_ok hE n f args _ _ _ hrun _ _ W args' (simE E.P W) (ha _)).mono ?_
    rintro e w' ⟨v2, β', rfl, _, _, hv, hf, _⟩
    have := plain_eq 4 hp hv
    subst this
    exact ⟨rfl, hf.os, hf.tape, hf.output, hf.size, fun k hk => hf.block k (Nat.not_le.mpr hk)⟩
  · cases hr
theorem blU_lt : ∀ x y : List UInt8, (x < y) ↔ Op.bytesLess x y = true
  | [], [] => by simp [Op.bytesLess]
  | [], b :: y => by simp [Op.bytesLess]
  | a :: x, [] => by simp [Op.bytesLess]
  | a :: x, b :: y => by
    rw [List.cons_lt_cons_iff, blU_lt x y]
    simp only [Op.bytesLess, Bool.or_eq_true, Bool.and_eq_true, decide_eq_true_eq, beq_iff_eq]
theorem blU_le (x y : List UInt8) : (decide (x ≤ y)) = !Op.bytesLess y x := by
  cases e : Op.bytesLess y x with
  | true =>
    have h := (blU_lt y x).mpr e
    have : ¬ x ≤ y := fun q => (List.not_lt.mpr q) h
    simp [this]
  | false =>
    have : x ≤ y := List.not_lt.mp (fun q => by rw [(blU_lt y x).mp q] at e; cases e)
    simp [this]
theorem sortL_specU (zs : List (List UInt8)) : (sortL zs).Perm zs ∧ (sortL zs).Pairwise (fun a b => Op.bytesLess b a = false) := by
  refine ⟨List.mergeSort_perm _ _, ?_⟩
  have h := List.pairwise_mergeSort (le := fun x y : List UInt8 => decide (x ≤ y)) (fun a b c h1 h2 => by
    rw [blU_le] at h1 h2 ⊢
    cases e : Op.bytesLess c a with
    | false => rfl
    | true =>
      cases e1 : Op.bytesLess a b with
      | true => rw [bl_trans _ _ _ e e1] at h2; cases h2
      | false =>
        have e2 : Op.bytesLess b a = false := by simpa using h1
        have := bl_total _ _ e1 e2
        subst this
        rw [e] at h2; cases h2) (fun a b => by
    rw [blU_le, blU_le]
    cases e : Op.bytesLess b a with
    | false => rfl
    | true =>
      cases e1 : Op.bytesLess a b with
      | false => rfl
      | true => have := bl_trans _ _ _ e e1; rw [bl_irrefl] at this; cases this) zs
  refine h.imp (fun {a b} q => ?_)
  rw [blU_le] at q
  simpa using q

def insU (x : List UInt8) : List (List UInt8) → List (List UInt8)
  | [] => [x]
  | y :: r => if Op.bytesLess y x then y :: insU x r else x :: y :: r
def sortU : List (List UInt8) → List (List UInt8)
  | [] => []
  | x :: r => insU x (sortU r)
theorem insU_perm (x : List UInt8) : ∀ l, (insU x l).Perm (x :: l)
  | [] => List.Perm.refl _
  | y :: r => by
    unfold insU
    split
    · exact ((insU_perm x r).cons y).trans (List.Perm.swap x y r)
    · exact List.Perm.refl _
theorem sortU_perm : ∀ xs : List (List UInt8), (sortU xs).Perm xs
  | [] => List.Perm.refl _
  | x :: r => (insU_perm x _).trans ((sortU_perm r).cons x)
theorem insU_le (x : List UInt8) : ∀ l : List (List UInt8), l.Pairwise (fun a b => Op.bytesLess b a = false) → (insU x l).Pairwise (fun a b => Op.bytesLess b a = false)
  | [], _ => List.pairwise_singleton _ _
  | y :: r, h => by
    have h' := h
    rw [List.pairwise_cons] at h
    unfold insU
    cases e : Op.bytesLess y x with
    | true =>
      rw [if_pos rfl, List.pairwise_cons]
      refine ⟨fun z hz => ?_, insU_le x r h.2⟩
      rcases List.mem_cons.mp ((insU_perm x r).mem_iff.mp hz) with q | q
      · subst q
        cases e2 : Op.bytesLess z y with
        | false => rfl
        | true => have := bl_trans _ _ _ e e2; rw [bl_irrefl] at this; cases this
      · exact h.1 z q
    | false =>
      rw [if_neg (by simp), List.pairwise_cons]
      refine ⟨fun z hz => ?_, h'⟩
      rcases List.mem_cons.mp hz with q | q
      · subst q; exact e
      · cases e2 : Op.bytesLess z x with
        | false => rfl
        | true =>
          have h1 := h.1 z q
          cases e3 : Op.bytesLess x y with
          | true => have := bl_trans _ _ _ e2 e3; rw [h1] at this; cases this
          | false => have := bl_total _ _ e e3; rw [this] at h1; rw [h1] at e2; cases e2
theorem sortU_le : ∀ xs : List (List UInt8), (sortU xs).Pairwise (fun a b => Op.bytesLess b a = false)
  | [] => List.Pairwise.nil
  | x :: r => insU_le x _ (sortU_le r)
theorem strictU {l : List (List UInt8)} (h1 : l.Nodup) (h2 : l.Pairwise (fun a b => Op.bytesLess b a = false)) : l.Pairwise (fun a b => Op.bytesLess a b = true) := by
  unfold List.Nodup at h1
  refine (h1.and h2).imp (fun {a b} q => ?_)
  cases e : Op.bytesLess a b with
  | true => rfl
  | false => exact absurd (bl_total _ _ e q.2) q.1
theorem sortU_eq {xs : List (List UInt8)} (h : xs.Nodup) : sortU xs = sortL xs := by
  obtain ⟨h1, h2⟩ := sortL_specU xs
  refine sorted_ext (R := fun a b : List UInt8 => Op.bytesLess a b = true) (fun a h => by rw [bl_irrefl] at h; cases h) (fun a b h h2 => by have := bl_trans _ _ _ h h2; rw [bl_irrefl] at this; cases this)
    (strictU ((sortU_perm xs).nodup_iff.mpr h) (sortU_le xs)) (strictU (h1.nodup_iff.mpr h) h2) (fun x => by rw [(sortU_perm xs).mem_iff, h1.mem_iff])
end Go.Proofs.Ytcjcbcmapjcfnaa.V
