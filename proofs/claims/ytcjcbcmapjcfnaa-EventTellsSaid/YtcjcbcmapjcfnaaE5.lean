/- slices.SortedFunc of a map's events, as a call of the clean machine.
   Conditions: the map's keys are the events' own, each once. -/
import Derived.Test.YtcjcbcmapjcfnaaVp
import Derived.Test.YtcjcbcmapjcfnaaE4
import Derived.StringKeys
namespace Go.Proofs.Ytcjcbcmapjcfnaa.V
open Go Go.RowKit Go.Maps Go.Sort Go.Shelf Go.Proofs Go.Proofs.Ytcjcbcmapjcfnaa Go.WideElems
set_option linter.unusedVariables false
set_option maxRecDepth 100000
set_option linter.unusedSimpArgs false

/-! ### A map's events -/
def decKV (e : Value × Value) : Option EvV := match e.1, e.2 with
  | .string s, .agg ⟨[.int .i64 a, .string k, .string x, .bool d]⟩ => bif (s.toList == k.toList) && Nat.ble k.toList.length maxLen then some ⟨a, k.toList, x, d⟩ else none
  | _, _ => none
def decKVs : List (Value × Value) → Option (List EvV)
  | [] => some []
  | e :: r => match decKV e with
    | some x => match decKVs r with | some l => some (x :: l) | none => none
    | none => none
theorem decKV_eq {e : Value × Value} {x : EvV} (h : decKV e = some x) : e = (encStr x.k, x.v) ∧ x.k.length ≤ maxLen := by
  obtain ⟨k0, v0⟩ := e
  unfold decKV at h
  dsimp only at h
  split at h
  · rename_i s a k x' d
    obtain ⟨hq, h⟩ := bif_some h
    cases h
    rw [Bool.and_eq_true] at hq
    have h1 : s.toList = k.toList := by simpa using hq.1
    refine ⟨?_, Nat.le_of_ble_eq_true hq.2⟩
    rw [str_enc s, h1]
    show (_, Value.agg #[.int .i64 a, .string k, .string x', .bool d]) = (_, Value.agg #[.int .i64 a, encStr k.toList, .string x', .bool d])
    rw [← str_enc k]
  · cases h
theorem decKVs_eq : ∀ {es : List (Value × Value)} {xs : List EvV}, decKVs es = some xs → es = xs.map (fun x => (encStr x.k, x.v)) ∧ ∀ x ∈ xs, x.k.length ≤ maxLen
  | [], xs, h => by cases h; exact ⟨rfl, fun x h => by cases h⟩
  | e :: r, xs, h => by
    unfold decKVs at h
    split at h
    · rename_i x hx
      split at h
      · rename_i l hl
        cases h
        obtain ⟨h1, h2⟩ := decKV_eq hx
        obtain ⟨h3, h4⟩ := decKVs_eq hl
        refine ⟨by rw [List.map_cons, ← h3, h1], fun y hy => ?_⟩
        rcases List.mem_cons.mp hy with q | q
        · subst q; exact h2
        · exact h4 y q
      · cases h
    · cases h
def insK (x : EvV) : List EvV → List EvV
  | [] => [x]
  | y :: r => bif Op.bytesLess y.k x.k then y :: insK x r else x :: y :: r
def sortK : List EvV → List EvV
  | [] => []
  | x :: r => insK x (sortK r)
theorem insK_perm (x : EvV) : ∀ l, (insK x l).Perm (x :: l)
  | [] => List.Perm.refl _
  | y :: r => by
    unfold insK
    cases Op.bytesLess y.k x.k with
    | true => exact ((insK_perm x r).cons y).trans (List.Perm.swap x y r)
    | false => exact List.Perm.refl _
theorem sortK_perm : ∀ xs : List EvV, (sortK xs).Perm xs
  | [] => List.Perm.refl _
  | x :: r => (insK_perm x _).trans ((sortK_perm r).cons x)
theorem insK_le (x : EvV) : ∀ l : List EvV, l.Pairwise (fun a b => Op.bytesLess b.k a.k = false) → (insK x l).Pairwise (fun a b => Op.bytesLess b.k a.k = false)
  | [], _ => List.pairwise_singleton _ _
  | y :: r, h => by
    unfold insK
    have h' := h
    rw [List.pairwise_cons] at h
    cases e : Op.bytesLess y.k x.k with
    | true =>
      rw [cond_true, List.pairwise_cons]
      refine ⟨fun z hz => ?_, insK_le x r h.2⟩
      rcases List.mem_cons.mp ((insK_perm x r).mem_iff.mp hz) with q | q
      · subst q
        cases e1 : Op.bytesLess z.k y.k with
        | false => rfl
        | true => have := bl_trans _ _ _ e e1; rw [bl_irrefl] at this; cases this
      · exact h.1 z q
    | false =>
      rw [cond_false, List.pairwise_cons]
      refine ⟨fun z hz => ?_, h'⟩
      rcases List.mem_cons.mp hz with q | q
      · subst q; exact e
      · cases e1 : Op.bytesLess z.k x.k with
        | false => rfl
        | true =>
          have h2 := h.1 z q
          cases e2 : Op.bytesLess y.k z.k with
          | true => have := bl_trans _ _ _ e2 e1; rw [e] at this; cases this
          | false => have := bl_total _ _ e2 h2; rw [this] at e; rw [e] at e1; cases e1
theorem sortK_le : ∀ xs : List EvV, (sortK xs).Pairwise (fun a b => Op.bytesLess b.k a.k = false)
  | [] => List.Pairwise.nil
  | x :: r => insK_le x _ (sortK_le r)
theorem sortK_ext {xs ys : List EvV} (hm : ∀ x, x ∈ ys ↔ x ∈ xs) (hn : (ys.map (·.k)).Nodup) (hx : (xs.map (·.k)).Nodup) (hs : ys.Pairwise (fun a b => Op.bytesLess b.k a.k = false)) : ys = sortK xs := by
  have strict : ∀ {l : List EvV}, (l.map (·.k)).Nodup → l.Pairwise (fun a b => Op.bytesLess b.k a.k = false) → l.Pairwise (fun a b => Op.bytesLess a.k b.k = true) := by
    intro l h1 h2
    unfold List.Nodup at h1
    rw [List.pairwise_map] at h1
    refine (h1.and h2).imp (fun {a b} q => ?_)
    cases e : Op.bytesLess a.k b.k with
    | true => rfl
    | false => exact absurd (bl_total _ _ e q.2) q.1
  refine sorted_ext (R := fun a b : EvV => Op.bytesLess a.k b.k = true) (fun a h => by rw [bl_irrefl] at h; cases h) (fun a b h h2 => by have := bl_trans _ _ _ h h2; rw [bl_irrefl] at this; cases this)
    (strict hn hs) (strict (((sortK_perm xs).map _).nodup_iff.mpr hx) (sortK_le xs)) (fun x => by rw [hm, (sortK_perm xs).mem_iff])
def sortedP (args : List Value) (h : Heap) : Option (Value × Heap) := match args with
  | [.func (.func g) ⟨[]⟩ ⟨[.pointer (some ⟨b, 0, none⟩)]⟩, .func (.func c) ⟨[]⟩ ⟨[]⟩] => bif Nat.beq g 45 && Nat.beq c 32 then (match h.get b with
    | some (.cells [.map (some m)] _) => match h.get m with
      | some (.map es) => match decKVs es with
        | some xs => bif nodupB (xs.map (·.k)) && Nat.ble xs.length 1000000 then
            (bif xs.isEmpty then some (.slice none 0 0, h) else some (.slice (some ⟨h.n, 0, some 0⟩) xs.length xs.length, h.alloc (.cells ((sortK xs).flatMap EvV.cs) 40))) else none
        | none => none
      | _ => none
    | _ => none) else none
  | _ => none
theorem sortedP_framed : Framed (fun _ => sortedP) := by
  intro S f h g args v' f' m hc
  simp only [sortedP] at hc ⊢
  split at hc
  case h_2 => cases hc
  obtain ⟨hq, hc⟩ := bif_some hc
  simp only [hq, cond_true]
  split at hc
  case h_2 => cases hc
  rename_i hg
  rw [m.cells hg]
  dsimp only
  split at hc
  case h_2 => cases hc
  rename_i hg2
  rw [m.map hg2]
  dsimp only
  split at hc
  case h_2 => cases hc
  rename_i xs hd
  obtain ⟨hq2, hc⟩ := bif_some hc
  simp only [hq2, cond_true]
  cases he : xs.isEmpty with
  | true => rw [he] at hc; simp only [cond_true] at hc ⊢; cases hc; exact ⟨h, rfl, m, Kept.refl _ _⟩
  | false =>
    rw [he] at hc
    simp only [cond_false] at hc ⊢
    cases hc
    obtain ⟨m1, k1⟩ := m.alloc (.cells ((sortK xs).flatMap EvV.cs) 40)
    exact ⟨_, by rw [m.n], m1, k1⟩
/-- The map's entries, as the world has them. -/
theorem ents_of {β : Inj} : ∀ {xs : List EvV} {l : List MapEntry}, MRs β (xs.map (fun x => (encStr x.k, x.v))) l → l.map (·.key) = xs.map (fun x => encStr x.k) ∧ l.map (·.val) = xs.map (fun x => x.v)
  | [], [], _ => ⟨rfl, rfl⟩
  | [], _ :: _, h => h.elim
  | _ :: _, [], h => h.elim
  | x :: xs, e :: l, h => by
    obtain ⟨⟨_, h1⟩, h2, h3⟩ := h
    obtain ⟨g1, g2⟩ := ents_of h3
    have := plain_eq 4 (v := x.v) rfl h2
    exact ⟨by rw [List.map_cons, List.map_cons, h1, g1], by rw [List.map_cons, List.map_cons, this, g2]⟩
theorem map_owns {w : World} {B clock : Nat} {ents : Array MapEntry} {xs : List EvV} (hB : w.heap[B]? = some (.map ents clock)) (hk : ents.toList.map (·.key) = xs.map (fun x => encStr x.k)) (hv : ents.toList.map (·.val) = xs.map (fun x => x.v))
    (hr : Rise clock ents.toList) (hn : (xs.map (·.k)).Nodup) (hl : xs.length ≤ 1000000) (hs : ∀ x ∈ xs, x.k.length ≤ maxLen) :
    ∃ D0, w.ownsMap Try.prog 9 Rv B ents.size D0 ∧ Maps.size D0 ≤ 1000000 ∧ (∀ k, has D0 (.string k) = true ↔ ∃ x ∈ xs, x.k = k) ∧ (∀ x ∈ xs, ∀ z, D0.atKey (.string x.k) z = .held x.v) := by
  have ty9 : Try.prog.underlying 9 = some .string := by kernel_rfl
  have hlen : ents.size = xs.length := by have := congrArg List.length hk; simpa using this
  have hml : maxLen = 9223372036854775807 := rfl
  have hrg : ents.toList.map (WideElems.rg Try.prog 9 Rv) = xs.map (fun x => (Lit.string x.k, DataW.held x.v)) ∧ ∀ e ∈ ents.toList, ∃ y, WideElems.rd Try.prog 9 Rv e = some y := by
    have gen : ∀ (l : List MapEntry) (xs : List EvV), l.map (·.key) = xs.map (fun x => encStr x.k) → l.map (·.val) = xs.map (fun x => x.v) → (∀ x ∈ xs, x.k.length ≤ maxLen) →
        l.map (WideElems.rg Try.prog 9 Rv) = xs.map (fun x => (Lit.string x.k, DataW.held x.v)) ∧ ∀ e ∈ l, ∃ y, WideElems.rd Try.prog 9 Rv e = some y := by
      intro l
      induction l with
      | nil => intro xs h _ _; cases xs with
        | nil => exact ⟨rfl, fun e h => by cases h⟩
        | cons _ _ => cases h
      | cons e l ih =>
        intro xs h1 h2 h3
        cases xs with
        | nil => cases h1
        | cons x xs =>
          rw [List.map_cons, List.map_cons, List.cons.injEq] at h1 h2
          obtain ⟨g1, g2⟩ := ih xs h1.2 h2.2 (fun y hy => h3 y (List.mem_cons_of_mem _ hy))
          have hrd : WideElems.rd Try.prog 9 Rv e = some (.string x.k, .held x.v) := by
            obtain ⟨key, val, born⟩ := e
            have e1 : key = encStr x.k := h1.1
            have e2 : val = x.v := h2.1
            subst e1 e2
            refine (rd_mk (yv := (.held x.v, [])) (WideMaps.keyOf_string_mk ty9 (s := ⟨x.k.toArray⟩) (by rw [encStr_size]; exact h3 x List.mem_cons_self)) rfl).trans ?_
            simp
          refine ⟨by rw [List.map_cons, List.map_cons, g1, rg_of hrd], fun e' he' => ?_⟩
          rcases List.mem_cons.mp he' with q | q
          · subst q; exact ⟨_, hrd⟩
          · exact g2 e' q
    exact gen _ _ hk hv hs
  have hF : Fit Try.prog 9 Rv ents clock := by
    refine ⟨by omega, ⟨hr.2, hr.1.imp (fun {a b} h => Nat.ne_of_lt h), ?_⟩, hrg.2⟩
    rw [hk, show xs.map (fun x => encStr x.k) = (xs.map (·.k)).map encStr by rw [List.map_map]; rfl]
    unfold List.Nodup at hn ⊢
    rw [List.pairwise_map]
    exact hn.imp (fun {a b} h e => h (encStr_inj e))
  have hown : w.ownsMap Try.prog 9 Rv B ents.size (.map ((ents.toList.map (WideElems.rg Try.prog 9 Rv)).foldr DataW.insert [])) := ⟨ents, clock, hB, hF, Nat.le_refl _, rfl⟩
  refine ⟨_, hown, ?_, fun k => ?_, fun x hx z => ?_⟩
  · rw [size_eq, Go.length_sorted]; simp; omega
  · rw [has_eq, List.any_eq_true]
    constructor
    · rintro ⟨p, hp, he⟩
      rw [mem_sorted, hrg.1, List.mem_map] at hp
      obtain ⟨x, hx, rfl⟩ := hp
      exact ⟨x, hx, by simpa [Lit.sameKey] using he⟩
    · rintro ⟨x, hx, rfl⟩
      exact ⟨(.string x.k, .held x.v), by rw [mem_sorted, hrg.1, List.mem_map]; exact ⟨x, hx, rfl⟩, by simp [Lit.sameKey]⟩
  · obtain ⟨es, he, hpw, hky⟩ := hown.entries (string_keyed ty9)
    have hin : (Lit.string x.k, DataW.held x.v) ∈ (ents.toList.map (WideElems.rg Try.prog 9 Rv)).foldr DataW.insert [] := by
      rw [mem_sorted, hrg.1, List.mem_map]; exact ⟨x, hx, rfl⟩
    have he' : (ents.toList.map (WideElems.rg Try.prog 9 Rv)).foldr DataW.insert [] = es := by simpa using he
    rw [he'] at hin ⊢
    exact WideAt.atKey_mem z (hky _ hin) hpw hin
theorem cs_plain (x : EvV) : ∀ v ∈ EvV.cs x, plainN 4 v = true := by
  intro v hv
  simp [EvV.cs] at hv
  rcases hv with rfl | rfl | rfl | rfl <;> rfl
theorem perm_mem {xs ys : List EvV} (h : PermIn 0 xs.length xs.toArray ys.toArray) : ys.Perm xs := by
  have h1 := h.2.2
  have h2 := h.1
  have e1 : (xs.toArray.extract 0 xs.length).toList = xs := by simp
  have e2 : (ys.toArray.extract 0 xs.length).toList = ys := by
    have : ys.length = xs.length := by simpa using h2
    simp [← this]
  rw [e1, e2] at h1
  exact h1
theorem sortedP_ok (hnone : ∀ W : World, Calls Try.prog 44 #[.slice none 0 0, .func (.func 32) #[] #[]] W fun e w' => e = .returned (.tuple #[]) ∧ RowKit.Below W.heap.size W w') :
    ∀ args hp v hp', sortedP args hp = some (v, hp') → ∀ Wr β w (args' : Array Value), Sim Try.prog Wr β hp w → VRs β args args'.toList → Calls Try.prog 30 args' w (Out Try.prog Wr β hp hp' v w) := by
  intro args hp v hp' hk Wr β w args' S ha
  unfold sortedP at hk
  split at hk
  case h_2 => cases hk
  rename_i g b c
  have hq := (bif_some hk).1
  replace hk := (bif_some hk).2
  rw [Bool.and_eq_true] at hq
  have hg := Nat.eq_of_beq_eq_true hq.1
  have hc := Nat.eq_of_beq_eq_true hq.2
  subst hg hc
  split at hk
  case h_2 => cases hk
  rename_i m T hgb
  split at hk
  case h_2 => cases hk
  rename_i es hgm
  split at hk
  case h_2 => cases hk
  rename_i xs hd
  have hq2 := (bif_some hk).1
  replace hk := (bif_some hk).2
  rw [Bool.and_eq_true, nodupB_iff] at hq2
  have hnd := hq2.1
  have hxl : xs.length ≤ 1000000 := Nat.le_of_ble_eq_true hq2.2
  obtain ⟨hes, hks⟩ := decKVs_eq hd
  -- the arguments, as the world has them
  obtain ⟨l⟩ := args'
  cases ha with | @cons _ a1 _ l1 h1 ha => ?_
  cases ha with | @cons _ a2 _ l2 h2 ha => ?_
  cases ha
  cases h1 with | @func _ _ f1 _ c1 hf1 hc1 => ?_
  cases h2 with | @func _ _ f2 _ c2 hf2 hc2 => ?_
  obtain ⟨f1⟩ := f1; obtain ⟨c1⟩ := c1; obtain ⟨f2⟩ := f2; obtain ⟨c2⟩ := c2
  cases hf1
  cases hf2
  cases hc2
  cases hc1 with | @cons _ p1 _ l1 hp1 hc1 => ?_
  cases hc1
  cases hp1 with | @ptr _ p' hp1 => ?_
  cases hp1 with | @new _ _ B s N k hB => ?_
  obtain ⟨B', s', C, fr, g1, g2, g3, g4, g5⟩ := S.live _ _ _ hgb
  rw [hB] at g1; cases g1
  obtain ⟨v', e1, e2⟩ := g5 0 _ rfl
  cases e2 with | @map _ Bm hBm => ?_
  obtain ⟨B2, ents, clock, q1, q2, q3, q4⟩ := S.liveM _ _ hgm
  rw [hBm] at q1; cases q1
  rw [hes] at q3
  obtain ⟨k1, k2⟩ := ents_of q3
  obtain ⟨D0, hown, hsz, hhas, hat⟩ := map_owns q2 k1 k2 q4 hnd hxl hks
  have hcell : w.cell? ⟨B, s, none⟩ = some (.map (some Bm)) := by rw [cell_of g2, ← e1, Nat.add_zero]
  have hlt : B < w.heap.size := lt_of_get g2
  refine (sortedFunc B s Bm _ D0 w hlt hcell hown hsz hnone).mono ?_
  rintro e w' ⟨v, xs', ys, rfl, ⟨ps, ⟨a1, a2, a3⟩, rfl⟩, hp1, hs1, hrow, hnil, hb⟩
  -- the same events
  have hps : ∀ p ∈ ps, p.2 ∈ xs ∧ p.1 = p.2.k := by
    intro p hp
    obtain ⟨x, hx, hxk⟩ := (hhas p.1).mp ((a2 p.1).mp (List.mem_map.mpr ⟨p, hp, rfl⟩))
    have h1 := a3 p hp .nil
    rw [← hxk, hat x hx] at h1
    have h2 : x.v = p.2.v := by simpa using h1
    have h3 : x = p.2 := by
      obtain ⟨xa, xk, xx, xd⟩ := x
      obtain ⟨p1, pa, pk, px, pd⟩ := p
      simp [EvV.v, encStr] at h2
      obtain ⟨rfl, h4, rfl, rfl⟩ := h2
      have : xk = pk := by simpa using h4
      subst this; rfl
    subst h3
    exact ⟨hx, hxk.symm⟩
  have hperm := perm_mem hp1
  have hmem : ∀ x, x ∈ ys ↔ x ∈ xs := by
    intro x
    rw [hperm.mem_iff, List.mem_map]
    constructor
    · rintro ⟨p, hp, rfl⟩; exact (hps p hp).1
    · intro hx
      have h1 := (a2 x.k).mpr ((hhas x.k).mpr ⟨x, hx, rfl⟩)
      obtain ⟨p, hp, hpk⟩ := List.mem_map.mp h1
      obtain ⟨r1, r2⟩ := hps p hp
      refine ⟨p, hp, ?_⟩
      rw [r2] at hpk
      obtain ⟨i, hi⟩ := List.mem_iff_getElem?.mp r1
      obtain ⟨j, hj⟩ := List.mem_iff_getElem?.mp hx
      have h3 : (xs.map (·.k))[i]? = (xs.map (·.k))[j]? := by rw [List.getElem?_map, List.getElem?_map, hi, hj]; simp [hpk]
      obtain ⟨hil, _⟩ := List.getElem?_eq_some_iff.mp hi
      have := (List.getElem?_inj (by simpa using hil) hnd).mp h3
      subst this
      rw [hi] at hj; exact Option.some.inj hj
  have hyn : (ys.map (·.k)).Nodup := by
    rw [(hperm.map _).nodup_iff, List.map_map, show ps.map ((fun x : EvV => x.k) ∘ fun x => x.2) = ps.map (·.1) from List.map_congr_left (fun p hp => ((hps p hp).2).symm)]
    exact a1
  have hyl : ys.length = ps.length := by have := hperm.length_eq; simpa using this
  have hys : ys.Pairwise (fun a b => Op.bytesLess b.k a.k = false) := by
    rw [List.pairwise_iff_getElem]
    intro i j hi hj hij
    have := hs1 i j (Nat.zero_le _) hij (by simpa [← hyl] using hj)
    rw [ltK] at this
    simpa [hi, hj] using this
  have hsort : ys = sortK xs := sortK_ext hmem hyn hnd hys
  have hlen : ys.length = xs.length := by rw [hsort, (sortK_perm xs).length_eq]
  have ex : Ext w w' := Ext.of_below hb
  cases he : xs.isEmpty with
  | true =>
    rw [he] at hk
    simp only [cond_true] at hk
    cases hk
    have hx0 : xs = [] := List.isEmpty_iff.mp he
    have hy0 : ys = [] := by rw [hx0] at hlen; exact List.eq_nil_of_length_eq_zero hlen
    have := hnil.mpr hy0
    subst this
    exact ⟨_, β, rfl, Up.refl _ β, S.ext ex, .sliceNil _ _, Ext.frame S ex, Lm.refl _⟩
  | false =>
    rw [he] at hk
    simp only [cond_false] at hk
    cases hk
    have hx0 : xs ≠ [] := fun e => by rw [e] at he; cases he
    have hy0 : ys.length ≠ 0 := by
      rw [hlen]; intro e; exact hx0 (List.eq_nil_of_length_eq_zero e)
    rcases hrow.2 with ⟨_, hz⟩ | ⟨gb, cap, cur, rfl, hbase, hgb2, r1, r2, r3, r4⟩
    · exact absurd hz hy0
    · have hfl : ((sortK xs).flatMap EvV.cs).length = ys.length * 4 := by rw [← hsort, Go.Proofs.Ytcjcbcmapjcfnaa.flat_len]
      obtain ⟨β', u1, u2, u3, u4⟩ := S.newRow hb hbase hgb2 (cs := (sortK xs).flatMap EvV.cs) (by rw [hfl, r4, ← hsort]) (by rw [hfl, r3]; exact Nat.mul_le_mul_right 4 r1)
        (fun v hv => by obtain ⟨x, _, hx⟩ := List.mem_flatMap.mp hv; exact cs_plain x v hx)
      refine ⟨_, β', rfl, u1, u3, ?_, u4, Lm.alloc _ _⟩
      rw [hlen]
      exact .slack u2 _ (by omega) (by rw [r3]; show 0 + 0 + cap * 4 ≤ cap * 4; omega)
end Go.Proofs.Ytcjcbcmapjcfnaa.V
