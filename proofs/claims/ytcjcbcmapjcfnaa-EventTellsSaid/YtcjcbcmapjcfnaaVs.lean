/- Calls that sort, or strike what is there twice, told by the library's own contracts.
   Conditions: of the program: its bodies are those of the contracts (closed facts, by the kernel). -/
import Derived.Test.YtcjcbcmapjcfnaaV23
import Derived.Shelf.Sort.Plain
import Derived.Shelf.Slices.In.SortNone
import Derived.Shelf.Slices.CompactS
namespace Go.Proofs.Ytcjcbcmapjcfnaa.V
open Go
set_option linter.unusedVariables false
set_option linter.unusedSimpArgs false
set_option linter.unusedSectionVars false

section
variable {α : Type} [Inhabited α]

/-- How an element lies in a cell, and back. -/
structure Cell (enc : α → Value) (dec : Value → Option α) : Prop where
  one : ∀ x, cellOk (enc x) = true
  pl : ∀ x, plainN 4 (enc x) = true
  dec : ∀ v x, dec v = some x → v = enc x

def decL (dec : Value → Option α) : List Value → Option (List α)
  | [] => some []
  | v :: r => match dec v with
    | some x => match decL dec r with | some l => some (x :: l) | none => none
    | none => none
theorem decL_eq {enc : α → Value} {dec : Value → Option α} (hc : Cell enc dec) : ∀ {vs : List Value} {xs : List α}, decL dec vs = some xs → vs = xs.map enc
  | [], xs, h => by cases h; rfl
  | v :: r, xs, h => by
    unfold decL at h
    split at h
    · rename_i x hx
      split at h
      · rename_i l hl
        cases h
        rw [List.map_cons, ← decL_eq hc hl, hc.dec v x hx]
      · cases h
    · cases h

def spotOk : Option Nat → Bool
  | none => true
  | some 0 => true
  | _ => false

/-- The elements of a slice of a block that may be written, and the block. -/
def rowOf (dec : Value → Option α) (a : Option Addr) (n : Nat) (h : Heap) : Option (Nat × Nat × List Value × TypeId × List α) := match a with
  | some ⟨b, o, s⟩ => bif spotOk s then match h.get b with
    | some (.cells c T) => bif Nat.ble h.lim b && Nat.ble (o + n) c.length && Nat.blt n 4611686018427387904 then match decL dec ((c.drop o).take n) with
      | some xs => some (b, o, c, T, xs)
      | none => none
      else none
    | _ => none
    else none
  | none => none

/-- A slice as it is in the world. -/
theorem slice_in {β : Inj} {b o n c : Nat} {s : Option Nat} {v : Value} (hs : spotOk s = true) (h : VR β (.slice (some ⟨b, o, s⟩) n c) v) :
    ∃ B S N k c', β b = some ⟨B, S, N, k⟩ ∧ v = .slice (some ⟨B, S + o, none⟩) n c' ∧ c ≤ c' ∧ ∀ m, VR β (.slice (some ⟨b, o, s⟩) m c) (.slice (some ⟨B, S + o, none⟩) m c') := by
  cases h with
  | @slice a a' h l c' =>
    cases h with
    | @new b o B S N k h => exact ⟨B, S, N, k, _, h, rfl, Nat.le_refl _, fun m => .slice (.new h) m _⟩
    | base => simp [spotOk] at hs
    | odd => simp [spotOk] at hs
  | slack h l hc hn => exact ⟨_, _, _, _, _, h, rfl, hc, fun m => .slack h m hc hn⟩
  | opq a c => simp [spotOk] at hs

/-- A row, written anew. -/
theorem row_ok {P : Program} {Wr : Nat → Prop} {β : Inj} {h : Heap} {w : World} {enc : α → Value} {dec : Value → Option α} (hc : Cell enc dec) (S : Sim P Wr β h w) {a : Option Addr} {n b o : Nat} {c : List Value} {T : TypeId} {xs : List α}
    (hr : rowOf dec a n h = some (b, o, c, T, xs)) {B s N k : Nat} (hb : β b = some ⟨B, s, N, k⟩) :
    (∃ sp, a = some ⟨b, o, sp⟩ ∧ spotOk sp = true) ∧ xs.length = n ∧ n < 4611686018427387904 ∧ B < w.heap.size ∧ Sort.Holds enc w B (s + o) xs.toArray ∧
      ∀ (ys : List α), ys.length = n → ∀ m os, Sim P Wr β (h.set b (.cells (splice c o (ys.map enc)) T)) (Sort.grow (Sort.putRow enc (Sort.ahead w m) B (s + o) ys.toArray) os) ∧
        FrameW Wr w (Sort.grow (Sort.putRow enc (Sort.ahead w m) B (s + o) ys.toArray) os) := by
  unfold rowOf at hr
  split at hr
  case h_2 => cases hr
  rename_i b' o' sp
  obtain ⟨hsp, hr⟩ := bif_some hr
  split at hr
  case h_2 => cases hr
  rename_i c' T' hg
  obtain ⟨hq, hr⟩ := bif_some hr
  split at hr
  case h_2 => cases hr
  rename_i xs' hd
  cases hr
  rw [Bool.and_eq_true, Bool.and_eq_true] at hq
  obtain ⟨⟨hlim, hoff⟩, hsmall⟩ := hq
  have hlim : h.lim ≤ b := Nat.le_of_ble_eq_true hlim
  have hoff : o + n ≤ c.length := Nat.le_of_ble_eq_true hoff
  have hsmall : n < 4611686018427387904 := by simpa [Nat.blt_eq] using hsmall
  have hx := decL_eq hc hd
  have hxl : xs.length = n := by
    have := congrArg List.length hx
    rw [List.length_take, List.length_drop, List.length_map] at this; omega
  obtain ⟨B', s', C, fr, g1, g2, g3, g4, g5⟩ := S.live _ _ _ hg
  rw [hb] at g1; cases g1
  have hBlt := lt_of_get g2
  have cellx : ∀ j, j < n → ∃ x, xs[j]? = some x ∧ c[o + j]? = some (enc x) := by
    intro j hj
    have h1 : xs[j]? = some xs[j] := List.getElem?_eq_getElem (by omega)
    refine ⟨xs[j], h1, ?_⟩
    have h2 : ((c.drop o).take n)[j]? = some (enc xs[j]) := by rw [hx, List.getElem?_map, h1]; rfl
    rw [List.getElem?_take, if_pos hj, List.getElem?_drop] at h2
    exact h2
  refine ⟨⟨sp, rfl, hsp⟩, hxl, hsmall, hBlt, ?_, ?_⟩
  · intro j hj
    have hj : j < n := by simpa [hxl] using hj
    obtain ⟨x, e1, e2⟩ := cellx j hj
    obtain ⟨v', e3, e4⟩ := g5 _ _ e2
    have e5 := plain_eq 4 (hc.pl x) e4
    subst e5
    have ex : xs.toArray[j]! = x := by
      rw [getElem!_pos _ j (by simp; omega)]
      simp only [List.getElem_toArray]
      have := List.getElem?_eq_getElem (l := xs) (i := j) (by omega)
      rw [e1] at this; exact (Option.some.inj this).symm
    have hlt : s + (o + j) < C.size := by omega
    refine ⟨?_, ?_⟩
    · rw [cell_of g2, show s + o + j = s + (o + j) by omega, e3, ex]
    · unfold World.frozen?
      simp only
      rw [g2]
      simp only [show s + o + j = s + (o + j) by omega]
      exact g3 _ (Nat.le_of_lt hlt)
  · intro ys hyl m os
    have alv : alive h b := ⟨_, hg, by simp⟩
    let w1 : World := Sort.putRow enc w B (s + o) ys.toArray
    have hw1 : ∀ k, k ≠ B → w1.heap[k]? = w.heap[k]? := by
      intro k hk
      show (w.heap.modify B _)[k]? = _
      rw [Array.getElem?_modify, if_neg (fun e => hk e.symm)]
    have hw1B : w1.heap[B]? = some (.cells (Sort.putCells enc (s + o) ys.toArray C) T fr) := by
      show (w.heap.modify B _)[B]? = _
      rw [Array.getElem?_modify, if_pos rfl, g2]; rfl
    have hsz : (Sort.putCells enc (s + o) ys.toArray C).size = C.size := by unfold Sort.putCells; simp
    have hO : OOK P β ⟨B, s, C.size, P.cellsOf T⟩ w1 (.cells (splice c o (ys.map enc)) T) := by
      refine ⟨_, fr, hsz.symm, rfl, hw1B, by rw [hsz]; exact g3, by rw [splice_len _ _ _ (by rw [List.length_map]; omega), hsz]; exact g4, ?_⟩
      intro i v hi
      rw [splice_get _ _ _ (by rw [List.length_map]; omega)] at hi
      show ∃ v', (Sort.putCells enc (s + o) ys.toArray C)[s + i]? = some v' ∧ _
      unfold Sort.putCells
      rw [Array.getElem?_mapIdx]
      have hsi : s + i < C.size := by
        have : i < c.length := by
          split at hi
          · rw [List.length_map] at *; omega
          · rcases Nat.lt_or_ge i c.length with q | q
            · exact q
            · rw [List.getElem?_eq_none q] at hi; cases hi
        omega
      rw [Array.getElem?_eq_getElem hsi, Option.map_some]
      split at hi
      · rename_i q
        rw [List.length_map] at q
        rw [if_pos (by simp; omega)]
        rw [List.getElem?_map, List.getElem?_eq_getElem (by omega), Option.map_some] at hi
        cases hi
        refine ⟨_, rfl, ?_⟩
        have : ys.toArray[s + i - (s + o)]! = ys[i - o]'(by omega) := by
          rw [getElem!_pos _ _ (by simp; omega)]
          simp only [List.getElem_toArray]
          congr 1; omega
        rw [this]
        exact VR.plain 4 _ (hc.pl _)
      · rename_i q
        rw [List.length_map] at q
        rw [if_neg (by simp; omega)]
        obtain ⟨v', u1, u2⟩ := g5 i v hi
        rw [Array.getElem?_eq_getElem hsi] at u1
        cases u1
        exact ⟨_, rfl, u2⟩
    obtain ⟨q1, q2⟩ := S.write (w' := w1) alv hlim hb (o := .cells (splice c o (ys.map enc)) T) (by show (w.heap.modify B _).size = _; simp) hw1 rfl rfl rfl hO
    have ex : Ext w1 (Sort.grow (Sort.putRow enc (Sort.ahead w m) B (s + o) ys.toArray) os) := by
      refine ⟨rfl, rfl, rfl, ?_, fun k hk => ?_⟩
      · show w1.heap.size ≤ (w1.heap ++ os).size
        simp
      · show (w1.heap ++ os)[k]? = w1.heap[k]?
        rw [Array.getElem?_append, if_pos hk]
    exact ⟨q1.ext ex, q2.trans (Ext.frame q1 ex)⟩

/-- A call that writes a row anew, and tells nothing. -/
def rowP (enc : α → Value) (dec : Value → Option α) (f : List α → List α) : List Value → Heap → Option (Value × Heap)
  | [.slice a n c], h => bif Nat.beq n 0 then some (.tuple #[], h) else match rowOf dec a n h with
    | some (b, o, cs, T, xs) => bif Nat.beq (f xs).length n then some (.tuple #[], h.set b (.cells (splice cs o ((f xs).map enc)) T)) else none
    | none => none
  | _, _ => none

theorem rowOf_beta {P : Program} {Wr : Nat → Prop} {β : Inj} {h : Heap} {w : World} {dec : Value → Option α} (S : Sim P Wr β h w) {a : Option Addr} {n b o : Nat} {c : List Value} {T : TypeId} {xs : List α}
    (hr : rowOf dec a n h = some (b, o, c, T, xs)) : ∃ sp, a = some ⟨b, o, sp⟩ ∧ spotOk sp = true := by
  unfold rowOf at hr
  split at hr
  case h_2 => cases hr
  obtain ⟨hsp, hr⟩ := bif_some hr
  split at hr
  case h_2 => cases hr
  obtain ⟨hq, hr⟩ := bif_some hr
  split at hr
  case h_2 => cases hr
  cases hr
  exact ⟨_, rfl, hsp⟩

theorem rowP_ok {P : Program} {enc : α → Value} {dec : Value → Option α} (hc : Cell enc dec) {f : List α → List α} {g : FuncId}
    (h0 : ∀ p cap w, Calls P g #[.slice p 0 cap] w fun e w' => e = .returned (.tuple #[]) ∧ w' = w)
    (h1 : ∀ blk off cap (zs : List α) (w : World), Sort.Holds enc w blk off zs.toArray → blk < w.heap.size → zs.length < 4611686018427387904 →
      Calls P g #[.slice (some ⟨blk, off, none⟩) zs.length cap] w fun e w' => e = .returned (.tuple #[]) ∧ ∃ n os, w' = Sort.grow (Sort.putRow enc (Sort.ahead w n) blk off (f zs).toArray) os) :
    ∀ args hp v hp', rowP enc dec f args hp = some (v, hp') → ∀ Wr β w (args' : Array Value), Sim P Wr β hp w → VRs β args args'.toList → Calls P g args' w (Out P Wr β hp hp' v w) := by
  intro args h v h' hk Wr β w args' S ha
  unfold rowP at hk
  split at hk
  case h_2 => cases hk
  rename_i a n c
  have : ∃ v1, args' = #[v1] ∧ VR β (.slice a n c) v1 := by
    cases args' with
    | mk l => cases ha with
      | cons h1 r => cases r with
        | nil => exact ⟨_, rfl, h1⟩
  obtain ⟨v1, rfl, hv⟩ := this
  cases e : Nat.beq n 0 with
  | true =>
    rw [e] at hk
    have := Nat.eq_of_beq_eq_true e
    subst this
    cases hk
    have : ∃ p cap, v1 = .slice p 0 cap := by
      cases hv with
      | sliceNil l c => exact ⟨_, _, rfl⟩
      | slice h l c => exact ⟨_, _, rfl⟩
      | slack h l hc hn => exact ⟨_, _, rfl⟩
      | opq a c => exact ⟨_, _, rfl⟩
    obtain ⟨p, cap, rfl⟩ := this
    refine (h0 p cap w).mono ?_
    rintro e w' ⟨rfl, rfl⟩
    exact ⟨_, β, rfl, Up.refl _ β, S, noval, FrameW.refl _ _, Lm.refl _⟩
  | false =>
    rw [e] at hk
    simp only [cond_false] at hk
    split at hk
    case h_2 => cases hk
    rename_i b o cs T xs hr
    obtain ⟨hfl, hk⟩ := bif_some hk
    cases hk
    have hfl := Nat.eq_of_beq_eq_true hfl
    obtain ⟨sp, rfl, hsp⟩ := rowOf_beta S hr
    obtain ⟨B, s, N, k, c', hb, rfl, hcc, _⟩ := slice_in hsp hv
    obtain ⟨_, hxl, hsm, hB, hH, hset⟩ := row_ok hc S hr hb
    have hcall := h1 B (s + o) c' xs w hH hB (by omega)
    rw [hxl] at hcall
    refine hcall.mono ?_
    rintro e w' ⟨rfl, m, os, rfl⟩
    obtain ⟨q1, q2⟩ := hset (f xs) hfl m os
    exact ⟨_, β, rfl, Up.refl _ β, q1, noval, q2, Lm.of rfl rfl⟩

/-- A call that writes a row anew, and tells the first part of it. -/
def partP (enc : α → Value) (dec : Value → Option α) (zr : α) (f : List α → List α) : List Value → Heap → Option (Value × Heap)
  | [.slice a n c], h => bif Nat.beq n 0 then some (.slice a 0 c, h) else match rowOf dec a n h with
    | some (b, o, cs, T, xs) => bif Nat.ble (f xs).length n && Nat.ble n c then some (.slice a (f xs).length c, h.set b (.cells (splice cs o ((f xs ++ List.replicate (n - (f xs).length) zr).map enc)) T)) else none
    | none => none
  | _, _ => none

theorem partP_ok {P : Program} {enc : α → Value} {dec : Value → Option α} (hc : Cell enc dec) {zr : α} {f : List α → List α} {g : FuncId}
    (h0 : ∀ p cap w, Calls P g #[.slice p 0 cap] w fun e w' => e = .returned (.slice p 0 cap) ∧ w' = w)
    (h1 : ∀ blk off cap (zs : List α) (w : World), Sort.Holds enc w blk off zs.toArray → zs.length ≤ 9223372036854775807 → zs.length ≤ cap →
      Calls P g #[.slice (some ⟨blk, off, none⟩) zs.length cap] w fun e w' => e = .returned (.slice (some ⟨blk, off, none⟩) (f zs).length cap) ∧ ∃ q, w' = Sort.putRow enc (Sort.ahead w q) blk off (f zs ++ List.replicate (zs.length - (f zs).length) zr).toArray) :
    ∀ args hp v hp', partP enc dec zr f args hp = some (v, hp') → ∀ Wr β w (args' : Array Value), Sim P Wr β hp w → VRs β args args'.toList → Calls P g args' w (Out P Wr β hp hp' v w) := by
  intro args h v h' hk Wr β w args' S ha
  unfold partP at hk
  split at hk
  case h_2 => cases hk
  rename_i a n c
  have : ∃ v1, args' = #[v1] ∧ VR β (.slice a n c) v1 := by
    cases args' with
    | mk l => cases ha with
      | cons h1 r => cases r with
        | nil => exact ⟨_, rfl, h1⟩
  obtain ⟨v1, rfl, hv⟩ := this
  cases e : Nat.beq n 0 with
  | true =>
    rw [e] at hk
    have := Nat.eq_of_beq_eq_true e
    subst this
    cases hk
    have : ∃ p cap, v1 = .slice p 0 cap := by
      cases hv with
      | sliceNil l c => exact ⟨_, _, rfl⟩
      | slice h l c => exact ⟨_, _, rfl⟩
      | slack h l hc hn => exact ⟨_, _, rfl⟩
      | opq a c => exact ⟨_, _, rfl⟩
    obtain ⟨p, cap, rfl⟩ := this
    refine (h0 p cap w).mono ?_
    rintro e w' ⟨rfl, rfl⟩
    exact ⟨_, β, rfl, Up.refl _ β, S, hv, FrameW.refl _ _, Lm.refl _⟩
  | false =>
    rw [e] at hk
    simp only [cond_false] at hk
    split at hk
    case h_2 => cases hk
    rename_i b o cs T xs hr
    obtain ⟨hq, hk⟩ := bif_some hk
    cases hk
    rw [Bool.and_eq_true] at hq
    have hfl := Nat.le_of_ble_eq_true hq.1
    have hnc := Nat.le_of_ble_eq_true hq.2
    obtain ⟨sp, rfl, hsp⟩ := rowOf_beta S hr
    obtain ⟨B, s, N, k, c', hb, rfl, hcc, hsl⟩ := slice_in hsp hv
    obtain ⟨_, hxl, hsm, hB, hH, hset⟩ := row_ok hc S hr hb
    have hcall := h1 B (s + o) c' xs w hH (by omega) (by omega)
    rw [hxl] at hcall
    refine hcall.mono ?_
    rintro e w' ⟨rfl, q, rfl⟩
    obtain ⟨q1, q2⟩ := hset (f xs ++ List.replicate (n - (f xs).length) zr) (by simp; omega) q #[]
    rw [Sort.grow_empty] at q1 q2
    exact ⟨_, β, rfl, Up.refl _ β, q1, hsl _, q2, Lm.of rfl rfl⟩

theorem rowOf_msk {dec : Value → Option α} {S : Nat → Bool} {f h : Heap} (m : Msk S f h) {a : Option Addr} {n b o : Nat} {c : List Value} {T : TypeId} {xs : List α} (hr : rowOf dec a n f = some (b, o, c, T, xs)) :
    rowOf dec a n h = some (b, o, c, T, xs) ∧ S b = false := by
  unfold rowOf at hr ⊢
  split at hr
  case h_2 => cases hr
  obtain ⟨hsp, hr⟩ := bif_some hr
  split at hr
  case h_2 => cases hr
  rename_i hg
  have hh := m.cells hg
  obtain ⟨hq, hr⟩ := bif_some hr
  split at hr
  case h_2 => cases hr
  rename_i hd
  cases hr
  refine ⟨?_, m.out hg (by intro q; cases q)⟩
  rw [hsp, cond_true, hh]
  simp only
  rw [m.lim, hq, cond_true, hd]
theorem rowP_framed (enc : α → Value) (dec : Value → Option α) (f : List α → List α) : Framed (fun _ => rowP enc dec f) := by
  intro S F h g args v' f' m hc
  simp only [rowP] at hc ⊢
  split at hc
  case h_2 => cases hc
  rename_i a n c
  cases e : Nat.beq n 0 with
  | true => rw [e] at hc; cases hc; exact ⟨h, rfl, m, Kept.refl _ _⟩
  | false =>
    rw [e] at hc
    simp only [cond_false] at hc ⊢
    split at hc
    case h_2 => cases hc
    rename_i hr
    obtain ⟨hq, hc⟩ := bif_some hc
    cases hc
    obtain ⟨r1, r2⟩ := rowOf_msk m hr
    rw [r1]
    simp only [hq, cond_true]
    obtain ⟨m1, k1⟩ := m.set r2 _
    exact ⟨_, rfl, m1, k1⟩
theorem partP_framed (enc : α → Value) (dec : Value → Option α) (zr : α) (f : List α → List α) : Framed (fun _ => partP enc dec zr f) := by
  intro S F h g args v' f' m hc
  simp only [partP] at hc ⊢
  split at hc
  case h_2 => cases hc
  rename_i a n c
  cases e : Nat.beq n 0 with
  | true => rw [e] at hc; cases hc; exact ⟨h, rfl, m, Kept.refl _ _⟩
  | false =>
    rw [e] at hc
    simp only [cond_false] at hc ⊢
    split at hc
    case h_2 => cases hc
    rename_i hr
    obtain ⟨hq, hc⟩ := bif_some hc
    cases hc
    obtain ⟨r1, r2⟩ := rowOf_msk m hr
    rw [r1]
    simp only [hq, cond_true]
    obtain ⟨m1, k1⟩ := m.set r2 _
    exact ⟨_, rfl, m1, k1⟩
end

/-! ### Texts and whole numbers -/
def decS : Value → Option (List UInt8)
  | .string s => some s.toList
  | _ => none
def encI (x : Int) : Value := .int .i64 x
def decI : Value → Option Int
  | .int .i64 x => some x
  | _ => none
theorem toList_arr (s : ByteArray) : (⟨s.toList.toArray⟩ : ByteArray) = s := by
  apply ByteArray.ext
  simp [ByteArray.toList_eq]
theorem cellS : Cell encStr decS where
  one := fun x => rfl
  pl := fun x => rfl
  dec := fun v x h => by
    unfold decS at h
    split at h
    · cases h; show Value.string _ = Value.string _; rw [toList_arr]
    · cases h
theorem cellI : Cell encI decI where
  one := fun x => rfl
  pl := fun x => rfl
  dec := fun v x h => by
    unfold decI at h
    split at h
    · cases h; rfl
    · cases h
def sortL (ss : List (List UInt8)) : List (List UInt8) := ss.mergeSort fun x y => decide (x ≤ y)
def sortI (zs : List Int) : List Int := zs.mergeSort fun x y => decide (x ≤ y)

theorem sortS_ok {P : Program} {ρ : Shelf.Ren} (Ly : Lays.n190 P ρ) : ∀ args hp v hp', rowP encStr decS sortL args hp = some (v, hp') → ∀ Wr β w (args' : Array Value), Sim P Wr β hp w → VRs β args args'.toList → Calls P (ρ.f 190) args' w (Out P Wr β hp hp' v w) :=
  rowP_ok cellS (fun p cap w => Any.slices_Sort_string_none Ly p cap w) (fun blk off cap zs w hH hB hs => Any.slices_Sort_string Ly blk off cap zs w hH hB hs)
theorem sortI_ok {P : Program} {ρ : Shelf.Ren} (Ly : Lays.n189 P ρ) : ∀ args hp v hp', rowP encI decI sortI args hp = some (v, hp') → ∀ Wr β w (args' : Array Value), Sim P Wr β hp w → VRs β args args'.toList → Calls P (ρ.f 189) args' w (Out P Wr β hp hp' v w) :=
  rowP_ok cellI (fun p cap w => Any.slices_Sort_int_none Ly p cap w) (fun blk off cap zs w hH hB hs => Any.slices_Sort_int Ly blk off cap zs w hH hB hs)
theorem compactS_ok {P : Program} {ρ : Shelf.Ren} (Ly : Lays.n194 P ρ) : ∀ args hp v hp', partP encStr decS [] Lib.compact args hp = some (v, hp') → ∀ Wr β w (args' : Array Value), Sim P Wr β hp w → VRs β args args'.toList → Calls P (ρ.f 194) args' w (Out P Wr β hp hp' v w) :=
  partP_ok cellS (fun p cap w => Any.slices_Compact_string_empty Ly p cap w) (fun blk off cap zs w hH h1 h2 => Any.slices_Compact_string Ly blk off cap zs w hH h1 h2)

/-! ### Runs, whatever their depth -/
open Classical in
noncomputable def runAny (E : Env) (g : FuncId) (args : List Value) (h : Heap) : Option (Value × Heap) := if H : ∃ r n, run E n g args h = some r then some (Classical.choose H) else none
theorem runAny_of {E : Env} {g : FuncId} {args : List Value} {h : Heap} {n : Nat} {r : Value × Heap} (hr : run E n g args h = some r) : runAny E g args h = some r := by
  have H : ∃ r n, run E n g args h = some r := ⟨r, n, hr⟩
  unfold runAny
  rw [dif_pos H]
  obtain ⟨m, hm⟩ := Classical.choose_spec H
  have e1 := run_le (Nat.le_max_left n m) _ _ _ _ hr
  have e2 := run_le (Nat.le_max_right n m) _ _ _ _ hm
  rw [e1] at e2; exact e2.symm
theorem runAny_to {E : Env} {g : FuncId} {args : List Value} {h : Heap} {r : Value × Heap} (hr : runAny E g args h = some r) : ∃ n, run E n g args h = some r := by
  unfold runAny at hr
  split at hr
  · rename_i H
    cases hr
    exact Classical.choose_spec H
  · cases hr
theorem runAny_framed {E : Env} (hE : FramedE E) (g : FuncId) : Framed (fun _ => runAny E g) := by
  intro S f h _ args v f' m hc
  obtain ⟨n, hn⟩ := runAny_to hc
  obtain ⟨h', h1, h2, h3⟩ := run_msk hE n S f h g args v f' m hn
  exact ⟨h', runAny_of h1, h2, h3⟩

/-- What room there is is told as if there were none, and nothing in it (k: the cells of an element). -/
def shrinkV (k : Nat) : Value × Heap → Option (Value × Heap)
  | (.slice none 0 0, h) => some (.slice none 0 0, h)
  | (.slice (some ⟨b, 0, some 0⟩) l c, h) => match h.get b with
    | some (.cells cs T) => bif Nat.ble h.lim b && Nat.ble l c then some (.slice (some ⟨b, 0, some 0⟩) l l, h.set b (.cells (cs.take (l * k)) T)) else none
    | _ => none
  | _ => none
theorem shrink_slack (k b l c : Nat) (h : Heap) : shrinkV k (.slice (some ⟨b, 0, some 0⟩) l c, h) = (match h.get b with
    | some (.cells cs T) => bif Nat.ble h.lim b && Nat.ble l c then some (.slice (some ⟨b, 0, some 0⟩) l l, h.set b (.cells (cs.take (l * k)) T)) else none
    | _ => none) := rfl
noncomputable def shrinkP (k : Nat) (E : Env) (g : FuncId) (args : List Value) (h : Heap) : Option (Value × Heap) := (runAny E g args h).bind (shrinkV k)

theorem shrinkP_ok (k : Nat) {E : Env} (hE : SideOK E) (g : FuncId) :
    ∀ args hp v hp', shrinkP k E g args hp = some (v, hp') → ∀ Wr β w (args' : Array Value), Sim E.P Wr β hp w → VRs β args args'.toList → Calls E.P g args' w (Out E.P Wr β hp hp' v w) := by
  intro args hp v hp' hk Wr β w args' S ha
  unfold shrinkP at hk
  cases er : runAny E g args hp with
  | none => rw [er] at hk; cases hk
  | some r =>
    rw [er] at hk
    obtain ⟨v1, h1⟩ := r
    obtain ⟨n, hn⟩ := runAny_to er
    have hk : shrinkV k (v1, h1) = some (v, hp') := hk
    refine (run_ok hE n g args _ _ _ hn Wr β w args' S ha).mono ?_
    rintro e w' ⟨v', β', rfl, hu, S', hv, hf, hl⟩
    unfold shrinkV at hk
    split at hk
    · rename_i heq; cases heq; cases hk; exact ⟨v', β', rfl, hu, S', hv, hf, hl⟩
    · rename_i b l c h2 heq
      cases heq
      split at hk
      case h_2 => cases hk
      rename_i cs T hg
      obtain ⟨hlim, hk⟩ := bif_some hk
      cases hk
      rw [Bool.and_eq_true] at hlim
      have hlc := Nat.le_of_ble_eq_true hlim.2
      have hlim := Nat.le_of_ble_eq_true hlim.1
      obtain ⟨x, hx, hO⟩ := S'.get hg (by intro q; cases q)
      have alv : alive h1 b := ⟨_, hg, by intro q; cases q⟩
      obtain ⟨C, fr, o1, o2, o3, o4, o5, o6⟩ := hO
      refine ⟨v', β', rfl, hu, S'.setO hx (fun b' x' a' hne hb => S'.inj b' b x' x a' alv hb hx hne) (fun _ _ => S'.wr b x alv hlim hx) ⟨C, fr, o1, o2, o3, o4, by rw [List.length_take]; omega, fun i v hv => ?_⟩, ?_, hf, ⟨hl.lim, hl.n⟩⟩
      · rw [List.getElem?_take] at hv
        split at hv
        · exact o6 i v hv
        · cases hv
      · cases hv with
        | slice hA => cases hA
        | slack hb _ hc hn => exact .slack hb l (Nat.le_trans hlc hc) hn
    · cases hk
theorem shrinkP_framed (k : Nat) {E : Env} (hE : FramedE E) (g : FuncId) : Framed (fun _ => shrinkP k E g) := by
  intro S f h g0 args v f' m hc
  simp only [shrinkP] at hc ⊢
  cases er : runAny E g args f with
  | none => rw [er] at hc; cases hc
  | some r =>
    rw [er] at hc
    obtain ⟨v1, f1⟩ := r
    have hc : shrinkV k (v1, f1) = some (v, f') := hc
    obtain ⟨h1, e1, m1, k1⟩ := runAny_framed hE g S f h g args v1 f1 m er
    have e1 : runAny E g args h = some (v1, h1) := e1
    rw [e1]
    show ∃ h', shrinkV k (v1, h1) = some (v, h') ∧ _
    unfold shrinkV at hc
    split at hc
    · rename_i heq; cases heq; cases hc; exact ⟨_, rfl, m1, k1⟩
    · rename_i b l c h2 heq
      cases heq
      split at hc
      case h_2 => cases hc
      rename_i cs T hg
      obtain ⟨hlim, hc⟩ := bif_some hc
      cases hc
      rw [shrink_slack, m1.cells hg]
      dsimp only
      rw [m1.lim, hlim]
      obtain ⟨m2, k2⟩ := m1.set (m1.out hg (by intro q; cases q)) (.cells (cs.take (l * k)) T)
      exact ⟨_, rfl, m2, k1.trans k2⟩
    · cases hc

/-- An environment with calls that are told beside it. -/
def envP (E : Env) (ps : List (Nat × (List Value → Heap → Option (Value × Heap)))) : Env := { E with prim := fun g => match assoc ps g with | some p => some p | none => E.prim g }
theorem envP_framed {E : Env} (hE : FramedE E) {ps : List (Nat × (List Value → Heap → Option (Value × Heap)))} (h : ∀ p ∈ ps, Framed (fun _ => p.2)) : FramedE (envP E ps) := by
  intro g p hp
  have hp' : (match assoc ps g with | some p => some p | none => E.prim g) = some p := hp
  split at hp'
  · rename_i q hq; cases hp'; exact h _ (assoc_mem hq)
  · exact hE g p hp'
theorem envP_ok {E : Env} (hE : SideOK E) {ps : List (Nat × (List Value → Heap → Option (Value × Heap)))} (hf : ∀ p ∈ ps, Framed (fun _ => p.2))
    (h : ∀ p ∈ ps, ∀ args hp v hp', p.2 args hp = some (v, hp') → ∀ Wr β w (args' : Array Value), Sim E.P Wr β hp w → VRs β args args'.toList → Calls E.P p.1 args' w (Out E.P Wr β hp hp' v w)) : SideOK (envP E ps) where
  eq := hE.eq
  name := hE.name
  mixed := hE.mixed
  framed := envP_framed hE.framed hf
  lex := by
    intro g fn c hg hb hp
    refine hE.lex g fn c hg hb ?_
    have hp' : (match assoc ps g with | some p => some p | none => E.prim g) = none := hp
    split at hp'
    · cases hp'
    · exact hp'
  meth := hE.meth
  prim := by
    intro g p hp
    have hp' : (match assoc ps g with | some p => some p | none => E.prim g) = some p := hp
    split at hp'
    · rename_i q hq; cases hp'; exact h _ (assoc_mem hq)
    · exact hE.prim g p hp'
end Go.Proofs.Ytcjcbcmapjcfnaa.V
