/- hist.at, as a call of the clean machine.
   No condition: these are laws of the clean machine and of this program. -/
import Derived.Test.YtpfdandpmpmbiaaV23
import Derived.Test.YtpfdandpmpmbiaaH2
namespace Go.Proofs.Ytpfdandpmpmbiaa.V
open Go
set_option linter.unusedVariables false
set_option linter.unusedSimpArgs false

def rowAt (h : Heap) (a : Addr) (i : Nat) : Option EvH := match elemAddr a (i * 4) with
  | some a1 => match cellsAt h a1 4 with
    | some [.int .i64 x, .string k, .string y, .bool d] => some ⟨x, k, y, d⟩
    | _ => none
  | none => none
def rowsAt (h : Heap) (a : Addr) : Nat → Option (List EvH)
  | 0 => some []
  | n + 1 => match rowsAt h a n with
    | some l => match rowAt h a n with
      | some e => some (l ++ [e])
      | none => none
    | none => none
def rowsOf (h : Heap) (a : Option Addr) (n : Nat) : Option (List EvH) := match n with
  | 0 => some []
  | n + 1 => match a with
    | some a => rowsAt h a (n + 1)
    | none => none
def gOf (l : List EvH) (j : Nat) : EvH := l[j]?.getD evZ
theorem rowsAt_get {h : Heap} {a : Addr} : ∀ {n : Nat} {l : List EvH}, rowsAt h a n = some l → l.length = n ∧ ∀ j, j < n → rowAt h a j = some (gOf l j)
  | 0, l, hl => by cases hl; exact ⟨rfl, fun j h => absurd h (Nat.not_lt_zero _)⟩
  | n + 1, l, hl => by
    unfold rowsAt at hl
    split at hl
    · rename_i l0 h0
      split at hl
      · rename_i e he
        cases hl
        obtain ⟨h1, h2⟩ := rowsAt_get h0
        refine ⟨by simp [h1], fun j hj => ?_⟩
        rcases Nat.lt_or_ge j n with q | q
        · rw [h2 j q]; unfold gOf; rw [List.getElem?_append_left (by omega)]
        · have : j = n := by omega
          subst this
          rw [he]; unfold gOf; rw [List.getElem?_append_right (by omega), h1, Nat.sub_self]; rfl
      · cases hl
    · cases hl
def atP (E : Env) (args : List Value) (h : Heap) : Option (Value × Heap) := match args with
  | [.pointer (some ⟨b, 0, none⟩), .string k, .int .i64 rev] => match h.get b with
    | some (.cells (_ :: _ :: .map (some m) :: _) _) => match lookupV E h 98 (.map (some m)) (.string k) false with
      | some (.slice a n _) => match rowsOf h a n with
        | some l => bif Nat.ble n 1000000 then some (.tuple #[((atB (gOf l) rev n).getD evZ).v, .bool (okB (atB (gOf l) rev n))], h) else none
        | none => none
      | _ => none
    | _ => none
  | _ => none
theorem rowAt_msk {S : Nat → Bool} {f h : Heap} (m : Msk S f h) {a : Addr} {i : Nat} {e : EvH} (he : rowAt f a i = some e) : rowAt h a i = some e := by
  unfold rowAt at he ⊢
  split at he
  · split at he
    · rename_i hc
      rw [m.cellsAt hc]; exact he
    · cases he
  · cases he
theorem rowsAt_msk {S : Nat → Bool} {f h : Heap} (m : Msk S f h) {a : Addr} : ∀ {n : Nat} {l : List EvH}, rowsAt f a n = some l → rowsAt h a n = some l
  | 0, l, hl => hl
  | n + 1, l, hl => by
    unfold rowsAt at hl ⊢
    split at hl
    · rename_i l0 h0
      rw [rowsAt_msk m h0]
      dsimp only
      split at hl
      · rename_i e he
        rw [rowAt_msk m he]; exact hl
      · cases hl
    · cases hl
theorem rowsOf_msk {S : Nat → Bool} {f h : Heap} (m : Msk S f h) {a : Option Addr} {n : Nat} {l : List EvH} (hl : rowsOf f a n = some l) : rowsOf h a n = some l := by
  unfold rowsOf at hl ⊢
  split at hl
  · exact hl
  · split at hl
    · exact rowsAt_msk m hl
    · cases hl
theorem atP_framed (E : Env) : Framed (fun _ => atP E) := by
  intro S f h g args v' f' m hc
  simp only [atP] at hc ⊢
  split at hc
  case h_2 => cases hc
  split at hc
  case h_2 => cases hc
  rename_i hg
  rw [m.cells hg]
  dsimp only
  split at hc
  case h_2 => cases hc
  rename_i hl
  rw [m.lookupV hl]
  dsimp only
  split at hc
  case h_2 => cases hc
  rename_i hr
  rw [rowsOf_msk m hr]
  dsimp only
  obtain ⟨hq, hc⟩ := bif_some hc
  rw [hq]
  cases hc
  exact ⟨h, rfl, m, Kept.refl _ _⟩
theorem cell_lt_ {w : World} {b o : Nat} {v : Value} (h : w.cell? ⟨b, o, none⟩ = some v) : b < w.heap.size := by
  unfold World.cell? at h
  dsimp only at h
  cases e : w.heap[b]? with
  | none => rw [e] at h; simp at h
  | some x => exact (Array.getElem?_eq_some_iff.1 e).1
/-- A slice's events, as the world has them. -/
theorem rowsW_of {P : Program} {Wr : Nat → Prop} {β : Inj} {hp : Heap} {w : World} (S : Sim P Wr β hp w) {a : Option Addr} {n c : Nat} {l : List EvH} {v' : Value} (hv : VR β (.slice a n c) v') (hr : rowsOf hp a n = some l) (hn : n ≤ 1000000) :
    (∃ a' c', v' = .slice a' n c') ∧ RowsW w.heap.size w v' n (gOf l) := by
  have key : ∀ (a0 : Addr) (B' O c' : Nat), v' = .slice (some ⟨B', O, none⟩) n c' → a = some a0 → 0 < n → (∀ j a1, elemAddr a0 (j * 4) = some a1 → AR β a1 ⟨B', O + j * 4, none⟩) → RowsW w.heap.size w v' n (gOf l) := by
    intro a0 B' O c' hv' ha hpos har
    subst ha
    have hrr : rowsAt hp a0 n = some l := by
      unfold rowsOf at hr
      cases n with
      | zero => exact absurd hpos (Nat.lt_irrefl _)
      | succ n => exact hr
    obtain ⟨hl, hg⟩ := rowsAt_get hrr
    have hcells : ∀ j, j < n → w.cell? ⟨B', O + j * 4, none⟩ = some (.int .i64 (gOf l j).a) ∧ w.cell? ⟨B', O + j * 4 + 1, none⟩ = some (.string (gOf l j).k) ∧ w.cell? ⟨B', O + j * 4 + 2, none⟩ = some (.string (gOf l j).x) ∧ w.cell? ⟨B', O + j * 4 + 3, none⟩ = some (.bool (gOf l j).d) := by
      intro j hj
      have h1 := hg j hj
      unfold rowAt at h1
      split at h1
      · rename_i a1 he
        split at h1
        · rename_i x k y d hc
          have hx := Option.some.inj h1
          rw [← hx]
          obtain ⟨l', q1, q2, q3⟩ := cellsAt_ok S (har j a1 he) hc
          cases q2 with | @cons _ u1 _ r1 e1 q2 => ?_
          cases q2 with | @cons _ u2 _ r2 e2 q2 => ?_
          cases q2 with | @cons _ u3 _ r3 e3 q2 => ?_
          cases q2 with | @cons _ u4 _ r4 e4 q2 => ?_
          cases q2
          cases e1; cases e2; cases e3; cases e4
          have t0 := q3 0 _ rfl
          have t1 := q3 1 _ rfl
          have t2 := q3 2 _ rfl
          have t3 := q3 3 _ rfl
          rw [Addr.add_none] at t0 t1 t2 t3
          exact ⟨t0, t1, t2, t3⟩
        · cases h1
      · cases h1
    exact .inr ⟨B', O, c', hv', cell_lt_ (hcells 0 hpos).1, by omega, hcells⟩
  rcases Nat.eq_zero_or_pos n with h0 | h0
  · subst h0
    have : ∃ a' c', v' = .slice a' 0 c' := by
      cases hv with
      | sliceNil => exact ⟨_, _, rfl⟩
      | slice => exact ⟨_, _, rfl⟩
      | slack => exact ⟨_, _, rfl⟩
      | opq => exact ⟨_, _, rfl⟩
    obtain ⟨a', c', e⟩ := this
    exact ⟨⟨a', c', e⟩, .inl ⟨a', c', e, rfl⟩⟩
  · cases hv with
    | sliceNil => 
      unfold rowsOf at hr
      cases n with
      | zero => exact absurd h0 (Nat.lt_irrefl _)
      | succ n => cases hr
    | @slice a0 a' h _ _ =>
      cases h with
      | @new b o B s N k hb =>
        exact ⟨⟨_, _, rfl⟩, key _ B (s + o) c rfl rfl h0 (fun j a1 he => by
          simp only [elemAddr] at he
          cases he
          rw [Nat.add_assoc]
          exact .new hb)⟩
      | @base B o =>
        exact ⟨⟨_, _, rfl⟩, key _ B o c rfl rfl h0 (fun j a1 he => by
          simp only [elemAddr] at he
          cases he
          exact .base)⟩
      | @odd B o s =>
        unfold rowsOf at hr
        cases n with
        | zero => exact absurd h0 (Nat.lt_irrefl _)
        | succ n =>
          dsimp only at hr
          obtain ⟨_, hg⟩ := rowsAt_get hr
          have h1 := hg 0 (Nat.succ_pos _)
          unfold rowAt at h1
          simp [elemAddr] at h1
    | @slack b o B s N k hb _ _ c' hc hn2 =>
      exact ⟨⟨_, _, rfl⟩, key _ B (s + o) c' rfl rfl h0 (fun j a1 he => by
        simp only [elemAddr] at he
        cases he
        rw [Nat.add_assoc]
        exact .new hb)⟩
    | opq => exact absurd h0 (Nat.lt_irrefl _)
theorem atP_ok {E : Env} (hP : E.P = Try.prog) : ∀ args hp v hp', atP E args hp = some (v, hp') → ∀ Wr β w (args' : Array Value), Sim Try.prog Wr β hp w → VRs β args args'.toList → Calls Try.prog 55 args' w (Out Try.prog Wr β hp hp' v w) := by
  intro args hp v hp' hk Wr β w args' S ha
  unfold atP at hk
  split at hk
  case h_2 => cases hk
  rename_i b k rev
  split at hk
  case h_2 => cases hk
  rename_i x0 x1 m rest T hgb
  split at hk
  case h_2 => cases hk
  rename_i a n c hl
  split at hk
  case h_2 => cases hk
  rename_i l hr
  have hn := Nat.le_of_ble_eq_true (bif_some hk).1
  replace hk := (bif_some hk).2
  cases hk
  obtain ⟨la⟩ := args'
  cases ha with | @cons _ a1 _ l1 h1 ha => ?_
  cases ha with | @cons _ a2 _ l2 h2 ha => ?_
  cases ha with | @cons _ a3 _ l3 h3 ha => ?_
  cases ha
  cases h2; cases h3
  cases h1 with | @ptr _ p' hp1 => ?_
  cases hp1 with | @new _ _ B s N kk hB => ?_
  obtain ⟨B', s', C, fr, g1, g2, g3, g4, g5⟩ := S.live _ _ _ hgb
  rw [hB] at g1; cases g1
  obtain ⟨v2, e1, e2⟩ := g5 2 _ rfl
  cases e2 with | @map _ Bm hBm => ?_
  have hcell : w.cell? ⟨B, s + 0 + 2, none⟩ = some (.map (some Bm)) := by rw [cell_of g2, ← e1, Nat.add_zero]
  have S' : Sim E.P Wr β hp w := by rw [hP]; exact S
  obtain ⟨sv, u1, u2⟩ := lookupV_ok S' (.map hBm) (.string k) hl
  rw [hP] at u2
  obtain ⟨u3, u4⟩ := rowsW_of S u1 hr hn
  have hb1 : ∀ o1 o2 o3 : Obj, Ext w (((w.alloc o1).alloc o2).alloc o3) := fun o1 o2 o3 => Ext.of_below ((((RowKit.Below.refl _ w).alloc (Nat.le_refl _) _).alloc (by simp) _).alloc (by simp; omega) _)
  refine (callsIn_wide (n := 3)).1 ?_
  refine (at1 Fence.wide 3 trivial trivial trivial rfl (Nat.le_refl _) B (s + 0) Bm k rev sv n (gOf l) w hcell (lt_of_get g2) u3 (u2 _ (hb1 _ _ _)) u4).mono ?_
  rintro e w' ⟨rfl, hb⟩
  have ex : Ext w w' := Ext.of_below hb
  exact ⟨_, β, rfl, Up.refl _ β, S.ext ex, VR.plain 4 _ rfl, Ext.frame S ex, Lm.refl _⟩
end Go.Proofs.Ytpfdandpmpmbiaa.V
