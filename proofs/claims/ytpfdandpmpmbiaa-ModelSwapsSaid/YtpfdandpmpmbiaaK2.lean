/- slices.Sorted of a map's keys, and maps.Clone, as calls of the clean machine.
   No condition: these are laws of the clean machine and of this program. -/
import Derived.Test.YtpfdandpmpmbiaaVp
import Derived.Test.YtpfdandpmpmbiaaK1
namespace Go.Proofs.Ytpfdandpmpmbiaa.V
open Go Go.RowKit Go.Maps Go.Sort Go.Shelf Go.Proofs Go.Proofs.Ytpfdandpmpmbiaa Go.WideElems
set_option linter.unusedVariables false
set_option linter.unusedSimpArgs false
set_option maxRecDepth 100000

def keysOf : List (Value × Value) → Option (List (List UInt8))
  | [] => some []
  | e :: r => match e.1 with
    | .string s => match keysOf r with
      | some l => some (s.toList :: l)
      | none => none
    | _ => none
theorem keysOf_eq {β : Inj} : ∀ {es : List (Value × Value)} {ks : List (List UInt8)} {l : List MapEntry}, keysOf es = some ks → MRs β es l → l.map (·.key) = ks.map encStr
  | [], ks, [], h, _ => by cases h; rfl
  | [], _, _ :: _, _, h => h.elim
  | _ :: _, _, [], _, h => h.elim
  | e :: es, ks, x :: l, h, hm => by
    unfold keysOf at h
    split at h
    · rename_i s hs
      split at h
      · rename_i l0 hl
        cases h
        have h1 := hm.1.2
        rw [hs] at h1
        rw [List.map_cons, List.map_cons, keysOf_eq hl hm.2.2, h1, str_enc]
      · cases h
    · cases h
def Rh (v : Value) : Option (DataW Value × List MemPlace) := some (.held v, [])
theorem map_ownsK {w : World} {B clock : Nat} {ents : Array MapEntry} {ks : List (List UInt8)} (hB : w.heap[B]? = some (.map ents clock)) (hk : ents.toList.map (·.key) = ks.map encStr)
    (hr : Rise clock ents.toList) (hn : ks.Nodup) (hl : ks.length ≤ 1000000) (hs : ∀ x ∈ ks, x.length ≤ maxLen) :
    ∃ D0, w.ownsMap Try.prog 9 Rh B ents.size D0 ∧ Maps.size D0 ≤ 1000000 ∧ ks.Perm (strKeys D0) := by
  have ty9 : Try.prog.underlying 9 = some .string := by kernel_rfl
  have hlen : ents.size = ks.length := by have := congrArg List.length hk; simpa using this
  have hml : maxLen = 9223372036854775807 := rfl
  have hrg : (ents.toList.map (WideElems.rg Try.prog 9 Rh)).map (·.1) = ks.map Lit.string ∧ ∀ e ∈ ents.toList, ∃ y, WideElems.rd Try.prog 9 Rh e = some y := by
    have gen : ∀ (l : List MapEntry) (ks : List (List UInt8)), l.map (·.key) = ks.map encStr → (∀ x ∈ ks, x.length ≤ maxLen) →
        (l.map (WideElems.rg Try.prog 9 Rh)).map (·.1) = ks.map Lit.string ∧ ∀ e ∈ l, ∃ y, WideElems.rd Try.prog 9 Rh e = some y := by
      intro l
      induction l with
      | nil => intro ks h _; cases ks with
        | nil => exact ⟨rfl, fun e h => by cases h⟩
        | cons _ _ => cases h
      | cons e l ih =>
        intro ks h1 h3
        cases ks with
        | nil => cases h1
        | cons x ks =>
          rw [List.map_cons, List.map_cons, List.cons.injEq] at h1
          obtain ⟨g1, g2⟩ := ih ks h1.2 (fun y hy => h3 y (List.mem_cons_of_mem _ hy))
          have hrd : WideElems.rd Try.prog 9 Rh e = some (.string x, .held e.val) := by
            obtain ⟨key, val, born⟩ := e
            have e1 : key = encStr x := h1.1
            subst e1
            refine (rd_mk (yv := (.held val, [])) (WideMaps.keyOf_string_mk ty9 (s := ⟨x.toArray⟩) (by rw [encStr_size]; exact h3 x List.mem_cons_self)) rfl).trans ?_
            simp
          refine ⟨by rw [List.map_cons, List.map_cons, List.map_cons, g1, rg_of hrd], fun e' he' => ?_⟩
          rcases List.mem_cons.mp he' with q | q
          · subst q; exact ⟨_, hrd⟩
          · exact g2 e' q
    exact gen _ _ hk hs
  have hF : Fit Try.prog 9 Rh ents clock := by
    refine ⟨by omega, ⟨hr.2, hr.1.imp (fun {a b} h => Nat.ne_of_lt h), ?_⟩, hrg.2⟩
    rw [hk]
    unfold List.Nodup at hn ⊢
    rw [List.pairwise_map]
    exact hn.imp (fun {a b} h e => h (encStr_inj e))
  have hown : w.ownsMap Try.prog 9 Rh B ents.size (.map ((ents.toList.map (WideElems.rg Try.prog 9 Rh)).foldr DataW.insert [])) := ⟨ents, clock, hB, hF, Nat.le_refl _, rfl⟩
  refine ⟨_, hown, ?_, ?_⟩
  · rw [size_eq, Go.length_sorted]; simp; omega
  · obtain ⟨es, he, hpw, hky⟩ := hown.entries (string_keyed ty9)
    have he' : (ents.toList.map (WideElems.rg Try.prog 9 Rh)).foldr DataW.insert [] = es := by simpa using he
    have hmem : ∀ p, p ∈ es ↔ p ∈ ents.toList.map (WideElems.rg Try.prog 9 Rh) := fun p => by rw [← he', mem_sorted]
    rw [he']
    refine perm_strKeys hpw (fun p hp => ?_) hn (fun x => ?_)
    · have h1 := List.mem_map_of_mem (f := fun p : Lit × DataW Value => p.1) ((hmem p).mp hp)
      rw [hrg.1, List.mem_map] at h1
      obtain ⟨x, _, hx⟩ := h1
      exact ⟨x, hx.symm⟩
    · rw [has_eq, List.any_eq_true]
      constructor
      · intro hx
        have h1 : Lit.string x ∈ (ents.toList.map (WideElems.rg Try.prog 9 Rh)).map (·.1) := by rw [hrg.1]; exact List.mem_map_of_mem hx
        obtain ⟨p, hp, hp1⟩ := List.mem_map.mp h1
        exact ⟨p, (hmem p).mpr hp, by rw [hp1]; simp [Lit.sameKey]⟩
      · rintro ⟨p, hp, hp1⟩
        have h1 := List.mem_map_of_mem (f := fun p : Lit × DataW Value => p.1) ((hmem p).mp hp)
        rw [hrg.1, List.mem_map] at h1
        obtain ⟨y, hy, hy1⟩ := h1
        rw [← hy1] at hp1
        have : y = x := by first | (have q : y = x := (by simpa [Lit.sameKey] using hp1); exact q) | (have q : x = y := (by simpa [Lit.sameKey] using hp1); exact q.symm)
        subst this; exact hy
def keysP (args : List Value) (h : Heap) : Option (Value × Heap) := match args with
  | [.func (.func g) ⟨[]⟩ ⟨[.pointer (some ⟨b, 0, none⟩)]⟩] => bif Nat.beq g 80 then (match h.get b with
    | some (.cells [.map (some m)] _) => match h.get m with
      | some (.map es) => match keysOf es with
        | some ks => bif nodupB ks && Nat.ble ks.length 1000000 && ks.all (fun k => Nat.ble k.length maxLen) then
            (bif ks.isEmpty then some (.slice none 0 0, h) else some (.slice (some ⟨h.n, 0, some 0⟩) ks.length ks.length, h.alloc (.cells ((sortU ks).map encStr) 9))) else none
        | none => none
      | _ => none
    | _ => none) else none
  | _ => none
theorem keysP_framed : Framed (fun _ => keysP) := by
  intro S f h g args v' f' m hc
  simp only [keysP] at hc ⊢
  split at hc
  case h_2 => cases hc
  obtain ⟨hq, hc⟩ := bif_some hc
  simp only [hq, cond_true]
  split at hc
  case h_2 => cases hc
  rename_i hg
  rw [m.cells hg]
  dsimp only
  split at hc
  case h_2 => cases hc
  rename_i hg2
  rw [m.map hg2]
  dsimp only
  split at hc
  case h_2 => cases hc
  rename_i ks hd
  obtain ⟨hq2, hc⟩ := bif_some hc
  simp only [hd, hq2, cond_true]
  cases he : ks.isEmpty with
  | true => rw [he] at hc; simp only [cond_true] at hc ⊢; cases hc; exact ⟨h, rfl, m, Kept.refl _ _⟩
  | false =>
    rw [he] at hc
    simp only [cond_false] at hc ⊢
    cases hc
    obtain ⟨m1, k1⟩ := m.alloc (.cells ((sortU ks).map encStr) 9)
    exact ⟨_, by rw [m.n], m1, k1⟩
theorem keysP_ok : ∀ args hp v hp', keysP args hp = some (v, hp') → ∀ Wr β w (args' : Array Value), Sim Try.prog Wr β hp w → VRs β args args'.toList → Calls Try.prog 53 args' w (Out Try.prog Wr β hp hp' v w) := by
  intro args hp v hp' hk Wr β w args' S ha
  unfold keysP at hk
  split at hk
  case h_2 => cases hk
  rename_i g b
  have hg := Nat.eq_of_beq_eq_true (bif_some hk).1
  replace hk := (bif_some hk).2
  subst hg
  split at hk
  case h_2 => cases hk
  rename_i m T hgb
  split at hk
  case h_2 => cases hk
  rename_i es hgm
  split at hk
  case h_2 => cases hk
  rename_i ks hd
  have hq2 := (bif_some hk).1
  replace hk := (bif_some hk).2
  rw [Bool.and_eq_true, Bool.and_eq_true, nodupB_iff] at hq2
  obtain ⟨⟨hnd, hxl⟩, hks⟩ := hq2
  have hxl := Nat.le_of_ble_eq_true hxl
  have hks : ∀ x ∈ ks, x.length ≤ maxLen := fun x hx => Nat.le_of_ble_eq_true (List.all_eq_true.mp hks x hx)
  obtain ⟨l⟩ := args'
  cases ha with | @cons _ a1 _ l1 h1 ha => ?_
  cases ha
  cases h1 with | @func _ _ f1 _ c1 hf1 hc1 => ?_
  obtain ⟨f1⟩ := f1; obtain ⟨c1⟩ := c1
  cases hf1
  cases hc1 with | @cons _ p1 _ l1 hp1 hc1 => ?_
  cases hc1
  cases hp1 with | @ptr _ p' hp1 => ?_
  cases hp1 with | @new _ _ B s N k hB => ?_
  obtain ⟨B', s', C, fr, g1, g2, g3, g4, g5⟩ := S.live _ _ _ hgb
  rw [hB] at g1; cases g1
  obtain ⟨v', e1, e2⟩ := g5 0 _ rfl
  cases e2 with | @map _ Bm hBm => ?_
  obtain ⟨B2, ents, clock, q1, q2, q3, q4⟩ := S.liveM _ _ hgm
  rw [hBm] at q1; cases q1
  obtain ⟨D0, hown, hsz, hperm⟩ := map_ownsK q2 (keysOf_eq hd q3) q4 hnd hxl hks
  have hcell : w.cell? ⟨B, s + 0, none⟩ = some (.map (some Bm)) := by rw [cell_of g2, ← e1]
  have hlt : B < w.heap.size := lt_of_get g2
  refine (sortedKeys B (s + 0) Bm _ D0 w hlt hcell hown hsz).mono ?_
  rintro e w' ⟨v, ss, rfl, hp1, hrow, hnil, hb⟩
  have hsort : ss.mergeSort (fun x y => decide (x ≤ y)) = sortU ks := (mergeSort_of_perm (hp1.trans hperm.symm)).trans (sortU_eq hnd).symm
  have hlen : ss.length = ks.length := (hp1.trans hperm.symm).length_eq
  have ex : Ext w w' := Ext.of_below hb
  rw [hsort] at hrow
  cases he : ks.isEmpty with
  | true =>
    rw [he] at hk
    simp only [cond_true] at hk
    cases hk
    have hx0 : ks = [] := List.isEmpty_iff.mp he
    have hy0 : ss = [] := by rw [hx0] at hlen; exact List.eq_nil_of_length_eq_zero hlen
    have := hnil.mpr hy0
    subst this
    exact ⟨_, β, rfl, Up.refl _ β, S.ext ex, .sliceNil _ _, Ext.frame S ex, Lm.refl _⟩
  | false =>
    rw [he] at hk
    simp only [cond_false] at hk
    cases hk
    have hx0 : ks ≠ [] := fun e => by rw [e] at he; cases he
    have hy0 : ss.length ≠ 0 := by
      rw [hlen]; intro e; exact hx0 (List.eq_nil_of_length_eq_zero e)
    rcases hrow.2 with ⟨_, hz⟩ | ⟨gb, cap, cur, rfl, hbase, hgb2, r1, r2, r3, r4⟩
    · exact absurd hz hy0
    · have hfl : ((sortU ks).map encStr).length = ss.length * 1 := by rw [← hsort, List.length_map, List.length_mergeSort, Nat.mul_one]
      obtain ⟨β', u1, u2, u3, u4⟩ := S.newRow hb hbase hgb2 (cs := (sortU ks).map encStr) (by rw [hfl, r4]) (by rw [hfl, r3]; exact Nat.mul_le_mul_right 1 r1)
        (fun v hv => by obtain ⟨x, _, hx⟩ := List.mem_map.mp hv; subst hx; rfl)
      refine ⟨_, β', rfl, u1, u3, ?_, u4, Lm.alloc _ _⟩
      rw [hlen]
      exact .slack u2 _ (by omega) (by rw [r3]; show 0 + 0 + cap * 1 ≤ cap * 1; omega)
def cloneP (args : List Value) (h : Heap) : Option (Value × Heap) := match args with
  | [.map (some m)] => match h.get m with
    | some (.map es) => some (.map (some h.n), h.alloc (.map es))
    | _ => none
  | _ => none
theorem cloneP_framed : Framed (fun _ => cloneP) := by
  intro S f h g args v' f' m hc
  simp only [cloneP] at hc ⊢
  split at hc
  case h_2 => cases hc
  split at hc
  case h_2 => cases hc
  rename_i es hg
  rw [m.map hg]
  cases hc
  obtain ⟨m1, k1⟩ := m.alloc (.map es)
  exact ⟨_, by rw [m.n], m1, k1⟩
theorem cloneP_ok : ∀ args hp v hp', cloneP args hp = some (v, hp') → ∀ Wr β w (args' : Array Value), Sim Try.prog Wr β hp w → VRs β args args'.toList → Calls Try.prog 65 args' w (Out Try.prog Wr β hp hp' v w) := by
  intro args hp v hp' hk Wr β w args' S ha
  unfold cloneP at hk
  split at hk
  case h_2 => cases hk
  rename_i m
  split at hk
  case h_2 => cases hk
  rename_i es hgm
  cases hk
  obtain ⟨l⟩ := args'
  cases ha with | @cons _ a1 _ l1 h1 ha => ?_
  cases ha
  cases h1 with | @map _ Bm hBm => ?_
  obtain ⟨B2, ents, clock, q1, q2, q3, q4⟩ := S.liveM _ _ hgm
  rw [hBm] at q1; cases q1
  refine (AnyW.maps_Clone cloneK Bm ents clock w q2).mono ?_
  rintro e w' ⟨rfl, rfl⟩
  have e : Ext w (w.alloc (.map ents clock)) := Ext.of_below ((RowKit.Below.refl _ w).alloc (Nat.le_refl _) _)
  have hg : (w.alloc (.map ents clock)).heap[w.heap.size]? = some (.map ents clock) := World.alloc_heap_new w _
  have hle := le_upd (⟨w.heap.size, 0, 0, 0⟩ : Img) S.dom
  obtain ⟨g1, g2⟩ := (S.ext e).addO (o := .map es) (x := ⟨w.heap.size, 0, 0, 0⟩)
    (fun b' x' _ hb => by have := S.img b' x' hb; simp; omega) (S.fresh _ (Nat.le_refl _)) (by simp) ⟨rfl, ents, clock, hg, ⟨q3.mono hle, q4⟩⟩
  exact ⟨_, _, rfl, g2, g1, .map (by simp [upd]), Ext.frame S e, Lm.alloc _ _⟩

end Go.Proofs.Ytpfdandpmpmbiaa.V
