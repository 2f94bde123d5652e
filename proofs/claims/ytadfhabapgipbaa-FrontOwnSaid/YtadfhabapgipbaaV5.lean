/- The clean machine's reading operations do what the model's do (slices, fields, indexes, maps).
   Conditions: the clean operation yields a value, and heap and frame stand as V2 says. -/
import Derived.Test.YtadfhabapgipbaaV4
namespace Go.Proofs.Ytadfhabapgipbaa.V
open Go
set_option linter.unusedVariables false
set_option linter.unusedSimpArgs false

inductive VRo (β : Inj) : Option Value → Option Value → Prop
  | none : VRo β .none .none
  | some {v v' : Value} (h : VR β v v') : VRo β (.some v) (.some v')

theorem evOpt_ok {β : Inj} {nt : Nat} {fr : Fr} {a : Act} (h : FR β nt fr a) {x : Option Operand} {v : Option Value} (hx : evOpt fr x = some v) : VRo β v (x.map a.eval) := by
  cases x with
  | none => simp [evOpt] at hx; subst hx; exact .none
  | some x =>
    simp only [evOpt] at hx
    split at hx
    · rename_i u hu; simp at hx; subst hx; exact .some (ev_ok h hu)
    · cases hx

theorem bound_ok {P : Program} {β : Inj} {x x' : Option Value} (hx : VRo β x x') {d y i : Nat} (h : boundV x d y = some i) (y' : Nat) (hy : y ≤ y') (c : BoundsCode) (hc : Option Nat) (w : World) :
    (x' = none ∧ x = none ∧ i = d) ∨ ∃ v, x' = some v ∧ x.isSome = true ∧ i ≤ y ∧ (Instr.sliceBound v y' c).run P w = .ok i w := by
  cases hx with
  | none => simp [boundV] at h; exact .inl ⟨rfl, rfl, h.symm⟩
  | @some v v' hv =>
    right
    unfold boundV at h
    split at h
    · rename_i e; cases e
    · rename_i k n e
      cases e
      cases hv
      split at h
      · rename_i hn
        simp at h
        refine ⟨_, rfl, rfl, by omega, ?_⟩
        have : 0 ≤ n ∧ n ≤ (y' : Int) := ⟨hn.1, by omega⟩
        simp [Instr.sliceBound, asIntOf, this, h]
      · cases h
    · cases h

theorem bounds_ok {P : Program} {β : Inj} {lo hi mx lo' hi' mx' : Option Value} (h1 : VRo β lo lo') (h2 : VRo β hi hi') (h3 : VRo β mx mx') {len cap cap' m h l : Nat} (isS : Bool)
    (hm : boundV mx cap cap = some m) (hh : boundV hi len m = some h) (hl : boundV lo 0 h = some l) (hg : (mx.isSome && hi.isNone) = false) (hc : cap ≤ cap') (w : World) :
    (Instr.sliceBounds isS len cap' lo' hi' mx').run P w = .ok (l, h, if mx.isSome then m else cap') w := by
  rcases bound_ok (P := P) h3 hm cap' hc (if isS then .slice3Acap else .slice3Alen) none w with ⟨rfl, rfl, rfl⟩ | ⟨vm, rfl, hms, hmy, em⟩
  · rcases bound_ok (P := P) h2 hh cap' hc (if isS then .sliceAcap else .sliceAlen) none w with ⟨rfl, rfl, rfl⟩ | ⟨vh, rfl, hhs, hhy, eh⟩
    · rcases bound_ok (P := P) h1 hl h (Nat.le_refl _) .sliceB none w with ⟨rfl, rfl, rfl⟩ | ⟨vl, rfl, hls, hly, el⟩
      · simp [Instr.sliceBounds]
      · simp [Instr.sliceBounds, el]
    · rcases bound_ok (P := P) h1 hl h (Nat.le_refl _) .sliceB none w with ⟨rfl, rfl, rfl⟩ | ⟨vl, rfl, hls, hly, el⟩
      · simp [Instr.sliceBounds, eh]
      · simp [Instr.sliceBounds, eh, el]
  · rw [hms] at hg
    rcases bound_ok (P := P) h2 hh m (Nat.le_refl _) .slice3B none w with ⟨rfl, rfl, rfl⟩ | ⟨vh, rfl, hhs, hhy, eh⟩
    · simp at hg
    · rcases bound_ok (P := P) h1 hl h (Nat.le_refl _) .slice3C none w with ⟨rfl, rfl, rfl⟩ | ⟨vl, rfl, hls, hly, el⟩
      · simp [Instr.sliceBounds, em, eh, hms]
      · simp [Instr.sliceBounds, em, eh, el, hms]

theorem boundV_le {x : Option Value} {d y i : Nat} (h : boundV x d y = some i) (hd : d ≤ y) : i ≤ y := by
  unfold boundV at h
  split at h
  · simp at h; omega
  · split at h
    · simp at h; omega
    · cases h
  · cases h

theorem sliceV_ok {E : Env} {Wr : Nat → Prop} {β : Inj} {hp : Heap} {w : World} (S : Sim E.P Wr β hp w) {t : TypeId} {x x' : Value} (hx : VR β x x') {lo hi mx lo' hi' mx' : Option Value} (h1 : VRo β lo lo') (h2 : VRo β hi hi') (h3 : VRo β mx mx')
    {v : Value} (hv : sliceV E hp t x lo hi mx = some v) : ∃ v', VR β v v' ∧ ∀ w', (Instr.sliceAt t x' lo' hi' mx').run E.P w' = .ok v' w' := by
  unfold sliceV at hv
  split at hv
  · rename_i s hu
    cases hx
    split at hv
    · cases hv
    · cases h3
      split at hv
      · rename_i h hh
        split at hv
        · rename_i l hl
          cases hv
          refine ⟨_, .string _, fun w' => ?_⟩
          have := bounds_ok (P := E.P) h1 h2 .none (m := s.size) false (by rfl) hh hl rfl (Nat.le_refl _) w'
          simp [Instr.sliceAt, r_underlying hu, Instr.slice, this]
        · cases hv
      · cases hv
  · rename_i elem a len cap hu
    split at hv
    · cases hv
    · rename_i m hm
      cases hg : (mx.isSome && hi.isNone) with
      | true => rw [hg] at hv; simp at hv
      | false =>
        rw [hg] at hv; simp only [cond_false] at hv
        split at hv
        · cases hv
        · rename_i h hh
          split at hv
          · cases hv
          · rename_i l hl
            split at hv
            · cases hv
            · rename_i k hk
              have hl0 : l ≤ h := boundV_le hl (Nat.zero_le _)
              split at hv
              · cases hv
                cases hx
                refine ⟨_, .sliceNil _ _, fun w' => ?_⟩
                have := bounds_ok (P := E.P) h1 h2 h3 true hm hh hl hg (Nat.le_refl _) w'
                have e : (if mx.isSome then m else cap) = m := by
                  cases h3 with
                  | none => simp [boundV] at hm; simp [hm]
                  | some _ => rfl
                rw [e] at this
                simp [Instr.sliceAt, r_underlying hu, Instr.slice, this, r_size hk]
              · rename_i a
                cases hs : (Nat.ble h m && (mx.isSome || slackOk hp a elem)) with
                | false => rw [hs] at hv; simp at hv
                | true =>
                  rw [hs] at hv; simp only [cond_true] at hv
                  rw [Bool.and_eq_true] at hs
                  obtain ⟨hhm, hs⟩ := hs
                  have hhm : h ≤ m := Nat.le_of_ble_eq_true hhm
                  split at hv
                  · rename_i b hb
                    cases hv
                    have go : ∀ (a' : Addr) (cap' : Nat), cap ≤ cap' → ∀ w', (Instr.sliceAt t (.slice (some a') len cap') lo' hi' mx').run E.P w' =
                        .ok (.slice (some (if (if mx.isSome then m else cap') = l then a' else a'.add (l * k))) (h - l) ((if mx.isSome then m else cap') - l)) w' := by
                      intro a' cap' hc w'
                      have := bounds_ok (P := E.P) h1 h2 h3 true hm hh hl hg hc w'
                      simp only [Instr.sliceAt, Sem.run_bind, r_underlying hu, Result.andThen_ok, Instr.slice, this, r_size hk, Sem.run_pure]
                      by_cases q : (if mx.isSome then m else cap') = l
                      · rw [if_pos q, if_pos q]
                      · rw [if_neg q, if_neg q]; rfl
                    cases hx with
                    | @slice a a' hA l0 c0 =>
                      have e : (if mx.isSome then m else cap) = m := by
                        cases h3 with
                        | none => simp [boundV] at hm; simp [hm]
                        | some _ => rfl
                      refine ⟨_, ?_, fun w' => go a' cap (Nat.le_refl _) w'⟩
                      rw [e]
                      cases hA with
                      | @new b0 o B s N k0 h0 =>
                        have hb' : sliceAddr ⟨b0, o, none⟩ m l (l * k) = some b := by
                          cases hq : mx.isSome <;> rw [hq] at hb <;> exact hb
                        simp only [sliceAddr] at hb'
                        by_cases q : m = l
                        · subst q; simp at hb'; subst hb'; rw [if_pos rfl]; exact .slice (.new h0) _ _
                        · rw [Trie.nb q] at hb'; simp at hb'; subst hb'; rw [if_neg q, Addr.add_none, Nat.add_assoc]; exact .slice (.new h0) _ _
                      | @base B o =>
                        have hb' : sliceAddr ⟨B, o, some 1⟩ m l (l * k) = some b := by
                          cases hq : mx.isSome <;> rw [hq] at hb <;> exact hb
                        simp only [sliceAddr] at hb'
                        by_cases q : m = l
                        · subst q; simp at hb'; subst hb'; rw [if_pos rfl]; exact .slice .base _ _
                        · rw [Trie.nb q] at hb'; simp at hb'; subst hb'; rw [if_neg q, Addr.add_none]; exact .slice .base _ _
                      | @odd B o s =>
                        have hb' : sliceAddr ⟨B, o, some (s + 3)⟩ m l (l * k) = some b := by
                          cases hq : mx.isSome <;> rw [hq] at hb <;> exact hb
                        simp only [sliceAddr] at hb'
                        by_cases q : m = l
                        · subst q; simp at hb'; subst hb'; rw [if_pos rfl]; exact .slice .odd _ _
                        · rw [Trie.nb q] at hb'; simp at hb'
                    | @slack b0 o B s N k0 h0 l0 c0 c' hc hn =>
                      refine ⟨_, ?_, fun w' => go _ c' hc w'⟩
                      cases h3 with
                      | none =>
                        simp [boundV] at hm; subst hm
                        simp only [sliceAddr, Option.isSome_none, cond_false] at hb
                        simp only [Option.isSome_none, Bool.false_eq_true, if_false]
                        by_cases q : cap = l
                        · subst q
                          simp at hb; subst hb
                          have e1 : h - cap = 0 := by omega
                          have e2 : cap - cap = 0 := by omega
                          rw [e1, e2]; exact .opq _ _
                        · rw [Trie.nb q] at hb; simp at hb; subst hb
                          have q' : ¬ c' = l := by omega
                          rw [if_neg q', Addr.add_none, Nat.add_assoc]
                          refine .slack h0 _ (by omega) ?_
                          simp only [Option.isSome_none, Bool.false_or, slackOk] at hs
                          split at hs
                          · rename_i c T hg'
                            obtain ⟨B', s', C, fr, g1, g2, g3, g4, g5⟩ := S.live _ _ _ hg'
                            rw [h0] at g1; cases g1
                            have : T = elem := Nat.eq_of_beq_eq_true hs
                            subst this
                            have ek := sz_cells hk
                            rw [ek] at hn ⊢
                            have e3 : l * k + (c' - l) * k = c' * k := by rw [← Nat.add_mul]; congr 1; omega
                            omega
                          · cases hs
                      | @some _ _ h3 =>
                        simp only [Option.isSome_some, cond_true, exactA] at hb
                        simp only [Option.isSome_some, if_true]
                        simp only [sliceAddr] at hb
                        by_cases q : m = l
                        · subst q; simp at hb; subst hb; rw [if_pos rfl]; exact .slice (.new h0) _ _
                        · rw [Trie.nb q] at hb; simp at hb; subst hb; rw [if_neg q, Addr.add_none, Nat.add_assoc]; exact .slice (.new h0) _ _
                    | opq a' c' =>
                      have m0 : m = 0 := by have := boundV_le hm (Nat.le_refl _); omega
                      have l0 : l = 0 := by omega
                      subst m0; subst l0
                      have hb' : b = ⟨0, 0, some 2⟩ := by
                        cases hq : mx.isSome <;> rw [hq] at hb <;> simp [exactA, sliceAddr] at hb <;> exact hb.symm
                      subst hb'
                      refine ⟨_, ?_, fun w' => go a' c' (Nat.zero_le _) w'⟩
                      have e1 : h - 0 = 0 := by omega
                      rw [e1]; exact .opq _ _
                  · cases hv
  · cases hv
end Go.Proofs.Ytadfhabapgipbaa.V
