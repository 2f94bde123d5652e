/- Every writing operation of the clean machine does what the model's does (copy, clear, maps; all together).
   Conditions: it goes through, and heap and frame stand as V2 says. -/
import Derived.Test.YtadfhabapgipbaaV12
namespace Go.Proofs.Ytadfhabapgipbaa.V
open Go
set_option linter.unusedVariables false
set_option linter.unusedSimpArgs false

theorem noval {β : Inj} : VR β (.tuple #[]) (.tuple #[]) := .tuple .nil

theorem copyV_ok {E : Env} {Wr : Nat → Prop} {β : Inj} {hp hp' : Heap} {w : World} (S : Sim E.P Wr β hp w) {ts : Array TypeId} {T : TypeId} {d x d' x' v : Value} (hd : VR β d d') (hx : VR β x x') (h : copyV E hp ts d x = some (v, hp')) :
    WOut E.P Wr β hp w hp' v (Builtin.copy_ ts T #[d', x']) := by
  unfold copyV at h
  split at h
  · cases h
  · rename_i sT h0
    split at h
    · rename_i elem hu
      split at h
      · rename_i k base len cap n hk hn
        split at h
        · cases h
        · rename_i c hc
          cases hcl : Nat.beq c.length (Nat.min n len * k) with
          | false => rw [hcl] at h; simp at h
          | true =>
            rw [hcl] at h; simp only [Bool.not_true, cond_false] at h
            have hcl : c.length = Nat.min n len * k := Nat.eq_of_beq_eq_true hcl
            obtain ⟨c', h1, h2⟩ := first_ok S hx hc
            have hl := h1.len
            have e0 : (#[d', x'] : Array Value)[0]? = some d' := rfl
            have e1 : (#[d', x'] : Array Value)[1]? = some x' := rfl
            have red : ∀ (base' : Option Addr) (cap' : Nat), d' = .slice base' len cap' → ∀ w', (match (generalizing := false) base' with | some a => Go.storeCells a c'.toList | none => pure () : Sem Unit).run E.P w = .ok () w' →
                (Builtin.copy_ ts T #[d', x']).run E.P w = .ok (goInt (Nat.min n len)) w' := by
              intro base' cap' hd' w' hs
              subst hd'
              unfold Builtin.copy_
              simp only [h0, e0, e1, Sem.run_bind, r_underlying hu, Result.andThen_ok, lenOf_ok hx hn, r_size hk, h2 w (Ext.refl w)]
              cases base' with
              | none => simp only [Sem.run_pure] at hs ⊢; cases hs; rfl
              | some a => simp only [Sem.run_bind, hs, Result.andThen_ok, Sem.run_pure]
            have hd2 : ∃ base' cap', d' = .slice base' len cap' := by cases hd <;> exact ⟨_, _, rfl⟩
            obtain ⟨base', cap', rfl⟩ := hd2
            cases hq : Nat.beq (Nat.min n len * k) 0 with
            | true =>
              rw [hq] at h; simp only [cond_true] at h
              cases h
              have hq : Nat.min n len * k = 0 := Nat.eq_of_beq_eq_true hq
              have : c'.toList = [] := List.eq_nil_of_length_eq_zero (by omega)
              refine ⟨β, w, _, Up.refl _ β, S, .int _ _, FrameW.refl _ _, Lm.refl _, red base' cap' rfl w ?_⟩
              rw [this]; cases base' <;> rfl
            | false =>
              rw [hq] at h; simp only [cond_false] at h
              split at h
              · cases h
              · rename_i a
                split at h
                · cases h
                · rename_i b hb
                  split at h
                  · rename_i hs hst
                    cases h
                    obtain ⟨a', c0, e, hA⟩ := sliceAt_ok hd hb
                    cases e
                    rw [add_zero] at hA
                    obtain ⟨w', g1, g2, g3, g4a, g4b⟩ := storeCells_ok S hA h1 hst
                    exact ⟨β, w', _, Up.refl _ β, g2, .int _ _, g3, Lm.of g4a g4b, red _ _ rfl w' g1⟩
                  · cases h
      · cases h
    · cases h

theorem zeroCells_list (z : Array Value) (n : Nat) : (Builtin.zeroCells z n).toList = repZ z.toList n := zrep z n

theorem map_write {P : Program} {Wr : Nat → Prop} {β : Inj} {hp : Heap} {w : World} (S : Sim P Wr β hp w) {r B : Nat} {es es' : List (Value × Value)} {ents ents' : Array MapEntry} {clock clock' : Nat} (hg : hp.get r = some (.map es)) (hβ : β r = some ⟨B, 0, 0, 0⟩) (hl : hp.lim ≤ r)
    (hw : w.heap[B]? = some (.map ents clock)) (hm : MRs β es' ents'.toList) :
    ∃ w', (setObj B (.map ents' clock')).run P w = .ok () w' ∧ Sim P Wr β (hp.set r (.map es')) w' ∧ FrameW Wr w w' := by
  refine ⟨{ w with heap := w.heap.setIfInBounds B (.map ents' clock') }, by simp [setObj, Sem.run, hw], ?_⟩
  exact S.write (w' := { w with heap := w.heap.setIfInBounds B (.map ents' clock') }) ⟨_, hg, by simp⟩ hl hβ (o := .map es') (by simp) (fun k hk => by
    have hne : ¬ B = k := fun e => hk e.symm
    simp only; rw [Array.getElem?_setIfInBounds, if_neg hne]) rfl rfl rfl ⟨rfl, ents', clock', by simp [lt_of_get hw], hm⟩

theorem get_run {P : Program} {w : World} {B : Nat} {ents : Array MapEntry} {clock : Nat} (hw : w.heap[B]? = some (.map ents clock)) : (getObj B).run P w = .ok (.map ents clock) w := by simp [getObj, Sem.run, hw]

theorem clearV_ok {E : Env} {Wr : Nat → Prop} {β : Inj} {hp hp' : Heap} {w : World} (S : Sim E.P Wr β hp w) {ts : Array TypeId} {T : TypeId} {x x' v : Value} (hx : VR β x x') (h : clearV E hp ts x = some (v, hp')) :
    WOut E.P Wr β hp w hp' v (Builtin.clear_ ts T #[x']) := by
  unfold clearV at h
  split at h
  · cases h
  · rename_i sT h0
    have e0 : (#[x'] : Array Value)[0]? = some x' := rfl
    split at h
    · rename_i elem hu
      split at h
      · cases hx; cases h
        refine ⟨β, w, _, Up.refl _ β, S, noval, FrameW.refl _ _, Lm.refl _, ?_⟩
        unfold Builtin.clear_; simp [h0, r_underlying hu]
      · rename_i a n cap
        cases hq : Nat.beq n 0 with
        | true =>
          rw [hq] at h; simp only [cond_true] at h
          cases h
          have hq : n = 0 := Nat.eq_of_beq_eq_true hq
          subst hq
          have hd2 : ∃ base' cap', x' = .slice (some base') 0 cap' := by cases hx <;> exact ⟨_, _, rfl⟩
          obtain ⟨base', cap', rfl⟩ := hd2
          refine ⟨β, w, _, Up.refl _ β, S, noval, FrameW.refl _ _, Lm.refl _, ?_⟩
          unfold Builtin.clear_; simp [h0, r_underlying hu]
        | false =>
          rw [hq] at h; simp only [cond_false] at h
          have hq : n ≠ 0 := fun e => by subst e; cases hq
          split at h
          · rename_i z hz
            split at h
            · cases h
            · rename_i b hb
              split at h
              · rename_i hs hst
                cases h
                obtain ⟨a', c0, rfl, hA⟩ := sliceAt_ok hx hb
                rw [add_zero] at hA
                have hrep := VRs.repZ (cells_ok (VR.plain (β := β) 4 z (r_zero (w := w) hz).2)) n
                obtain ⟨w', g1, g2, g3, g4a, g4b⟩ := storeCells_ok S hA hrep hst
                refine ⟨β, w', _, Up.refl _ β, g2, noval, g3, Lm.of g4a g4b, ?_⟩
                obtain ⟨m, rfl⟩ : ∃ m, n = m + 1 := ⟨n - 1, by omega⟩
                unfold Builtin.clear_
                simp only [h0, e0, Sem.run_bind, r_underlying hu, Result.andThen_ok, (r_zero hz).1, zeroCells_list, g1, Sem.run_pure]
              · cases h
          · cases h
      · cases h
    · rename_i key elem hu
      split at h
      · cases hx; cases h
        refine ⟨β, w, _, Up.refl _ β, S, noval, FrameW.refl _ _, Lm.refl _, ?_⟩
        unfold Builtin.clear_; simp [h0, r_underlying hu]
      · rename_i r
        cases hx with | @map _ B hB => ?_
        split at h
        · rename_i es hg
          obtain ⟨hl, h⟩ := bif_some h
          cases h
          obtain ⟨B', ents, clock, g1, g2, g3⟩ := S.liveM _ _ hg
          rw [hB] at g1; cases g1
          obtain ⟨w', k1, k2, k3⟩ := map_write S (es' := []) (ents' := #[]) (clock' := clock) hg hB (Nat.le_of_ble_eq_true hl) g2 trivial
          refine ⟨β, w', _, Up.refl _ β, k2, noval, k3, ⟨rfl, Nat.le_refl _⟩, ?_⟩
          unfold Builtin.clear_
          simp only [h0, e0, Sem.run_bind, r_underlying hu, Result.andThen_ok, get_run g2, k1, Sem.run_pure]
        · cases h
      · cases h
    · cases h

theorem findM_spec {kd : TypeDesc} {k : Value} : ∀ {es : List (Value × Value)} {j i : Nat} {v : Value}, findM kd k es j = some (some (i, v)) → ∃ m key, i = j + m ∧ es[m]? = some (key, v) ∧ Instr.sameNow kd k key = some true
  | [], j, i, v, h => by simp [findM] at h
  | e :: es, j, i, v, h => by
    simp only [findM] at h
    split at h
    · rename_i hs; simp at h; obtain ⟨rfl, rfl⟩ := h; exact ⟨0, e.1, rfl, by simp, hs⟩
    · obtain ⟨m, key, h1, h2, h3⟩ := findM_spec h; exact ⟨m + 1, key, by omega, by simpa using h2, h3⟩
    · cases h

theorem bytes_beq (a b : ByteArray) (h : (a == b) = true) : a = b := by
  first
  | exact eq_of_beq h
  | exact of_decide_eq_true h
  | (obtain ⟨a⟩ := a; obtain ⟨b⟩ := b; have : (a == b) = true := h; rw [eq_of_beq this])

theorem same_eq {kd : TypeDesc} {k e : Value} (h : Instr.sameNow kd k e = some true) : k = e := by
  unfold Instr.sameNow at h
  split at h
  · split at h
    · rename_i hk; subst hk; simp at h; rw [h]
    · cases h
  · rw [bytes_beq _ _ (Option.some.inj h)]
  · simp at h; rw [h]
  · cases h

theorem MRs.len {β : Inj} : ∀ {es : List (Value × Value)} {l : List MapEntry}, MRs β es l → es.length = l.length
  | [], [], _ => rfl
  | [], _ :: _, h => h.elim
  | _ :: _, [], h => h.elim
  | e :: es, x :: l, h => by simp [MRs.len h.2.2]

theorem MRs.at_ {β : Inj} : ∀ {es : List (Value × Value)} {l : List MapEntry} (m : Nat) {key v : Value}, MRs β es l → es[m]? = some (key, v) → ∃ x, l[m]? = some x ∧ x.key = key
  | [], [], m, key, v, _, h => by simp at h
  | [], _ :: _, _, _, _, h, _ => h.elim
  | _ :: _, [], _, _, _, h, _ => h.elim
  | e :: es, x :: l, 0, key, v, h, hm => by simp at hm; subst hm; exact ⟨x, by simp, h.1.2⟩
  | e :: es, x :: l, m + 1, key, v, h, hm => by
    obtain ⟨y, h1, h2⟩ := MRs.at_ m h.2.2 (by simpa using hm); exact ⟨y, by simpa using h1, h2⟩

theorem MRs.set_ {β : Inj} {k v v' : Value} (hk : plainN 0 k = true) (hv : VR β v v') : ∀ {es : List (Value × Value)} {l : List MapEntry} (m : Nat), MRs β es l → MRs β (es.set m (k, v)) (l.modify m fun e => { e with key := k, val := v' })
  | [], [], m, _ => by cases m <;> exact trivial
  | [], _ :: _, _, h => h.elim
  | _ :: _, [], _, h => h.elim
  | e :: es, x :: l, 0, h => ⟨⟨hk, rfl⟩, hv, h.2.2⟩
  | e :: es, x :: l, m + 1, h => ⟨h.1, h.2.1, MRs.set_ hk hv m h.2.2⟩

theorem MRs.push_ {β : Inj} {k v v' : Value} (hk : plainN 0 k = true) (hv : VR β v v') (b : Nat) : ∀ {es : List (Value × Value)} {l : List MapEntry}, MRs β es l → MRs β (es ++ [(k, v)]) (l ++ [{ key := k, val := v', born := b }])
  | [], [], _ => ⟨⟨hk, rfl⟩, hv, trivial⟩
  | [], _ :: _, h => h.elim
  | _ :: _, [], h => h.elim
  | e :: es, x :: l, h => ⟨h.1, h.2.1, MRs.push_ hk hv b h.2.2⟩

theorem MRs.erase_ {β : Inj} : ∀ {es : List (Value × Value)} {l : List MapEntry} (m : Nat), MRs β es l → MRs β (es.eraseIdx m) (l.eraseIdx m)
  | [], [], m, _ => by cases m <;> exact trivial
  | [], _ :: _, _, h => h.elim
  | _ :: _, [], _, h => h.elim
  | e :: es, x :: l, 0, h => h.2.2
  | e :: es, x :: l, m + 1, h => ⟨h.1, h.2.1, MRs.erase_ m h.2.2⟩

theorem updateV_ok {E : Env} {Wr : Nat → Prop} {β : Inj} {hp hp' : Heap} {w : World} (S : Sim E.P Wr β hp w) {t : TypeId} {m k v m' k' v' : Value} (hm : VR β m m') (hk : VR β k k') (hv : VR β v v') (h : updateV E hp t m k v = some hp') :
    ∃ w', (Instr.mapUpdate t m' k' v').run E.P w = .ok () w' ∧ Sim E.P Wr β hp' w' ∧ FrameW Wr w w' ∧ Lm hp hp' := by
  unfold updateV at h
  split at h
  · rename_i key elem hu
    split at h
    · rename_i kd r hkd0
      obtain ⟨hpl, hkd⟩ := bif_some hkd0
      have := plain0_eq hpl hk; subst this
      cases hm with | @map _ B hB => ?_
      split at h
      · rename_i es hg
        obtain ⟨hl, h⟩ := bif_some h
        have hl := Nat.le_of_ble_eq_true hl
        obtain ⟨B', ents, clock, g1, g2, g3⟩ := S.liveM _ _ hg
        rw [hB] at g1; cases g1
        split at h
        · rename_i i u hf
          cases h
          obtain ⟨r', f1, f2⟩ := findKey_ok hkd g3 hf
          cases r' with
          | none => exact f2.elim
          | some r' =>
            obtain ⟨j', u'⟩ := r'
            obtain ⟨rfl, hu'⟩ := f2
            obtain ⟨q, key', e1, e2, e3⟩ := findM_spec hf
            have e1 : j' = q := by omega
            subst e1
            have := same_eq e3; subst this
            obtain ⟨x, y1, y2⟩ := g3.at_ j' e2
            have y1' : ents[j']? = some x := by rw [← Array.getElem?_toList]; exact y1
            obtain ⟨w', k1, k2, k3⟩ := map_write S (es' := es.set j' (k', v)) (ents' := ents.modify j' fun e => { e with key := k', val := v' }) (clock' := clock) hg hB hl g2 (by
              have := MRs.set_ hpl hv j' g3
              simpa using this)
            refine ⟨w', ?_, k2, k3, ⟨rfl, Nat.le_refl _⟩⟩
            have hst : (Instr.keyThatStays k' k').run E.P w = .ok k' w := by
              have : Instr.sameBits 10000 k' k' = true := by
                obtain ⟨_, hkk⟩ := scalarT_eq hkd
                unfold Instr.sameNow at e3
                split at e3
                · simp [Instr.sameBits]
                · exact Option.some.inj e3
                · simp [Instr.sameBits]
                · cases e3
              simp [Instr.keyThatStays, this]
            simp only [Instr.mapUpdate, Sem.run_bind, r_underlying hu, Result.andThen_ok, get_run g2, checkKey_ok hkd, f1, y1', Option.map_some, Option.getD_some, y2, hst, k1]
        · rename_i hf
          cases h
          obtain ⟨r', f1, f2⟩ := findKey_ok hkd g3 hf
          cases r' with
          | some r' => exact f2.elim
          | none =>
            obtain ⟨w', k1, k2, k3⟩ := map_write S (es' := es ++ [(k', v)]) (ents' := ents.push { key := k', val := v', born := clock }) (clock' := clock + 1) hg hB hl g2 (by
              have := MRs.push_ hpl hv clock g3
              simpa using this)
            refine ⟨w', ?_, k2, k3, ⟨rfl, Nat.le_refl _⟩⟩
            simp only [Instr.mapUpdate, Sem.run_bind, r_underlying hu, Result.andThen_ok, get_run g2, checkKey_ok hkd, f1, k1]
        · cases h
      · cases h
    · cases h
  · cases h

theorem deleteV_ok {E : Env} {Wr : Nat → Prop} {β : Inj} {hp hp' : Heap} {w : World} (S : Sim E.P Wr β hp w) {ts : Array TypeId} {T : TypeId} {m k m' k' v : Value} (hm : VR β m m') (hk : VR β k k') (h : deleteV E hp ts m k = some (v, hp')) :
    WOut E.P Wr β hp w hp' v (Builtin.delete_ ts T #[m', k']) := by
  unfold deleteV at h
  split at h
  · cases h
  · rename_i mT h0
    have e0 : (#[m', k'] : Array Value)[0]? = some m' := rfl
    have e1 : (#[m', k'] : Array Value)[1]? = some k' := rfl
    split at h
    · rename_i key elem hu
      split at h
      · rename_i kd hkd0
        obtain ⟨hpl, hkd⟩ := bif_some hkd0
        have := plain0_eq hpl hk; subst this
        split at h
        · cases hm; cases h
          refine ⟨β, w, _, Up.refl _ β, S, noval, FrameW.refl _ _, Lm.refl _, ?_⟩
          unfold Builtin.delete_
          simp only [h0, e0, e1, Sem.run_bind, r_underlying hu, Result.andThen_ok, checkKey_ok hkd, Sem.run_pure]
        · rename_i r
          cases hm with | @map _ B hB => ?_
          split at h
          · rename_i es hg
            obtain ⟨hl, h⟩ := bif_some h
            have hl := Nat.le_of_ble_eq_true hl
            obtain ⟨B', ents, clock, g1, g2, g3⟩ := S.liveM _ _ hg
            rw [hB] at g1; cases g1
            split at h
            · rename_i i u hf
              cases h
              obtain ⟨r', f1, f2⟩ := findKey_ok hkd g3 hf
              cases r' with
              | none => exact f2.elim
              | some r' =>
                obtain ⟨j', u'⟩ := r'
                obtain ⟨rfl, hu'⟩ := f2
                obtain ⟨w', k1, k2, k3⟩ := map_write S (es' := es.eraseIdx j') (ents' := ents.eraseIdxIfInBounds j') (clock' := clock) hg hB hl g2 (by
                  have := MRs.erase_ j' g3
                  simpa using this)
                refine ⟨β, w', _, Up.refl _ β, k2, noval, k3, ⟨rfl, Nat.le_refl _⟩, ?_⟩
                unfold Builtin.delete_
                simp only [h0, e0, e1, Sem.run_bind, r_underlying hu, Result.andThen_ok, get_run g2, checkKey_ok hkd, f1, k1, Sem.run_pure]
            · rename_i hf
              cases h
              obtain ⟨r', f1, f2⟩ := findKey_ok hkd g3 hf
              cases r' with
              | some r' => exact f2.elim
              | none =>
                obtain ⟨w', k1, k2, k3⟩ := map_write S (es' := es) (ents' := ents) (clock' := clock) hg hB hl g2 g3
                refine ⟨β, w', _, Up.refl _ β, k2, noval, k3, ⟨rfl, Nat.le_refl _⟩, ?_⟩
                unfold Builtin.delete_
                simp only [h0, e0, e1, Sem.run_bind, r_underlying hu, Result.andThen_ok, get_run g2, checkKey_ok hkd, f1, k1, Sem.run_pure]
            · cases h
          · cases h
        · cases h
      · cases h
    · cases h

end Go.Proofs.Ytadfhabapgipbaa.V
