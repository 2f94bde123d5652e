/- What filtering by DeleteFunc leaves.
   No condition: these are laws of plain functions. -/
import Derived.Test.YtcjcbcmapjcfnaaPF
import Derived.Test.YtcjcbcmapjcfnaaMb
namespace Go.Proofs.Ytcjcbcmapjcfnaa.V
open Go
set_option linter.unusedVariables false
set_option linter.unusedSimpArgs false

def inR (r : TRange) (k : ByteArray) : Bool := leB r.From k && (eqB r.To ByteArray.empty || lessB k r.To)
theorem refIn_eq (r : TRange) (k : ByteArray) : F_ref04_In r k = some (inR r k) := by
  unfold F_ref04_In inR; rw [leB_not]; cases lessB k r.From <;> cases eqB r.To ByteArray.empty <;> rfl
theorem keyIn_eq (r : TRange) (k : ByteArray) : F_key_In r k = some (inR r k) := by
  unfold F_key_In inR; cases leB r.From k <;> cases eqB r.To ByteArray.empty <;> rfl

theorem keepE_eq (x : TEvent) (r : TRange) : F_event_Filter_1 x r = some (!inR r x.Key) := by unfold F_event_Filter_1; rw [keyIn_eq]; rfl
theorem idxE (r : TRange) : ∀ (l : List TEvent) (i : Nat), ((∀ x ∈ l, inR r x.Key = true) ∧ F_slices_IndexFunc_event_Filter_1_L1 r l i = some (.go ())) ∨
    ∃ A x B, l = A ++ x :: B ∧ inR r x.Key = false ∧ (∀ y ∈ A, inR r y.Key = true) ∧ F_slices_IndexFunc_event_Filter_1_L1 r l i = some (.out ((i + A.length : Nat) : Int)) := by
  intro l
  induction l with
  | nil => intro i; exact .inl ⟨fun x h => absurd h List.not_mem_nil, rfl⟩
  | cons z l ih =>
    intro i
    rw [F_slices_IndexFunc_event_Filter_1_L1, keepE_eq]
    simp only [Option.bind_some]
    cases h : inR r z.Key with
    | false => exact .inr ⟨[], z, l, rfl, h, fun y hy => absurd hy List.not_mem_nil, by simp⟩
    | true =>
      simp only [Bool.not_true, Bool.false_eq_true, if_false]
      rcases ih (i + 1) with ⟨h1, h2⟩ | ⟨A, x, B, h1, h2, h3, h4⟩
      · refine .inl ⟨fun x hx => ?_, h2⟩
        rcases List.mem_cons.mp hx with e | hx
        · subst e; exact h
        · exact h1 x hx
      · refine .inr ⟨z :: A, x, B, by rw [h1]; rfl, h2, fun y hy => ?_, ?_⟩
        · rcases List.mem_cons.mp hy with e | hy
          · subst e; exact h
          · exact h3 y hy
        · rw [h4, List.length_cons]
          congr 3; omega
theorem dfLE (r : TRange) (orig : List TEvent) (hn : orig.length < 4611686018427387904) : ∀ (f i j : Nat) (arr : List TEvent), i < j → j ≤ orig.length → arr.length = orig.length →
    arr.take i = (orig.take j).filter (fun x => inR r x.Key) → arr.drop j = orig.drop j → orig.length - j < f →
    ∃ arr' i', F_slices_DeleteFunc_event_Filter_1_L1 r f (i : Int) (j : Int) arr = some (arr', ((i' : Nat) : Int)) ∧ arr'.length = orig.length ∧ i' ≤ orig.length ∧ arr'.take i' = orig.filter (fun x => inR r x.Key) := by
  intro f
  induction f with
  | zero => intro i j arr _ _ _ _ _ h; omega
  | succ f ih =>
    intro i j arr h1 h2 h3 h4 h5 h6
    rw [F_slices_DeleteFunc_event_Filter_1_L1]
    rcases Nat.lt_or_ge j orig.length with q | q
    · have hg : arr[j]? = some orig[j] := by
        have e : (arr.drop j)[0]? = (orig.drop j)[0]? := by rw [h5]
        rw [List.getElem?_drop, List.getElem?_drop, Nat.add_zero, List.getElem?_eq_getElem q] at e
        exact e
      have hd : ∀ a : List TEvent, a.drop j = orig.drop j → a.drop (j + 1) = orig.drop (j + 1) := fun a e => by rw [← List.drop_drop, e, List.drop_drop]
      rw [if_pos (by simp [h3]; omega), getI_nat, hg]
      simp only [Option.bind_some, keepE_eq]
      have hw : IntKind.i64.wrap ((j : Int) + 1) = ((j + 1 : Nat) : Int) := by rw [wrap_id (by omega) (by omega)]; omega
      have ht : (orig.take (j + 1)).filter (fun x => inR r x.Key) = (orig.take j).filter (fun x => inR r x.Key) ++ (if inR r orig[j].Key = true then [orig[j]] else []) := by
        rw [List.take_succ_eq_append_getElem q, List.filter_append, List.filter_cons, List.filter_nil]
      cases hc : inR r orig[j].Key with
      | true =>
        have hi : i < arr.length := by omega
        simp only [Bool.not_true, Bool.not_false, if_true]
        rw [getI_nat, List.getElem?_eq_getElem hi]
        simp only [Option.bind_some]
        rw [hw, show IntKind.i64.wrap ((i : Int) + 1) = ((i + 1 : Nat) : Int) from by rw [wrap_id (by omega) (by omega)]; omega]
        have hset : setI arr (i : Int) orig[j] = arr.set i orig[j] := by unfold setI; rw [Int.toNat_natCast]
        rw [hset]
        refine ih (i + 1) (j + 1) (arr.set i orig[j]) (by omega) q (by rw [List.length_set]; exact h3) ?_ ?_ (by omega)
        · rw [ht, if_pos hc, ← h4]
          rw [List.take_succ_eq_append_getElem (by rw [List.length_set]; exact hi), List.getElem_set_self, List.take_set_of_le (Nat.le_refl _)]
        · rw [List.drop_set_of_lt (by omega)]; exact hd arr h5
      | false =>
        simp only [Bool.not_false, Bool.not_true, Bool.false_eq_true, if_false, Option.bind_some]
        rw [hw]
        exact ih i (j + 1) arr (by omega) q h3 (by rw [ht, hc]; simpa using h4) (hd arr h5) (by omega)
    · rw [if_neg (by simp [h3]; omega)]
      refine ⟨arr, i, rfl, h3, by omega, ?_⟩
      rw [h4, List.take_of_length_le (by omega)]
theorem dfE {n : Nat} (r : TRange) (l : List TEvent) (hl : l.length ≤ 1000000) (hn : l.length < n) : F_slices_DeleteFunc_event_Filter_1 n l r = some (l.filter (fun x => inR r x.Key)) := by
  unfold F_slices_DeleteFunc_event_Filter_1 F_slices_IndexFunc_event_Filter_1
  rcases idxE r l 0 with ⟨h1, h2⟩ | ⟨A, x, B, h1, h2, h3, h4⟩
  · rw [h2]
    simp only [Option.bind_some, lpK]
    rw [if_pos (by simp), List.filter_eq_self.mpr h1]
  · rw [h4]
    simp only [Option.bind_some, lpK, Nat.zero_add]
    rw [if_neg (by simp)]
    have hlen : l.length = A.length + (B.length + 1) := by rw [h1, List.length_append, List.length_cons]
    rw [show IntKind.i64.wrap (((A.length : Nat) : Int) + 1) = ((A.length + 1 : Nat) : Int) from by rw [wrap_id (by omega) (by omega)]; omega]
    obtain ⟨arr', i', e1, e2, e3, e4⟩ := dfLE r l (by omega) n A.length (A.length + 1) l (by omega) (by omega) rfl (by
      rw [h1, List.take_left, show A.length + 1 = A.length + (1 : Nat) from rfl, List.take_append, List.take_of_length_le (by omega), List.filter_append, List.filter_eq_self.mpr h3]
      simp [h2]) rfl (by omega)
    rw [e1]
    simp only [Option.bind_some]
    have hc : clrL (⟨0, ByteArray.empty, ByteArray.empty, false⟩ : TEvent) arr' (i' : Int) = some (arr'.take i' ++ List.replicate (arr'.length - i') (⟨0, ByteArray.empty, ByteArray.empty, false⟩ : TEvent)) := by
      unfold clrL
      rw [if_pos ⟨by omega, by omega⟩, Int.toNat_natCast]
    rw [hc]
    simp only [Option.bind_some]
    have hs : subL0 (arr'.take i' ++ List.replicate (arr'.length - i') (⟨0, ByteArray.empty, ByteArray.empty, false⟩ : TEvent)) 0 (i' : Int) = some (arr'.take i') := by
      unfold subL0
      have hti : (arr'.take i').length = i' := by rw [List.length_take]; omega
      rw [if_pos ⟨by omega, by omega, by rw [List.length_append, hti, List.length_replicate]; omega⟩]
      simp only [Int.toNat_zero, List.drop_zero, Int.toNat_natCast, Nat.sub_zero]
      rw [List.take_append_of_le_length (by omega), List.take_of_length_le (by omega)]
    rw [hs]
    simp only [Option.bind_some]
    rw [e4]
theorem clE (l : List TEvent) (hl : l.length ≤ 1000000) : cloneL 48 l = some l := by
  unfold cloneL
  rw [appL_ok (by simp; omega) (by omega) (by omega)]; rfl
theorem filE {n : Nat} (r : TRange) (l : List TEvent) (hl : l.length ≤ 1000000) (hn : l.length < n) : F_event_Filter n l r = some (l.filter (fun x => inR r x.Key)) := by
  unfold F_event_Filter
  rw [clE l hl]
  simp only [Option.bind_some]
  rw [dfE r l hl hn]; rfl
theorem rfLE (r : TRange) : ∀ (l : List TEvent) (i : Nat) (out : List TEvent), out.length + l.length ≤ 1000000 → F_ref05_Filter_L1 r l i out = some (out ++ l.filter (fun x => inR r x.Key)) := by
  intro l
  induction l with
  | nil => intro i out _; simp [F_ref05_Filter_L1]
  | cons z l ih =>
    intro i out h
    rw [List.length_cons] at h
    rw [F_ref05_Filter_L1, refIn_eq, List.filter_cons]
    simp only [Option.bind_some]
    cases inR r z.Key with
    | true =>
      simp only [if_true]
      rw [appL_ok (by simp; omega) (by omega) (by omega)]
      simp only [Option.bind_some]
      rw [ih _ _ (by simp; omega)]; simp
    | false =>
      simp only [Bool.false_eq_true, if_false, Option.bind_some]
      exact ih _ _ (by omega)
theorem rfilE (r : TRange) (l : List TEvent) (hl : l.length ≤ 1000000) : F_ref05_Filter l r = some (l.filter (fun x => inR r x.Key)) := by
  unfold F_ref05_Filter
  rw [rfLE r l 0 [] (by simp; omega)]; rfl
theorem eqxE (x : TEvent) : eq_TEvent x x = true := by unfold eq_TEvent; simp
theorem sameLE (p : List TEvent) : ∀ (l : List TEvent) (i : Nat), p.drop i = l → F_ref05_Events_L1 p l i = some (.go ()) := by
  intro l
  induction l with
  | nil => intro i _; rfl
  | cons z l ih =>
    intro i h
    have h0 : p[i]? = some z := by
      have : (p.drop i)[0]? = some z := by rw [h]; rfl
      rw [List.getElem?_drop] at this; exact this
    have h1 : p.drop (i + 1) = l := by rw [← List.drop_drop, h]; rfl
    rw [F_ref05_Events_L1, getI_nat, h0]
    simp only [Option.bind_some, eqxE, Bool.not_true, Bool.false_eq_true, if_false]
    exact ih (i + 1) h1
theorem sameE (p : List TEvent) : F_ref05_Events p p = some true := by
  unfold F_ref05_Events
  rw [if_neg (by simp), sameLE p p 0 rfl]; rfl

theorem keepK_eq (x : TKV) (r : TRange) : F_event_Restrict_1 x r = some (!inR r x.Key) := by unfold F_event_Restrict_1; rw [keyIn_eq]; rfl
theorem idxK (r : TRange) : ∀ (l : List TKV) (i : Nat), ((∀ x ∈ l, inR r x.Key = true) ∧ F_slices_IndexFunc_49_event_Restrict_1_L1 r l i = some (.go ())) ∨
    ∃ A x B, l = A ++ x :: B ∧ inR r x.Key = false ∧ (∀ y ∈ A, inR r y.Key = true) ∧ F_slices_IndexFunc_49_event_Restrict_1_L1 r l i = some (.out ((i + A.length : Nat) : Int)) := by
  intro l
  induction l with
  | nil => intro i; exact .inl ⟨fun x h => absurd h List.not_mem_nil, rfl⟩
  | cons z l ih =>
    intro i
    rw [F_slices_IndexFunc_49_event_Restrict_1_L1, keepK_eq]
    simp only [Option.bind_some]
    cases h : inR r z.Key with
    | false => exact .inr ⟨[], z, l, rfl, h, fun y hy => absurd hy List.not_mem_nil, by simp⟩
    | true =>
      simp only [Bool.not_true, Bool.false_eq_true, if_false]
      rcases ih (i + 1) with ⟨h1, h2⟩ | ⟨A, x, B, h1, h2, h3, h4⟩
      · refine .inl ⟨fun x hx => ?_, h2⟩
        rcases List.mem_cons.mp hx with e | hx
        · subst e; exact h
        · exact h1 x hx
      · refine .inr ⟨z :: A, x, B, by rw [h1]; rfl, h2, fun y hy => ?_, ?_⟩
        · rcases List.mem_cons.mp hy with e | hy
          · subst e; exact h
          · exact h3 y hy
        · rw [h4, List.length_cons]
          congr 3; omega
theorem dfLK (r : TRange) (orig : List TKV) (hn : orig.length < 4611686018427387904) : ∀ (f i j : Nat) (arr : List TKV), i < j → j ≤ orig.length → arr.length = orig.length →
    arr.take i = (orig.take j).filter (fun x => inR r x.Key) → arr.drop j = orig.drop j → orig.length - j < f →
    ∃ arr' i', F_slices_DeleteFunc_40_event_Restrict_1_L1 r f (i : Int) (j : Int) arr = some (arr', ((i' : Nat) : Int)) ∧ arr'.length = orig.length ∧ i' ≤ orig.length ∧ arr'.take i' = orig.filter (fun x => inR r x.Key) := by
  intro f
  induction f with
  | zero => intro i j arr _ _ _ _ _ h; omega
  | succ f ih =>
    intro i j arr h1 h2 h3 h4 h5 h6
    rw [F_slices_DeleteFunc_40_event_Restrict_1_L1]
    rcases Nat.lt_or_ge j orig.length with q | q
    · have hg : arr[j]? = some orig[j] := by
        have e : (arr.drop j)[0]? = (orig.drop j)[0]? := by rw [h5]
        rw [List.getElem?_drop, List.getElem?_drop, Nat.add_zero, List.getElem?_eq_getElem q] at e
        exact e
      have hd : ∀ a : List TKV, a.drop j = orig.drop j → a.drop (j + 1) = orig.drop (j + 1) := fun a e => by rw [← List.drop_drop, e, List.drop_drop]
      rw [if_pos (by simp [h3]; omega), getI_nat, hg]
      simp only [Option.bind_some, keepK_eq]
      have hw : IntKind.i64.wrap ((j : Int) + 1) = ((j + 1 : Nat) : Int) := by rw [wrap_id (by omega) (by omega)]; omega
      have ht : (orig.take (j + 1)).filter (fun x => inR r x.Key) = (orig.take j).filter (fun x => inR r x.Key) ++ (if inR r orig[j].Key = true then [orig[j]] else []) := by
        rw [List.take_succ_eq_append_getElem q, List.filter_append, List.filter_cons, List.filter_nil]
      cases hc : inR r orig[j].Key with
      | true =>
        have hi : i < arr.length := by omega
        simp only [Bool.not_true, Bool.not_false, if_true]
        rw [getI_nat, List.getElem?_eq_getElem hi]
        simp only [Option.bind_some]
        rw [hw, show IntKind.i64.wrap ((i : Int) + 1) = ((i + 1 : Nat) : Int) from by rw [wrap_id (by omega) (by omega)]; omega]
        have hset : setI arr (i : Int) orig[j] = arr.set i orig[j] := by unfold setI; rw [Int.toNat_natCast]
        rw [hset]
        refine ih (i + 1) (j + 1) (arr.set i orig[j]) (by omega) q (by rw [List.length_set]; exact h3) ?_ ?_ (by omega)
        · rw [ht, if_pos hc, ← h4]
          rw [List.take_succ_eq_append_getElem (by rw [List.length_set]; exact hi), List.getElem_set_self, List.take_set_of_le (Nat.le_refl _)]
        · rw [List.drop_set_of_lt (by omega)]; exact hd arr h5
      | false =>
        simp only [Bool.not_false, Bool.not_true, Bool.false_eq_true, if_false, Option.bind_some]
        rw [hw]
        exact ih i (j + 1) arr (by omega) q h3 (by rw [ht, hc]; simpa using h4) (hd arr h5) (by omega)
    · rw [if_neg (by simp [h3]; omega)]
      refine ⟨arr, i, rfl, h3, by omega, ?_⟩
      rw [h4, List.take_of_length_le (by omega)]
theorem dfK {n : Nat} (r : TRange) (l : List TKV) (hl : l.length ≤ 1000000) (hn : l.length < n) : F_slices_DeleteFunc_40_event_Restrict_1 n l r = some (l.filter (fun x => inR r x.Key)) := by
  unfold F_slices_DeleteFunc_40_event_Restrict_1 F_slices_IndexFunc_49_event_Restrict_1
  rcases idxK r l 0 with ⟨h1, h2⟩ | ⟨A, x, B, h1, h2, h3, h4⟩
  · rw [h2]
    simp only [Option.bind_some, lpK]
    rw [if_pos (by simp), List.filter_eq_self.mpr h1]
  · rw [h4]
    simp only [Option.bind_some, lpK, Nat.zero_add]
    rw [if_neg (by simp)]
    have hlen : l.length = A.length + (B.length + 1) := by rw [h1, List.length_append, List.length_cons]
    rw [show IntKind.i64.wrap (((A.length : Nat) : Int) + 1) = ((A.length + 1 : Nat) : Int) from by rw [wrap_id (by omega) (by omega)]; omega]
    obtain ⟨arr', i', e1, e2, e3, e4⟩ := dfLK r l (by omega) n A.length (A.length + 1) l (by omega) (by omega) rfl (by
      rw [h1, List.take_left, show A.length + 1 = A.length + (1 : Nat) from rfl, List.take_append, List.take_of_length_le (by omega), List.filter_append, List.filter_eq_self.mpr h3]
      simp [h2]) rfl (by omega)
    rw [e1]
    simp only [Option.bind_some]
    have hc : clrL (⟨ByteArray.empty, ByteArray.empty, 0⟩ : TKV) arr' (i' : Int) = some (arr'.take i' ++ List.replicate (arr'.length - i') (⟨ByteArray.empty, ByteArray.empty, 0⟩ : TKV)) := by
      unfold clrL
      rw [if_pos ⟨by omega, by omega⟩, Int.toNat_natCast]
    rw [hc]
    simp only [Option.bind_some]
    have hs : subL0 (arr'.take i' ++ List.replicate (arr'.length - i') (⟨ByteArray.empty, ByteArray.empty, 0⟩ : TKV)) 0 (i' : Int) = some (arr'.take i') := by
      unfold subL0
      have hti : (arr'.take i').length = i' := by rw [List.length_take]; omega
      rw [if_pos ⟨by omega, by omega, by rw [List.length_append, hti, List.length_replicate]; omega⟩]
      simp only [Int.toNat_zero, List.drop_zero, Int.toNat_natCast, Nat.sub_zero]
      rw [List.take_append_of_le_length (by omega), List.take_of_length_le (by omega)]
    rw [hs]
    simp only [Option.bind_some]
    rw [e4]
theorem clK (l : List TKV) (hl : l.length ≤ 1000000) : cloneL 40 l = some l := by
  unfold cloneL
  rw [appL_ok (by simp; omega) (by omega) (by omega)]; rfl
theorem filK {n : Nat} (r : TRange) (l : List TKV) (hl : l.length ≤ 1000000) (hn : l.length < n) : F_event_Restrict n l r = some (l.filter (fun x => inR r x.Key)) := by
  unfold F_event_Restrict
  rw [clK l hl]
  simp only [Option.bind_some]
  rw [dfK r l hl hn]; rfl
theorem rfLK (r : TRange) : ∀ (l : List TKV) (i : Nat) (out : List TKV), out.length + l.length ≤ 1000000 → F_ref05_Restrict_L1 r l i out = some (out ++ l.filter (fun x => inR r x.Key)) := by
  intro l
  induction l with
  | nil => intro i out _; simp [F_ref05_Restrict_L1]
  | cons z l ih =>
    intro i out h
    rw [List.length_cons] at h
    rw [F_ref05_Restrict_L1, refIn_eq, List.filter_cons]
    simp only [Option.bind_some]
    cases inR r z.Key with
    | true =>
      simp only [if_true]
      rw [appL_ok (by simp; omega) (by omega) (by omega)]
      simp only [Option.bind_some]
      rw [ih _ _ (by simp; omega)]; simp
    | false =>
      simp only [Bool.false_eq_true, if_false, Option.bind_some]
      exact ih _ _ (by omega)
theorem rfilK (r : TRange) (l : List TKV) (hl : l.length ≤ 1000000) : F_ref05_Restrict l r = some (l.filter (fun x => inR r x.Key)) := by
  unfold F_ref05_Restrict
  rw [rfLK r l 0 [] (by simp; omega)]; rfl
theorem eqxK (x : TKV) : eq_TKV x x = true := by unfold eq_TKV; simp
theorem sameLK (p : List TKV) : ∀ (l : List TKV) (i : Nat), p.drop i = l → F_ref05_KVs_L1 p l i = some (.go ()) := by
  intro l
  induction l with
  | nil => intro i _; rfl
  | cons z l ih =>
    intro i h
    have h0 : p[i]? = some z := by
      have : (p.drop i)[0]? = some z := by rw [h]; rfl
      rw [List.getElem?_drop] at this; exact this
    have h1 : p.drop (i + 1) = l := by rw [← List.drop_drop, h]; rfl
    rw [F_ref05_KVs_L1, getI_nat, h0]
    simp only [Option.bind_some, eqxK, Bool.not_true, Bool.false_eq_true, if_false]
    exact ih (i + 1) h1
theorem sameK (p : List TKV) : F_ref05_KVs p p = some true := by
  unfold F_ref05_KVs
  rw [if_neg (by simp), sameLK p p 0 rfl]; rfl
end Go.Proofs.Ytcjcbcmapjcfnaa.V
