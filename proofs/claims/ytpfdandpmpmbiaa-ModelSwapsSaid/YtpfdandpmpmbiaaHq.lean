/- A map at all its revisions, plainly.
   No condition: these are laws of plain functions. -/
import Derived.Test.YtpfdandpmpmbiaaFo
namespace Go.Proofs.Ytpfdandpmpmbiaa.V
open Go
set_option linter.unusedVariables false
set_option linter.unusedSimpArgs false

/-! ### Maps as lists -/
section
variable {K V : Type} [DecidableEq K]
theorem mfind_snd (k : K) : ∀ (m : List (K × V)) (i j : Nat), (mfind m k i).map Prod.snd = (mfind m k j).map Prod.snd
  | [], _, _ => rfl
  | e :: r, i, j => by
    unfold mfind
    split
    · rfl
    · exact mfind_snd k r _ _
theorem mfind_succ (k : K) : ∀ (m : List (K × V)) (i : Nat), mfind m k (i + 1) = (mfind m k i).map (fun p => (p.1 + 1, p.2))
  | [], _ => rfl
  | e :: r, i => by
    unfold mfind
    split
    · rfl
    · exact mfind_succ k r _
theorem mget_nil (k : K) : mget ([] : List (K × V)) k = none := rfl
theorem mget_cons (e : K × V) (r : List (K × V)) (k : K) : mget (e :: r) k = if k = e.1 then some e.2 else mget r k := by
  unfold mget
  rw [show mfind (e :: r) k 0 = (if k = e.1 then some (0, e.2) else mfind r k (0 + 1)) from rfl]
  split
  · rfl
  · exact mfind_snd k r _ _
theorem mset_nil (k : K) (v : V) : mset ([] : List (K × V)) k v = [(k, v)] := rfl
theorem mset_cons (e : K × V) (r : List (K × V)) (k : K) (v : V) : mset (e :: r) k v = if k = e.1 then (k, v) :: r else e :: mset r k v := by
  unfold mset
  rw [show mfind (e :: r) k 0 = (if k = e.1 then some (0, e.2) else mfind r k (0 + 1)) from rfl]
  by_cases h : k = e.1
  · rw [if_pos h, if_pos h]; rfl
  · rw [if_neg h, if_neg h, mfind_succ]
    cases mfind r k 0 <;> rfl
theorem mget_mset (k k' : K) (v : V) : ∀ m : List (K × V), mget (mset m k v) k' = if k' = k then some v else mget m k'
  | [] => by rw [mset_nil, mget_cons]
  | e :: r => by
    rw [mset_cons]
    by_cases h : k = e.1
    · rw [if_pos h, mget_cons, mget_cons]
      by_cases h2 : k' = k
      · rw [if_pos h2, if_pos h2]
      · rw [if_neg h2, if_neg h2, if_neg (by rw [← h]; exact h2)]
    · rw [if_neg h, mget_cons, mget_cons, mget_mset k k' v r]
      by_cases h2 : k' = e.1
      · rw [if_pos h2, if_pos h2, if_neg (by rw [h2]; exact fun e => h e.symm)]
      · rw [if_neg h2, if_neg h2]
theorem mset_keys (k : K) (v : V) (k' : K) : ∀ m : List (K × V), k' ∈ (mset m k v).map (·.1) ↔ k' = k ∨ k' ∈ m.map (·.1)
  | [] => by rw [mset_nil]; simp
  | e :: r => by
    rw [mset_cons]
    by_cases h : k = e.1
    · rw [if_pos h]; simp [← h]
    · rw [if_neg h, List.map_cons, List.map_cons, List.mem_cons, List.mem_cons, mset_keys k v k' r]
      exact ⟨fun q => by rcases q with q | q | q; exact .inr (.inl q); exact .inl q; exact .inr (.inr q), fun q => by rcases q with q | q | q; exact .inr (.inl q); exact .inl q; exact .inr (.inr q)⟩
theorem mset_nd (k : K) (v : V) : ∀ m : List (K × V), (m.map (·.1)).Nodup → ((mset m k v).map (·.1)).Nodup
  | [], _ => by rw [mset_nil]; simp
  | e :: r, h => by
    rw [List.map_cons, List.nodup_cons] at h
    rw [mset_cons]
    by_cases q : k = e.1
    · rw [if_pos q, List.map_cons, List.nodup_cons]; exact ⟨by rw [q]; exact h.1, h.2⟩
    · rw [if_neg q, List.map_cons, List.nodup_cons, mset_keys]
      exact ⟨fun w => w.elim (fun e => q e.symm) h.1, mset_nd k v r h.2⟩
theorem mset_le (k : K) (v : V) : ∀ m : List (K × V), (mset m k v).length ≤ m.length + 1
  | [] => by rw [mset_nil]; simp
  | e :: r => by
    rw [mset_cons]
    have := mset_le k v r
    split <;> simp <;> omega
theorem mget_mem {m : List (K × V)} {k : K} {v : V} (h : mget m k = some v) : k ∈ m.map (·.1) := by
  induction m with
  | nil => cases h
  | cons e r ih =>
    rw [mget_cons] at h
    split at h
    · rename_i q; rw [q]; simp
    · rw [List.map_cons]; exact List.mem_cons_of_mem _ (ih h)
end

/-! ### Events of a key -/
def onK (k : ByteArray) (l : List TEvent) : List TEvent := l.filter (fun e => eqB e.Key k)
theorem onK_app (k : ByteArray) (a b : List TEvent) : onK k (a ++ b) = onK k a ++ onK k b := List.filter_append _ _
theorem onK_mem {k : ByteArray} {l : List TEvent} {e : TEvent} : e ∈ onK k l ↔ e ∈ l ∧ e.Key = k := by unfold onK; rw [List.mem_filter, eqB_iff]
theorem onK_le (k : ByteArray) (l : List TEvent) : (onK k l).length ≤ l.length := List.length_filter_le _ _
theorem atT_mem {rev : Int} : ∀ {l : List TEvent} {e : TEvent}, atT l rev = some e → e ∈ l ∧ e.Rev ≤ rev
  | [], _, h => by cases h
  | x :: l, e, h => by
    unfold atT at h
    split at h
    · rename_i y q; cases h; obtain ⟨a, b⟩ := atT_mem q; exact ⟨List.mem_cons_of_mem _ a, b⟩
    · split at h
      · cases h; exact ⟨List.mem_cons_self, by assumption⟩
      · cases h
theorem atT_none {rev : Int} : ∀ {l : List TEvent}, (∀ e ∈ l, rev < e.Rev) → atT l rev = none
  | [], _ => rfl
  | x :: l, h => by
    unfold atT
    rw [atT_none (fun e he => h e (List.mem_cons_of_mem _ he))]
    dsimp only
    rw [if_neg (by have := h x List.mem_cons_self; omega)]
theorem atT_apd {rev : Int} : ∀ (a b : List TEvent), atT (a ++ b) rev = match atT b rev with | some x => some x | none => atT a rev
  | [], b => by cases h : atT b rev <;> simp [h, atT]
  | x :: a, b => by
    rw [List.cons_append, atT, atT_apd a b]
    cases h : atT b rev with
    | some y => rfl
    | none => rfl
theorem atT_last {rev : Int} : ∀ (l : List TEvent), (∀ e ∈ l, e.Rev ≤ rev) → atT l rev = l.getLast?
  | [], _ => rfl
  | x :: l, h => by
    unfold atT
    rw [atT_last l (fun e he => h e (List.mem_cons_of_mem _ he)), if_pos (h x List.mem_cons_self)]
    cases l with
    | nil => rfl
    | cons y l => rw [List.getLast?_cons_cons]; cases q : (y :: l).getLast? with
      | none => simp at q
      | some z => rfl

/-! ### The state -/
def hev (h : Ohist_Hist) : List TEvent := h.rows.flatten
structure HI (h : Ohist_Hist) : Prop where
  rev : h.bounds_rev = (h.rows.length : Int)
  hor0 : 0 ≤ h.bounds_hor
  hor1 : h.bounds_hor ≤ h.bounds_rev
  nd : (h.keys.map (·.1)).Nodup
  ks : ∀ k ∈ h.keys.map (·.1), k.size ≤ maxLen
  lg : ∀ k, (mget h.keys k).getD [] = onK k (hev h)
  kl : h.keys.length ≤ (hev h).length
  up : ∀ e ∈ hev h, e.Rev ≤ h.bounds_rev
  ne : h.rows.length ≤ (hev h).length
theorem eta_h (h : Ohist_Hist) : (⟨h.bounds_rev, h.bounds_hor, h.keys, h.rows⟩ : Ohist_Hist) = h := rfl
theorem hi_new : HI ⟨0, 0, [], []⟩ := ⟨rfl, Int.le_refl _, Int.le_refl _, List.nodup_nil, fun k h => absurd h List.not_mem_nil, fun k => rfl, Nat.le_refl _, fun e h => absurd h List.not_mem_nil, Nat.le_refl _⟩

/-! ### What there is at a revision -/
theorem len_toB (k : ByteArray) : k.toList.length = k.size := by rw [ByteArray.toList_eq]; rfl
theorem toB_toList (l : List UInt8) : (toB l).toList = l := by unfold toB; rw [ByteArray.toList_eq]
theorem keysB_ok {ks : List ByteArray} (nd : ks.Nodup) (hl : ks.length ≤ 1000000) (hs : ∀ k ∈ ks, k.size ≤ maxLen) :
    ∃ ys, keysB ks = some ys ∧ ys.Pairwise (fun a b => lessB a b = true) ∧ (∀ k, k ∈ ys ↔ k ∈ ks) ∧ ys.length = ks.length := by
  have nd2 : (ks.map (·.toList)).Nodup := by
    unfold List.Nodup at nd ⊢
    rw [List.pairwise_map]
    exact nd.imp (fun {a b} q e => q (toList_inj e))
  refine ⟨(sortU (ks.map (·.toList))).map toB, ?_, ?_, fun k => ?_, ?_⟩
  · unfold keysB
    rw [if_pos]
    rw [Bool.and_eq_true, Bool.and_eq_true, nodupB_iff, List.all_eq_true]
    refine ⟨⟨nd2, Nat.ble_eq_true_of_le (by rw [List.length_map]; exact hl)⟩, fun x hx => ?_⟩
    obtain ⟨k, hk, rfl⟩ := List.mem_map.mp hx
    exact Nat.ble_eq_true_of_le (by rw [len_toB]; exact hs k hk)
  · have h1 := strictU (((sortU_perm _).nodup_iff).mpr nd2) (sortU_le _)
    rw [List.pairwise_map]
    refine h1.imp (fun {a b} q => ?_)
    unfold lessB; rw [toB_toList, toB_toList]; exact q
  · rw [List.mem_map]
    constructor
    · rintro ⟨x, hx, rfl⟩
      rw [(sortU_perm _).mem_iff, List.mem_map] at hx
      obtain ⟨k, hk, rfl⟩ := hx
      have : toB k.toList = k := toList_arr k
      rw [this]; exact hk
    · intro hk
      exact ⟨k.toList, (sortU_perm _).mem_iff.mpr (List.mem_map.mpr ⟨k, hk, rfl⟩), toList_arr k⟩
  · rw [List.length_map, (sortU_perm _).length_eq, List.length_map]
def atE (E : List TEvent) (rev : Int) (r : TRange) (k : ByteArray) : Option TEvent := match atT (onK k E) rev with
  | some e => if (bif (!e.Del) then inR r k else false) = true then some e else none
  | none => none
theorem hat_eq {h : Ohist_Hist} (I : HI h) (hl : (hev h).length ≤ 1000000) (k : ByteArray) (rev : Int) : hatL h.keys k rev = some ((atT (onK k (hev h)) rev).getD ⟨0, ByteArray.empty, ByteArray.empty, false⟩, match atT (onK k (hev h)) rev with | some x => !x.Del | none => false) := by
  unfold hatL
  rw [I.lg]
  rw [if_pos (Nat.ble_eq_true_of_le (Nat.le_trans (onK_le _ _) hl))]
  rfl
theorem atL1 {h : Ohist_Hist} (I : HI h) (hl : (hev h).length ≤ 1000000) (rev : Int) (r : TRange) (b : Bool) : ∀ (ks : List ByteArray) (i : Nat) (acc : List TEvent), acc.length + ks.length ≤ 1000000 →
    F_hist_Hist_At_L1 rev r (b, h) ks i acc = some (acc ++ ks.filterMap (atE (hev h) rev r))
  | [], i, acc, _ => by simp [F_hist_Hist_At_L1]
  | k :: ks, i, acc, hc => by
    rw [List.length_cons] at hc
    rw [F_hist_Hist_At_L1, hat_eq I hl, List.filterMap_cons]
    simp only [Option.bind_some, keyIn_eq]
    have ih := fun a => atL1 I hl rev r b ks (i + 1) a
    cases q : atT (onK k (hev h)) rev with
    | none =>
      have ha : atE (hev h) rev r k = none := by unfold atE; rw [q]
      rw [ha]
      simp only [Bool.false_eq_true, if_false, Option.bind_some]
      exact ih acc (by omega)
    | some e =>
      have ha : atE (hev h) rev r k = (if (bif (!e.Del) then inR r k else false) = true then some e else none) := by unfold atE; rw [q]
      rw [ha]
      simp only [Option.getD_some]
      rcases Bool.eq_false_or_eq_true e.Del with hd | hd
      · simp only [hd, Bool.not_true, Bool.false_eq_true, if_false, Option.bind_some, cond_false]
        exact ih acc (by omega)
      · rcases Bool.eq_false_or_eq_true (inR r k) with hr | hr
        case inr =>
          simp only [hd, hr, Bool.not_false, if_true, Option.bind_some, Bool.false_eq_true, if_false, cond_true]
          exact ih acc (by omega)
        case inl =>
          simp only [hd, hr, Bool.not_false, if_true, Option.bind_some, cond_true]
          rw [appL_ok (by simp; omega) (by omega) (by omega)]
          simp only [Option.bind_some]
          rw [ih _ (by simp; omega)]; simp
/-- What there is at a revision. -/
structure IsAt (E : List TEvent) (rev : Int) (r : TRange) (m : List TKV) : Prop where
  so : So m
  mem : ∀ t, t ∈ m ↔ ∃ e, atT (onK t.Key E) rev = some e ∧ e.Del = false ∧ t = kv e ∧ inR r t.Key = true
  le : m.length ≤ E.length
theorem IsAt.uniq {E E' : List TEvent} {rev rev' : Int} {r : TRange} {m m' : List TKV} (h : IsAt E rev r m) (h' : IsAt E' rev' r m') (q : ∀ k, atT (onK k E) rev = atT (onK k E') rev') : m = m' :=
  so_ext h.so h'.so (fun t => by rw [h.mem, h'.mem, q])
theorem at_mid {n : Nat} {h : Ohist_Hist} (I : HI h) (hl : (hev h).length ≤ 1000) (hn : 1000 < n) {rev : Int} (r : TRange) (h1 : h.bounds_hor ≤ rev) (h2 : rev ≤ h.bounds_rev) :
    ∃ m, F_hist_Hist_At n h rev r = some (m, 0, h) ∧ IsAt (hev h) rev r m := by
  obtain ⟨ys, k1, k2, k3, k4⟩ := keysB_ok I.nd (by rw [List.length_map]; have := I.kl; omega) I.ks
  have hkl := I.kl
  rw [List.length_map] at k4
  have hL := atL1 I (by omega) rev r false ys 0 [] (by simp; omega)
  rw [List.nil_append] at hL
  have hin : ∀ e, e ∈ ys.filterMap (atE (hev h) rev r) ↔ (atT (onK e.Key (hev h)) rev = some e ∧ e.Del = false ∧ inR r e.Key = true) := by
    intro e
    rw [List.mem_filterMap]
    constructor
    · rintro ⟨k, _, hk⟩
      unfold atE at hk
      split at hk
      · rename_i x q
        split at hk
        · rename_i w
          cases hk
          have := (onK_mem.mp (atT_mem q).1).2
          subst this
          cases hd : e.Del with
          | true => rw [hd] at w; simp at w
          | false => rw [hd] at w; exact ⟨q, rfl, by simpa using w⟩
        · cases hk
      · cases hk
    · rintro ⟨a, b, c⟩
      refine ⟨e.Key, ?_, ?_⟩
      · rw [k3]
        have h3 := (atT_mem a).1
        rw [← I.lg] at h3
        cases q : mget h.keys e.Key with
        | none => rw [q] at h3; cases h3
        | some l => exact mget_mem q
      · unfold atE; rw [a]; dsimp only; rw [b, c]; rfl
  have hso : SoE (ys.filterMap (atE (hev h) rev r)) := by
    unfold SoE
    rw [List.pairwise_filterMap]
    refine k2.imp (fun {a b} q x hx y hy => ?_)
    have key : ∀ {k e}, atE (hev h) rev r k = some e → e.Key = k := by
      intro k e he
      unfold atE at he
      split at he
      · rename_i x w
        split at he
        · cases he; exact (onK_mem.mp (atT_mem w).1).2
        · cases he
      · cases he
    rw [key hx, key hy]; exact q
  have hlen : (ys.filterMap (atE (hev h) rev r)).length ≤ (hev h).length := by
    have := List.length_filterMap_le (atE (hev h) rev r) ys; omega
  refine ⟨(ys.filterMap (atE (hev h) rev r)).foldl stepM [], ?_, ⟨foldM_so _ _ List.Pairwise.nil, fun t => ?_, ?_⟩⟩
  · unfold F_hist_Hist_At F_hist_bounds_old F_hist_bounds_late
    simp only [Option.bind_some, eta_h]
    have g1 : decide (rev < h.bounds_hor) = false := decide_eq_false (by omega)
    have g2 : decide (rev > h.bounds_rev) = false := decide_eq_false (by omega)
    simp only [g1, g2, Bool.false_eq_true, if_false]
    rw [k1]
    simp only [Option.bind_some]
    rw [hL]
    simp only [Option.bind_some]
    rw [fold_eq _ List.Pairwise.nil (by simp; omega) hn]; rfl
  · rw [foldM_mem]
    constructor
    · intro q
      split at q
      · cases q
      · rename_i e w
        obtain ⟨a, b⟩ := (lastFor_so hso _ _).mp w
        obtain ⟨c1, c2, c3⟩ := (hin e).mp a
        exact ⟨e, by rw [← b]; exact c1, q.1, q.2, by rw [← b]; exact c3⟩
    · rintro ⟨e, a, b, c, d⟩
      have hk : e.Key = t.Key := (onK_mem.mp (atT_mem a).1).2
      have : lastFor t.Key (ys.filterMap (atE (hev h) rev r)) = some e := (lastFor_so hso _ _).mpr ⟨(hin e).mpr ⟨by rw [hk]; exact a, b, by rw [hk]; exact d⟩, hk⟩
      rw [this]; exact ⟨b, c⟩
  · have := foldM_len (ys.filterMap (atE (hev h) rev r)) [] List.Pairwise.nil
    rw [List.length_nil, Nat.zero_add] at this; omega
theorem at_old {n : Nat} {h : Ohist_Hist} {rev : Int} (r : TRange) (h1 : rev < h.bounds_hor) : F_hist_Hist_At n h rev r = some ([], 5, h) := by
  unfold F_hist_Hist_At F_hist_bounds_old
  simp only [Option.bind_some, decide_eq_true h1, if_true, eta_h]
theorem at_late {n : Nat} {h : Ohist_Hist} {rev : Int} (r : TRange) (h1 : h.bounds_hor ≤ rev) (h2 : h.bounds_rev < rev) : F_hist_Hist_At n h rev r = some ([], 6, h) := by
  unfold F_hist_Hist_At F_hist_bounds_old F_hist_bounds_late
  have g1 : decide (rev < h.bounds_hor) = false := decide_eq_false (by omega)
  simp only [Option.bind_some, g1, decide_eq_true h2, if_true, eta_h, Bool.false_eq_true, if_false]

/-! ### What is done -/
def thereK (h : Ohist_Hist) (k : ByteArray) : Bool := match atT (onK k (hev h)) h.bounds_rev with | some x => !x.Del | none => false
def effE (h : Ohist_Hist) (o : TOp) (r : List TOp) : List TEvent :=
  if (bif r.any (fun p => eqB p.Key o.Key) then true else (bif o.Del then (!thereK h o.Key) else false)) = true then [] else [⟨h.bounds_rev + 1, o.Key, if o.Del = true then ByteArray.empty else o.Val, o.Del⟩]
def effL (h : Ohist_Hist) : List TOp → List TEvent
  | [] => []
  | o :: r => effE h o r ++ effL h r
theorem effE_rev {h : Ohist_Hist} {o : TOp} {r : List TOp} {e : TEvent} (he : e ∈ effE h o r) : e.Rev = h.bounds_rev + 1 ∧ e.Key = o.Key := by
  unfold effE at he
  split at he
  · cases he
  · rw [List.mem_singleton] at he; subst he; exact ⟨rfl, rfl⟩
theorem effL_mem {h : Ohist_Hist} : ∀ {l : List TOp} {e : TEvent}, e ∈ effL h l → e.Rev = h.bounds_rev + 1 ∧ ∃ o ∈ l, e.Key = o.Key
  | [], e, he => by cases he
  | o :: r, e, he => by
    rw [effL, List.mem_append] at he
    rcases he with q | q
    · exact ⟨(effE_rev q).1, o, List.mem_cons_self, (effE_rev q).2⟩
    · obtain ⟨a, p, b, c⟩ := effL_mem q
      exact ⟨a, p, List.mem_cons_of_mem _ b, c⟩
theorem effL_le {h : Ohist_Hist} : ∀ (l : List TOp), (effL h l).length ≤ l.length
  | [] => Nat.le_refl _
  | o :: r => by
    have := effL_le (h := h) r
    have h2 : (effE h o r).length ≤ 1 := by unfold effE; split <;> simp
    rw [effL, List.length_append, List.length_cons]; omega
theorem anyL (o : TOp) : ∀ (l : List TOp) (i : Nat), (l.any (fun p => eqB p.Key o.Key) = false ∧ F_slices_IndexFunc_hist_Hist_Apply_1_L1 o l i = some (.go ())) ∨ (l.any (fun p => eqB p.Key o.Key) = true ∧ ∃ j : Nat, F_slices_IndexFunc_hist_Hist_Apply_1_L1 o l i = some (.out (j : Int)))
  | [], i => .inl ⟨rfl, rfl⟩
  | z :: l, i => by
    rw [F_slices_IndexFunc_hist_Hist_Apply_1_L1]
    unfold F_hist_Hist_Apply_1
    simp only [Option.bind_some, List.any_cons]
    cases q : eqB z.Key o.Key with
    | true => exact .inr ⟨rfl, i, rfl⟩
    | false =>
      simp only [Bool.false_eq_true, if_false, Bool.false_or]
      exact anyL o l (i + 1)
theorem any_eq (o : TOp) (l : List TOp) : F_slices_ContainsFunc_hist_Hist_Apply_1 l o = some (l.any (fun p => eqB p.Key o.Key)) := by
  unfold F_slices_ContainsFunc_hist_Hist_Apply_1 F_slices_IndexFunc_hist_Hist_Apply_1
  rcases anyL o l 0 with ⟨a, b⟩ | ⟨a, j, b⟩
  · rw [a, b]; rfl
  · rw [a, b]
    simp only [Option.bind_some, lpK]
    rw [decide_eq_true (by omega)]
theorem subTail {ops : List TOp} {i : Nat} (h : i < ops.length) (hl : ops.length ≤ 1000000) : subL ops (IntKind.i64.wrap ((i : Int) + 1)) (ops.length : Int) = some (ops.drop (i + 1)) := by
  rw [wrap_id (by omega) (by omega)]
  unfold subL
  rw [if_pos ⟨by omega, by omega, by omega, Int.le_refl _⟩, show ((i : Int) + 1).toNat = i + 1 by omega, Int.toNat_natCast, List.take_of_length_le (by rw [List.length_drop]; omega)]
theorem effL_eq {h : Ohist_Hist} (I : HI h) (hl : (hev h).length ≤ 1000000) (ops : List TOp) (ho : ops.length ≤ 1000000) : ∀ (r : List TOp) (i : Nat) (acc : List TEvent), ops.drop i = r → acc.length + r.length ≤ 1000000 →
    F_hist_Hist_Apply_L2 h ops r i acc = some (acc ++ effL h r)
  | [], i, acc, _, _ => by simp [F_hist_Hist_Apply_L2, effL]
  | o :: r, i, acc, hd, hc => by
    rw [List.length_cons] at hc
    have hi : i < ops.length := by
      rcases Nat.lt_or_ge i ops.length with q | q
      · exact q
      · rw [List.drop_of_length_le q] at hd; cases hd
    have hd2 : ops.drop (i + 1) = r := by rw [← List.drop_drop, hd]; rfl
    have hrev : h.bounds_rev = (h.rows.length : Int) := I.rev
    have hne := I.ne
    rw [F_hist_Hist_Apply_L2, hat_eq I hl, subTail hi ho, hd2]
    simp only [Option.bind_some, any_eq]
    rw [effL, effE, show (match atT (onK o.Key (hev h)) h.bounds_rev with | some x => !x.Del | none => false) = thereK h o.Key from rfl]
    have ih := fun a => effL_eq I hl ops ho r (i + 1) a hd2
    rw [wrap_id (n := h.bounds_rev + 1) (by omega) (by omega)]
    by_cases c : (bif r.any (fun p => eqB p.Key o.Key) then true else (bif o.Del then (!thereK h o.Key) else false)) = true
    · rw [if_pos c, if_pos c]
      simp only [Option.bind_some]
      rw [ih acc (by omega), List.nil_append]
    · rw [if_neg c, if_neg c]
      have hs : (if o.Del = true then some ByteArray.empty else some o.Val) = some (if o.Del = true then ByteArray.empty else o.Val) := by split <;> rfl
      rw [hs]
      simp only [Option.bind_some]
      rw [appL_ok (by simp; omega) (by omega) (by omega)]
      simp only [Option.bind_some]
      rw [ih _ (by simp; omega)]; simp
theorem putEv : ∀ (row : List TEvent) (i : Nat) (m : List (ByteArray × List TEvent)) (E : List TEvent), (∀ k, (mget m k).getD [] = onK k E) → (m.map (·.1)).Nodup → (∀ k ∈ m.map (·.1), k.size ≤ maxLen) → (∀ e ∈ row, e.Key.size ≤ maxLen) → m.length ≤ E.length → E.length + row.length ≤ 1000000 →
    ∃ m', F_hist_Hist_Apply_L1 row i m = some m' ∧ (∀ k, (mget m' k).getD [] = onK k (E ++ row)) ∧ (m'.map (·.1)).Nodup ∧ (∀ k ∈ m'.map (·.1), k.size ≤ maxLen) ∧ m'.length ≤ (E ++ row).length
  | [], i, m, E, h1, h2, h3, _, h5, _ => ⟨m, rfl, by rw [List.append_nil]; exact h1, h2, h3, by rw [List.append_nil]; exact h5⟩
  | e :: row, i, m, E, h1, h2, h3, h4, h5, h6 => by
    rw [List.length_cons] at h6
    have hle := onK_le e.Key E
    obtain ⟨m', g1, g2, g3, g4, g5⟩ := putEv row (i + 1) (mset m e.Key (((mget m e.Key).getD []) ++ [e])) (E ++ [e]) (fun k => by
        rw [mget_mset, onK_app]
        by_cases q : k = e.Key
        · rw [if_pos q, q, Option.getD_some, h1]
          have : onK e.Key [e] = [e] := by unfold onK; simp
          rw [this]
        · rw [if_neg q, h1]
          have : onK k [e] = [] := by unfold onK; rw [List.filter_cons, if_neg (by rw [eqB_iff]; exact fun w => q w.symm)]; rfl
          rw [this, List.append_nil]) (mset_nd _ _ _ h2) (fun k hk => by
        rcases (mset_keys _ _ _ _).mp hk with q | q
        · rw [q]; exact h4 e List.mem_cons_self
        · exact h3 k q) (fun x hx => h4 x (List.mem_cons_of_mem _ hx)) (by have := mset_le e.Key (((mget m e.Key).getD []) ++ [e]) m; rw [List.length_append]; simp; omega) (by rw [List.length_append]; simp; omega)
    refine ⟨m', ?_, by rw [show E ++ e :: row = (E ++ [e]) ++ row by simp]; exact g2, g3, g4, by rw [show E ++ e :: row = (E ++ [e]) ++ row by simp]; exact g5⟩
    rw [F_hist_Hist_Apply_L1, appL_ok (by rw [h1]; simp; omega) (by omega) (by omega)]
    exact g1
theorem apply_ok {h : Ohist_Hist} (I : HI h) (ops : List TOp) (hk : ∀ o ∈ ops, o.Key.size ≤ maxLen) (hl : (hev h).length + ops.length ≤ 1000000) :
    ∃ h', F_hist_Hist_Apply h ops = some (effL h ops, h') ∧ HI h' ∧ h'.bounds_hor = h.bounds_hor ∧ hev h' = hev h ++ effL h ops ∧ h'.bounds_rev = (if effL h ops = [] then h.bounds_rev else h.bounds_rev + 1) ∧ (effL h ops = [] → h' = h) := by
  have h1 := effL_eq I (by omega) ops (by omega) ops 0 [] rfl (by simp; omega)
  rw [List.nil_append] at h1
  have hle := effL_le (h := h) ops
  have hne := I.ne
  have hrv := I.rev
  unfold F_hist_Hist_Apply
  rw [h1]
  simp only [Option.bind_some]
  by_cases q : effL h ops = []
  · rw [q]
    refine ⟨h, by simp, I, rfl, by simp, by simp, fun _ => rfl⟩
  · rw [if_neg (by simpa using q)]
    obtain ⟨m', g1, g2, g3, g4, g5⟩ := putEv (effL h ops) 0 h.keys (hev h) I.lg I.nd I.ks (fun e he => by
      obtain ⟨_, o, ho, e2⟩ := effL_mem he
      rw [e2]; exact hk o ho) I.kl (by omega)
    rw [g1]
    simp only [Option.bind_some]
    rw [appL_ok (by simp; omega) (by omega) (by omega)]
    simp only [Option.bind_some]
    have hc : cloneL 48 (effL h ops) = some (effL h ops) := by unfold cloneL; rw [appL_ok (by simp; omega) (by omega) (by omega)]; rfl
    rw [hc, wrap_id (by omega) (by omega)]
    have hE : hev ⟨h.bounds_rev + 1, h.bounds_hor, m', h.rows ++ [effL h ops]⟩ = hev h ++ effL h ops := by unfold hev; simp
    have hpos : 1 ≤ (effL h ops).length := by
      cases w : effL h ops with
      | nil => exact absurd w q
      | cons a b => simp
    refine ⟨⟨h.bounds_rev + 1, h.bounds_hor, m', h.rows ++ [effL h ops]⟩, rfl, ⟨?_, I.hor0, ?_, g3, g4, ?_, ?_, ?_, ?_⟩, rfl, hE, by rw [if_neg q], fun w => absurd w q⟩
    · show h.bounds_rev + 1 = _; rw [List.length_append, hrv]; simp
    · show h.bounds_hor ≤ h.bounds_rev + 1; have := I.hor1; omega
    · rw [hE]; exact g2
    · rw [hE]; exact g5
    · rw [hE]; intro e he
      show e.Rev ≤ h.bounds_rev + 1
      rcases List.mem_append.mp he with w | w
      · have := I.up e w; omega
      · have := (effL_mem w).1; omega
    · rw [hE]; show (h.rows ++ [effL h ops]).length ≤ _; rw [List.length_append, List.length_append]; simp; omega
theorem compact_ok {h : Ohist_Hist} (I : HI h) (rev : Int) :
    (rev < 0 ∧ F_hist_Hist_Compact h rev = some (1, h)) ∨ (0 ≤ rev ∧ h.bounds_rev < rev ∧ F_hist_Hist_Compact h rev = some (6, h)) ∨ (0 ≤ rev ∧ rev ≤ h.bounds_rev ∧ F_hist_Hist_Compact h rev = some (0, ⟨h.bounds_rev, (if rev > h.bounds_hor then rev else h.bounds_hor), h.keys, h.rows⟩) ∧ HI ⟨h.bounds_rev, (if rev > h.bounds_hor then rev else h.bounds_hor), h.keys, h.rows⟩) := by
  unfold F_hist_Hist_Compact F_hist_bounds_late
  by_cases h1 : rev < 0
  · exact .inl ⟨h1, by rw [if_pos (decide_eq_true h1)]⟩
  · rw [if_neg (by simpa using h1)]
    simp only [Option.bind_some, eta_h]
    by_cases h2 : rev > h.bounds_rev
    · exact .inr (.inl ⟨by omega, h2, by rw [if_pos (decide_eq_true h2)]⟩)
    · refine .inr (.inr ⟨by omega, by omega, by rw [if_neg (by simpa using h2)], ?_⟩)
      refine ⟨I.rev, ?_, ?_, I.nd, I.ks, I.lg, I.kl, I.up, I.ne⟩
      · show 0 ≤ (if rev > h.bounds_hor then rev else h.bounds_hor); have := I.hor0; split <;> omega
      · show (if rev > h.bounds_hor then rev else h.bounds_hor) ≤ h.bounds_rev; have := I.hor1; split <;> omega
/-- A later state. -/
structure Later (h h' : Ohist_Hist) (c : Nat) : Prop where
  hor : h.bounds_hor ≤ h'.bounds_hor
  rev : h.bounds_rev ≤ h'.bounds_rev
  ev : ∃ more, hev h' = hev h ++ more ∧ more.length ≤ c ∧ ∀ e ∈ more, h.bounds_rev < e.Rev
theorem Later.refl (h : Ohist_Hist) : Later h h 0 := ⟨Int.le_refl _, Int.le_refl _, [], by simp, Nat.le_refl _, fun e he => by cases he⟩
theorem Later.trans {h h' h2 : Ohist_Hist} {c d : Nat} (a : Later h h' c) (b : Later h' h2 d) : Later h h2 (c + d) := by
  obtain ⟨m, e, f, g⟩ := a.ev
  obtain ⟨m', e', f', g'⟩ := b.ev
  refine ⟨Int.le_trans a.hor b.hor, Int.le_trans a.rev b.rev, m ++ m', by rw [e', e, List.append_assoc], by rw [List.length_append]; omega, fun x hx => ?_⟩
  rcases List.mem_append.mp hx with q | q
  · exact g x q
  · have := g' x q; have := a.rev; omega
theorem Later.mono {h h' : Ohist_Hist} {c d : Nat} (a : Later h h' c) (q : c ≤ d) : Later h h' d := by
  obtain ⟨m, e, f, g⟩ := a.ev
  exact ⟨a.hor, a.rev, m, e, by omega, g⟩
theorem Later.len {h h' : Ohist_Hist} {c : Nat} (a : Later h h' c) : (hev h').length ≤ (hev h).length + c := by
  obtain ⟨m, e, f, g⟩ := a.ev
  rw [e, List.length_append]; omega
theorem Later.at {h h' : Ohist_Hist} {c : Nat} (a : Later h h' c) {rev : Int} (hr : rev ≤ h.bounds_rev) (k : ByteArray) : atT (onK k (hev h')) rev = atT (onK k (hev h)) rev := by
  obtain ⟨m, e, f, g⟩ := a.ev
  rw [e, onK_app, atT_apd, atT_none (fun x hx => by have := g x (onK_mem.mp hx).1; omega)]
theorem apply_later {h : Ohist_Hist} (I : HI h) (ops : List TOp) (hk : ∀ o ∈ ops, o.Key.size ≤ maxLen) (hl : (hev h).length + ops.length ≤ 1000000) :
    ∃ h', F_hist_Hist_Apply h ops = some (effL h ops, h') ∧ HI h' ∧ Later h h' ops.length := by
  obtain ⟨h', a, b, c, d, e, f⟩ := apply_ok I ops hk hl
  refine ⟨h', a, b, ?_, ?_, effL h ops, d, effL_le ops, fun x hx => ?_⟩
  · rw [c]; exact Int.le_refl _
  · rw [e]; split <;> omega
  · have := (effL_mem hx).1; omega
theorem compact_later {h : Ohist_Hist} (I : HI h) (rev : Int) : ∃ b h', F_hist_Hist_Compact h rev = some (b, h') ∧ HI h' ∧ Later h h' 0 := by
  rcases compact_ok I rev with ⟨_, a⟩ | ⟨_, _, a⟩ | ⟨_, _, a, b⟩
  · exact ⟨_, _, a, I, Later.refl h⟩
  · exact ⟨_, _, a, I, Later.refl h⟩
  · exact ⟨_, _, a, b, ⟨by show h.bounds_hor ≤ (if rev > h.bounds_hor then rev else h.bounds_hor); split <;> omega, Int.le_refl _, [], by simp [hev], Nat.le_refl _, fun e he => by cases he⟩⟩
theorem get_eq (m : List TKV) (k : ByteArray) : F_ref06_Get m k = some (match m.find? (fun t => eqB t.Key k) with | some t => (t, true) | none => (⟨ByteArray.empty, ByteArray.empty, 0⟩, false)) := by
  unfold F_ref06_Get
  have : ∀ (l : List TKV) (i : Nat), F_ref06_Get_L1 k l i = some (match l.find? (fun t => eqB t.Key k) with | some t => .out (t, true) | none => .go ()) := by
    intro l
    induction l with
    | nil => intro i; rfl
    | cons z l ih =>
      intro i
      rw [F_ref06_Get_L1, List.find?_cons]
      cases eqB z.Key k with
      | true => rfl
      | false => simp only [Bool.false_eq_true, if_false]; exact ih (i + 1)
  rw [this]
  cases m.find? (fun t => eqB t.Key k) <;> rfl
end Go.Proofs.Ytpfdandpmpmbiaa.V
