/- What an index walks over; and what the document says of it.
   No condition: these are laws of plain functions. -/
import Derived.Test.YtndhbaidibioeaaGreatNd
namespace Go.Proofs.YtndhbaidibioeaaGreat.V
open Go
set_option linter.unusedVariables false
set_option linter.unusedSimpArgs false
set_option maxRecDepth 100000

abbrev z0 : ByteArray := ⟨#[0]⟩
/-- The keys from one on. -/
def fromK (ks : List Tbst_node) (f : ByteArray) : List Tbst_node := ks.filter (fun y => !lessB y.key f)
def SoN (l : List Tbst_node) : Prop := l.Pairwise (fun a b => lessB a.key b.key = true)
theorem soN_ext {a b : List Tbst_node} (ha : SoN a) (hb : SoN b) (h : ∀ t, t ∈ a ↔ t ∈ b) : a = b :=
  sorted_ext (R := fun x y : Tbst_node => lessB x.key y.key = true) (fun x q => by rw [less_irrefl] at q; cases q) (fun x y q r => by rw [less_asymm q] at r; cases r) ha hb h
theorem from_cons {ks : List Tbst_node} (hs : SoN ks) {y : Tbst_node} {f : ByteArray} (hy : y ∈ ks) (h1 : lessB y.key f = false) (h2 : ∀ z ∈ ks, lessB z.key f = false → leB y.key z.key = true) : fromK ks f = y :: fromK ks (y.key ++ z0) := by
  have hz : ∀ z : Tbst_node, (!lessB z.key (y.key ++ z0)) = lessB y.key z.key := fun z => by rw [less_zero, leB_not, Bool.not_not]
  refine soN_ext (hs.filter _) ?_ (fun t => ?_)
  · unfold SoN
    rw [List.pairwise_cons]
    refine ⟨fun z hz' => ?_, hs.filter _⟩
    have := (List.mem_filter.mp hz').2
    rw [hz] at this; exact this
  · unfold fromK
    rw [List.mem_cons, List.mem_filter, List.mem_filter]
    simp only [hz]
    constructor
    · rintro ⟨q1, q2⟩
      have q2 : lessB t.key f = false := by simpa using q2
      have q3 := h2 t q1 q2
      cases e : lessB y.key t.key with
      | true => exact .inr ⟨q1, rfl⟩
      | false =>
        rw [leB_not, Bool.not_eq_true'] at q3
        exact .inl (uniq_key hs q1 hy (less_total q3 e))
    · rintro (q | ⟨q1, q2⟩)
      · rw [q, h1]; exact ⟨hy, rfl⟩
      · refine ⟨q1, ?_⟩
        cases e : lessB t.key f with
        | false => rfl
        | true => have := less_trans q2 e; rw [h1] at this; cases this
/-- What a walk finds. -/
def wl (g : TRange) (rev : Int) (es : List TEvent) (L : List Tbst_node) : List TKV := (L.takeWhile (fun y => inR g y.key)).filterMap (fun y => look (hist es y.key) rev)
theorem one_to {k : ByteArray} (h : k.size < 4611686018427387904) : F_key_One k = some ⟨k, k ++ z0⟩ := by
  unfold F_key_One addS
  rw [if_pos (by show k.size + 1 ≤ _; omega)]; rfl
section
variable {T : Obst_Tree} {M : Omem_Mem} {S : Ochain_Store} {l r : BT} {ks : List Tbst_node} {j n : Nat} {es : List TEvent} {g : TRange} {rev : Int}
theorem walk_oi (X : XI T M S l r ks j es) (hj : j ≤ 300) (hn : 4000 ≤ n) (he : es.length < 1000) (hz : ∀ y ∈ ks, y.key.size < 4611686018427387904) :
    ∀ (m : Nat) (f : ByteArray) (W : Oindex_Work) (M1 : Omem_Mem), M1.cells = M.cells → (fromK ks f).length ≤ m → W.found.length + m ≤ 1000 →
      Oi (n + 3) (some (some (walkC g f rev), T, M1, S, W)) ((m + 1) * 1000) (fun F => (F.1 = T ∧ F.2.1.cells = M.cells ∧ F.2.2.1 = S ∧ F.2.2.2.1.found = W.found ++ wl g rev es (fromK ks f)) ∧ F.2.2.2.2 = none) := by
  intro m
  induction m with
  | zero =>
    intro f W M1 hM hm hw
    have hnil : fromK ks f = [] := List.length_eq_zero_iff.mp (by omega)
    obtain ⟨c, M2, C', c1, c2, c3, c4⟩ := seek_rs (n := n + 2) (k := f) (X.cells hM).inv (by omega) (by omega)
    refine (after_run (n := n + 2) (b := 0) c T M1 _ _ c2 ?_).le (by omega)
    have e : F_istep (n + 2) T M2 S W (.w146 (call C' none) (.c_Work_walk_1 g rev)) .u = F_index_Work_walk_1 (F_istep (n + 1)) T M2 S W (call C' none) g rev := rfl
    rw [e]
    unfold F_index_Work_walk_1
    rw [ans_eq]
    simp only [Option.bind_some]
    rcases c4 with ⟨y, hy, h1, h2, h3, h4, h5⟩ | ⟨h1, h2⟩
    · have : y ∈ fromK ks f := List.mem_filter.mpr ⟨hy, by rw [h4]; rfl⟩
      rw [hnil] at this; cases this
    · rw [h1]
      exact Oi.done ⟨⟨rfl, c3.trans hM, rfl, by rw [hnil]; simp [wl]⟩, rfl⟩
  | succ m ih =>
    intro f W M1 hM hm hw
    obtain ⟨c, M2, C', c1, c2, c3, c4⟩ := seek_rs (n := n + 2) (k := f) (X.cells hM).inv (by omega) (by omega)
    refine (after_run (n := n + 2) (b := (m + 1) * 1000 + 1) c T M1 _ _ c2 ?_).le (by omega)
    have e : F_istep (n + 2) T M2 S W (.w146 (call C' none) (.c_Work_walk_1 g rev)) .u = F_index_Work_walk_1 (F_istep (n + 1)) T M2 S W (call C' none) g rev := rfl
    rw [e]
    unfold F_index_Work_walk_1
    rw [ans_eq]
    simp only [Option.bind_some]
    rcases c4 with ⟨y, hy, h1, h2, h3, h4, h5⟩ | ⟨h1, h2⟩
    · have hc := from_cons X.inv.kkey.2 hy h4 h5
      rw [h1, h2, h3, keyIn_eq]
      simp only [Bool.not_true, Bool.false_eq_true, if_false, Option.bind_some]
      cases hi : inR g y.key with
      | false =>
        rw [if_pos (by simp)]
        refine Oi.done ⟨⟨rfl, c3.trans hM, rfl, ?_⟩, rfl⟩
        rw [hc]
        simp [wl, hi]
      | true =>
        rw [if_neg (by simp)]
        unfold F_index_Work_look
        simp only [Option.bind_some]
        obtain ⟨a, id, g1, g2, g3, g4, g5⟩ := X.cell y hy
        have sl := X.slen
        have b3 := X.inv.b3
        have hl := hist_len es y.key
        rw [g1]
        refine Oi.step (b := (m + 1) * 1000) (look_step (q := n + 2) (h := hist es y.key) (by omega) (by omega) (by rw [c3, hM]; exact g4) g5 (by omega) (by omega)) ?_
        have e : ∀ (M : Omem_Mem) (W : Oindex_Work) (A : Tbst_Answer), A.Key = y.key → F_istep (n + 2) T M S W (.c_Work_walk_1_1 g A rev) .u = F_index_Work_walk (n + 1) (F_istep (n + 1)) T M S W g (y.key ++ z0) rev := fun M W A hA => by
          have q1 : F_istep (n + 2) T M S W (.c_Work_walk_1_1 g A rev) .u = F_index_Work_walk_1_1 (n + 1) (F_istep (n + 1)) T M S W g A rev := rfl
          rw [q1]
          unfold F_index_Work_walk_1_1
          rw [hA, one_to (hz y hy)]
          simp only [Option.bind_some]
          rw [rbi]
        rw [e _ _ _ rfl, beg_walk (X.inv.cells (M' := tick M2) (c3.trans hM))]
        rw [hc, List.length_cons] at hm
        have hlk : (look (hist es y.key) rev).toList.length ≤ 1 := by cases look (hist es y.key) rev <;> simp
        have H := ih (y.key ++ z0) ⟨W.cell, W.bad, W.found ++ (look (hist es y.key) rev).toList⟩ (tick M2) (c3.trans hM) (by omega) (by simp only [List.length_append]; omega)
        obtain ⟨o, T2, M3, S3, W3, k, F, k1, k2, k3, ⟨⟨p1, p2, p3, p4⟩, p5⟩⟩ := H
        refine ⟨o, T2, M3, S3, W3, k, F, k1, k2, k3, ⟨p1, p2, p3, ?_⟩, p5⟩
        rw [p4, hc]
        simp only [wl, List.takeWhile_cons, hi, if_true, List.filterMap_cons]
        cases look (hist es y.key) rev <;> simp
    · rw [h1]
      have hnil : fromK ks f = [] := List.filter_eq_nil_iff.mpr (fun z hz => by rw [h2 z hz]; simp)
      exact Oi.done ⟨⟨rfl, c3.trans hM, rfl, by rw [hnil]; simp [wl]⟩, rfl⟩
theorem takeWhile_so {p : Tbst_node → Bool} : ∀ {L : List Tbst_node}, L.Pairwise (fun a b => p b = true → p a = true) → L.takeWhile p = L.filter p
  | [], _ => rfl
  | y :: L, h => by
    rw [List.pairwise_cons] at h
    rw [List.takeWhile_cons, List.filter_cons]
    cases e : p y with
    | true => rw [if_pos rfl, if_pos rfl, takeWhile_so h.2]
    | false =>
      rw [if_neg (by simp), if_neg (by simp)]
      symm
      exact List.filter_eq_nil_iff.mpr (fun z hz hp => by have := h.1 z hz hp; rw [e] at this; cases this)
theorem wl_eq (hs : SoN ks) : wl g rev es (fromK ks g.From) = (ks.filter (fun y => inR g y.key)).filterMap (fun y => look (hist es y.key) rev) := by
  unfold wl
  rw [takeWhile_so]
  · unfold fromK
    rw [List.filter_filter]
    congr 1
    refine List.filter_congr (fun y _ => ?_)
    unfold inR
    rw [leB_not]
    cases lessB y.key g.From <;> simp
  · refine (hs.filter _).imp_of_mem (fun {a b} ha hb h hp => ?_)
    have q := (List.mem_filter.mp ha).2
    unfold inR at hp ⊢
    rw [leB_not, q]
    rw [Bool.and_eq_true, Bool.or_eq_true] at hp
    rcases hp.2 with w | w
    · rw [w]; rfl
    · rw [less_trans h w]; simp
theorem xwalk_run (X : XI T M S l r ks j es) (hj : j ≤ 300) (hn : 1000000 ≤ n) (he : es.length < 1000) (hz : ∀ y ∈ ks, y.key.size < 4611686018427387904) (hk : ks.length ≤ 900) :
    ∃ M' W', M'.cells = M.cells ∧ W'.found = (ks.filter (fun y => inR g y.key)).filterMap (fun y => look (hist es y.key) rev) ∧ F_index_Run (n + 3) T M S ⟨some (walkC g g.From rev), 0, 0, []⟩ = some (T, M', S, W') := by
  have hl : (fromK ks g.From).length ≤ ks.length := List.length_filter_le _ _
  have H := walk_oi (n := n) (g := g) (rev := rev) X hj (by omega) he hz 900 g.From ⟨0, 0, []⟩ M rfl (by omega) (by simp)
  obtain ⟨⟨T', M', S', W', o'⟩, ⟨⟨h1, h2, h3, h5⟩, h6⟩, h4⟩ := irun H (by omega) (fun f h => h.2)
  dsimp only at h1 h3
  subst h1 h3
  refine ⟨M', _, h2, ?_, h4⟩
  rw [wl_eq X.inv.kkey.2] at h5
  exact h5
end
end Go.Proofs.YtndhbaidibioeaaGreat.V
