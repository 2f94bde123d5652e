/- The document's answers are told, whatever they are; what deeds make of a map.
   No condition: these are laws of plain functions. -/
import Derived.Test.YtpfdandpmpmbiaaHq
namespace Go.Proofs.Ytpfdandpmpmbiaa.V
open Go
set_option linter.unusedVariables false
set_option linter.unusedSimpArgs false

theorem evsTL (q : List TEvent) : ∀ (l : List TEvent) (i : Nat), i + l.length ≤ q.length → (F_ref05_Events_L1 q l i = some (.go ())) ∨ F_ref05_Events_L1 q l i = some (.out false)
  | [], i, _ => .inl rfl
  | z :: l, i, h => by
    rw [List.length_cons] at h
    rw [F_ref05_Events_L1, getI_nat, List.getElem?_eq_getElem (by omega)]
    simp only [Option.bind_some]
    split
    · exact .inr rfl
    · exact evsTL q l (i + 1) (by omega)
theorem evs_tot (p q : List TEvent) : ∃ b, F_ref05_Events p q = some b := by
  unfold F_ref05_Events
  split
  · exact ⟨_, rfl⟩
  · rename_i h
    have h' : (p.length : Int) = q.length := by simpa using h
    rcases evsTL q p 0 (by omega) with e | e <;> rw [e] <;> exact ⟨_, rfl⟩
theorem mapTot {n : Nat} (hn : 1000 < n) (rev : Int) : ∀ (rows : List (List TEvent)) (i : Nat) (acc : List TKV), So acc → acc.length + rows.flatten.length ≤ 1000 → ∃ m, F_ref06_Map_L1 n rev rows i acc = some m
  | [], i, acc, _, _ => ⟨acc, rfl⟩
  | r :: rows, i, acc, hs, hl => by
    rw [List.flatten_cons, List.length_append] at hl
    rw [F_ref06_Map_L1]
    split
    · rw [rfold_eq r hs (by omega) hn]
      simp only [Option.bind_some]
      have := foldM_len r acc hs
      exact mapTot hn rev rows (i + 1) _ (foldM_so _ _ hs) (by omega)
    · exact ⟨acc, rfl⟩
theorem count2Tot (ops : List TOp) (z : TOp) (hl : ops.length ≤ 1000000) : ∀ (f : Nat) (b : Bool) (i : Nat), ops.length - i < f → ∃ r, F_ref06_Count_L2 ops z f b (i : Int) = some r
  | 0, _, _, h => by omega
  | f + 1, b, i, h => by
    rw [F_ref06_Count_L2]
    by_cases q : i < ops.length
    · rw [if_pos (by simpa using q)]
      have hw : IntKind.i64.wrap ((i : Int) + 1) = ((i + 1 : Nat) : Int) := by rw [wrap_id (by omega) (by omega)]; omega
      rw [hw]
      cases b with
      | true =>
        rw [if_pos rfl, getI_nat, List.getElem?_eq_getElem q]
        simp only [Option.bind_some]
        exact count2Tot ops z hl f _ (i + 1) (by omega)
      | false =>
        rw [if_neg (by simp)]
        simp only [Option.bind_some]
        exact count2Tot ops z hl f _ (i + 1) (by omega)
    · rw [if_neg (by simpa using q)]; exact ⟨_, rfl⟩
theorem countTot {n : Nat} (m : List TKV) (ops : List TOp) (hl : ops.length ≤ 1000) (hn : 1000 < n) : ∀ (r : List TOp) (i : Nat) (acc : List TOp), acc.length + r.length ≤ 1000 → i + r.length ≤ 1000 → ∃ out, F_ref06_Count_L1 n m ops r i acc = some out ∧ out.length ≤ acc.length + r.length
  | [], i, acc, _, _ => ⟨acc, rfl, Nat.le_refl _⟩
  | z :: r, i, acc, h, h2 => by
    rw [List.length_cons] at h h2
    rw [F_ref06_Count_L1]
    have hw : IntKind.i64.wrap ((i : Int) + 1) = ((i + 1 : Nat) : Int) := by rw [wrap_id (by omega) (by omega)]; omega
    obtain ⟨s, hs⟩ := count2Tot ops z (by omega) n true (i + 1) (by omega)
    obtain ⟨g, hg⟩ : ∃ g, F_ref06_Get m z.Key = some g := ⟨_, get_eq _ _⟩
    rw [hw, hs, hg]
    simp only [Option.bind_some]
    have key : ∀ b : Bool, ∃ out, ((if b = true then ((appL 40 acc [z]).bind fun x16 => some (acc ++ [z])) else some acc).bind fun s13 => F_ref06_Count_L1 n m ops r (i + 1) s13) = some out ∧ out.length ≤ acc.length + (z :: r).length := by
      intro b
      rw [List.length_cons]
      cases b with
      | true =>
        rw [if_pos rfl, appL_ok (by simp; omega) (by omega) (by omega)]
        simp only [Option.bind_some]
        obtain ⟨out, a, b⟩ := countTot m ops hl hn r (i + 1) (acc ++ [z]) (by simp; omega) (by omega)
        exact ⟨out, a, by rw [List.length_append] at b; simp at b; omega⟩
      | false =>
        rw [if_neg (by simp)]
        simp only [Option.bind_some]
        obtain ⟨out, a, b⟩ := countTot m ops hl hn r (i + 1) acc (by omega) (by omega)
        exact ⟨out, a, by omega⟩
    have hx : ∃ p : Bool × Bool, (if s.1 = true then ((if g.2 = true then (some (true, true)) else (some (false, (!z.Del))) : Option (Bool × Bool)).bind fun s18 => some (true, s18.2)) else (some (false, false)) : Option (Bool × Bool)) = some p := by
      cases s.1 <;> cases g.2 <;> exact ⟨_, rfl⟩
    obtain ⟨p, hp⟩ := hx
    rw [hp]
    simp only [Option.bind_some]
    exact key p.2
theorem rapplyTot (x : Timpostref06_Hist) : ∀ (l : List TOp) (i : Nat) (acc : List TEvent), acc.length + l.length ≤ 1000000 → ∃ out, F_ref06_Apply_L1 x l i acc = some out ∧ out.length = acc.length + l.length
  | [], i, acc, _ => ⟨acc, rfl, rfl⟩
  | z :: l, i, acc, h => by
    rw [List.length_cons] at h
    rw [F_ref06_Apply_L1]
    have hs : (if (!z.Del) = true then some z.Val else some ByteArray.empty) = some (if (!z.Del) = true then z.Val else ByteArray.empty) := by split <;> rfl
    rw [hs]
    simp only [Option.bind_some]
    rw [appL_ok (by simp; omega) (by omega) (by omega)]
    simp only [Option.bind_some]
    obtain ⟨out, a, b⟩ := rapplyTot x l (i + 1) (acc ++ [⟨IntKind.i64.wrap ((x.Rows.length : Int) + 1), z.Key, if (!z.Del) = true then z.Val else ByteArray.empty, z.Del⟩]) (by simp; omega)
    exact ⟨out, a, by rw [b, List.length_append, List.length_cons]; simp; omega⟩
def RI (x : Timpostref06_Hist) (N : Nat) : Prop := x.Rows.flatten.length ≤ N ∧ x.Rows.length ≤ N
theorem rap_ok {n : Nat} (hn : 1000 < n) {x : Timpostref06_Hist} {N : Nat} (I : RI x N) (hN : N ≤ 1000) (ops : List TOp) (ho : ops.length ≤ 1000) : ∃ x' l, F_ref06_Apply n x ops = some (x', l) ∧ RI x' (N + ops.length + 1) ∧ (ops.length = 0 → x' = x) := by
  obtain ⟨i1, i2⟩ := I
  unfold F_ref06_Apply F_ref06_Map
  obtain ⟨m, hm⟩ := mapTot hn (x.Rows.length : Int) x.Rows 0 [] List.Pairwise.nil (by rw [List.length_nil]; omega)
  rw [hm]
  simp only [Option.bind_some]
  unfold F_ref06_Count
  obtain ⟨out, a, b⟩ := countTot m ops ho hn ops 0 [] (by simp; omega) (by omega)
  rw [a]
  simp only [Option.bind_some]
  rw [List.length_nil, Nat.zero_add] at b
  split
  · exact ⟨_, _, rfl, ⟨by omega, by omega⟩, fun _ => rfl⟩
  · rename_i hne
    obtain ⟨row, c, d⟩ := rapplyTot x out 0 [] (by simp; omega)
    rw [c]
    simp only [Option.bind_some]
    rw [appL_ok (by simp; omega) (by omega) (by omega)]
    simp only [Option.bind_some]
    rw [appL_ok (by simp; omega) (by omega) (by omega)]
    simp only [Option.bind_some]
    rw [List.length_nil, Nat.zero_add] at d
    refine ⟨_, _, rfl, ⟨?_, ?_⟩, fun e => ?_⟩
    · simp only [List.nil_append, List.flatten_append, List.length_append, List.flatten_cons, List.flatten_nil, List.append_nil]; omega
    · simp only [List.nil_append, List.length_append, List.length_cons, List.length_nil]; omega
    · have h0 : out.length = 0 := by omega
      rw [h0] at hne; exact absurd rfl hne
theorem rco_ok {x : Timpostref06_Hist} {N : Nat} (I : RI x N) (rev : Int) : ∃ x' b, F_ref06_Compact x rev = some (x', b) ∧ RI x' N := by
  unfold F_ref06_Compact
  split
  · exact ⟨_, _, rfl, I⟩
  · split
    · exact ⟨_, _, rfl, I⟩
    · exact ⟨_, _, rfl, I⟩
theorem do_ok {n : Nat} (hn : 1000 < n) {h : Ohist_Hist} (I : HI h) (hl : (hev h).length ≤ 900) {x : Timpostref06_Hist} {N : Nat} (J : RI x N) (hN : N ≤ 1000) {d : Timpostlaw06_Deed} (w : W_Timpostlaw06_Deed d) (ho : d.Ops.length ≤ 8) :
    ∃ x' b h', F_law06_do n h x d = some (x', b, h') ∧ HI h' ∧ RI x' (N + 9) ∧ Later h h' 8 := by
  unfold F_law06_do
  split
  · obtain ⟨h', a, b, c⟩ := apply_later I d.Ops (fun o h => (w.2.1.1 o h).1) (by omega)
    obtain ⟨x', l, e, f, _⟩ := rap_ok hn J hN d.Ops (by omega)
    rw [a]
    simp only [Option.bind_some]
    rw [e]
    simp only [Option.bind_some]
    obtain ⟨b', g⟩ := evs_tot (effL h d.Ops) l
    rw [g]
    exact ⟨x', b', h', rfl, b, ⟨by have := f.1; omega, by have := f.2; omega⟩, c.mono ho⟩
  · obtain ⟨b, h', a, c, e⟩ := compact_later I d.Rev
    obtain ⟨x', b', f, g⟩ := rco_ok J d.Rev
    rw [a]
    simp only [Option.bind_some]
    rw [f]
    exact ⟨x', _, h', rfl, c, ⟨by have := g.1; omega, by have := g.2; omega⟩, e.mono (by omega)⟩
theorem ran_L {n : Nat} (hn : 1000 < n) : ∀ (l : List Timpostlaw06_Deed) (i : Nat) (h : Ohist_Hist) (x : Timpostref06_Hist) (N : Nat), (∀ d ∈ l, W_Timpostlaw06_Deed d) → (∀ d ∈ l, d.Ops.length ≤ 8) → HI h → RI x N → N + 9 * l.length ≤ 800 → (hev h).length + 8 * l.length ≤ 800 →
    ∃ (x' : Timpostref06_Hist) (h' : Ohist_Hist), F_law06_ran_L1 n l i x.Rows x.Hor h.bounds_rev h.bounds_hor h.rows h.keys = some (x'.Rows, x'.Hor, h'.bounds_rev, h'.bounds_hor, h'.rows, h'.keys) ∧ HI h' ∧ (hev h').length ≤ (hev h).length + 8 * l.length
  | [], i, h, x, N, _, _, I, J, _, _ => ⟨x, h, rfl, I, by simp⟩
  | d :: l, i, h, x, N, w, o, I, J, h1, h2 => by
    rw [List.length_cons] at h1 h2
    obtain ⟨x1, b, h', e, I', J', L⟩ := do_ok hn I (by omega) J (by omega) (w d List.mem_cons_self) (o d List.mem_cons_self)
    have hlen := L.len
    obtain ⟨x2, h2', e2, I2, l2⟩ := ran_L hn l (i + 1) h' x1 (N + 9) (fun y hy => w y (List.mem_cons_of_mem _ hy)) (fun y hy => o y (List.mem_cons_of_mem _ hy)) I' J' (by omega) (by omega)
    refine ⟨x2, h2', ?_, I2, by rw [List.length_cons]; omega⟩
    rw [F_law06_ran_L1]
    rw [show (⟨x.Rows, x.Hor⟩ : Timpostref06_Hist) = x from rfl, eta_h, e]
    exact e2
theorem ran_ok {n : Nat} (hn : 1000 < n) {l : List Timpostlaw06_Deed} (w : ∀ d ∈ l, W_Timpostlaw06_Deed d) (o : ∀ d ∈ l, d.Ops.length ≤ 8) (hl : l.length ≤ 30) :
    ∃ h, F_law06_ran n l = some h ∧ HI h ∧ (hev h).length ≤ 240 := by
  obtain ⟨x, h, a, b, c⟩ := ran_L hn l 0 ⟨0, 0, [], []⟩ ⟨[], 0⟩ 0 w o hi_new ⟨by simp, by simp⟩ (by omega) (by simp [hev]; omega)
  refine ⟨h, ?_, b, by simp [hev] at c ⊢; omega⟩
  unfold F_law06_ran F_hist_New
  simp only [Option.bind_some]
  have a' : F_law06_ran_L1 n l 0 [] 0 0 0 [] [] = some (x.Rows, x.Hor, h.bounds_rev, h.bounds_hor, h.rows, h.keys) := a
  rw [a']; rfl
theorem fewL : ∀ (l : List Timpostlaw06_Deed) (i : Nat), F_law06_few_L1 l i = some (.out false) ∨ (F_law06_few_L1 l i = some (.go ()) ∧ (i + l.length ≤ 31 → ∀ d ∈ l, d.Ops.length ≤ 8))
  | [], i => .inr ⟨rfl, fun _ d h => absurd h List.not_mem_nil⟩
  | z :: l, i => by
    rw [F_law06_few_L1]
    by_cases h1 : i < 31
    · rw [if_pos (decide_eq_true (by omega))]
      by_cases h2 : z.Ops.length > 8
      · rw [if_pos (decide_eq_true (by omega))]; exact .inl rfl
      · rw [if_neg (by rw [decide_eq_true_iff]; omega)]
        rcases fewL l (i + 1) with e | ⟨e, g⟩
        · exact .inl e
        · refine .inr ⟨e, fun h d hd => ?_⟩
          rw [List.length_cons] at h
          rcases List.mem_cons.mp hd with q | q
          · subst q; omega
          · exact g (by omega) d q
    · rw [if_neg (by rw [decide_eq_true_iff]; omega)]
      exact .inr ⟨rfl, fun h => by rw [List.length_cons] at h; omega⟩
theorem few_ok (l : List Timpostlaw06_Deed) : F_law06_few l = some false ∨ (F_law06_few l = some true ∧ l.length ≤ 30 ∧ ∀ d ∈ l, d.Ops.length ≤ 8) := by
  unfold F_law06_few
  rcases fewL l 0 with e | ⟨e, g⟩
  · rw [e]; exact .inl rfl
  · rw [e]
    simp only [Option.bind_some, lpK]
    by_cases h : l.length ≤ 30
    · exact .inr ⟨by rw [decide_eq_true (by omega)], h, g (by omega)⟩
    · exact .inl (by rw [decide_eq_false (by omega)])
/-- Everything there is, in range. -/
theorem inR_all (k : ByteArray) : inR ⟨ByteArray.empty, ByteArray.empty⟩ k = true := by
  unfold inR
  have h1 : leB ByteArray.empty k = true := by
    rw [leB_not]
    have : lessB k ByteArray.empty = false := by
      unfold lessB
      have : ByteArray.empty.toList = [] := by rw [ByteArray.toList_eq]; rfl
      rw [this]
      cases k.toList <;> rfl
    rw [this]; rfl
  rw [h1, eqB_self]; rfl
end Go.Proofs.Ytpfdandpmpmbiaa.V
