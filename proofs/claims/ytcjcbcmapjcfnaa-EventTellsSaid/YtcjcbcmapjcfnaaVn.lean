/- Maps whose elements are rows; what is clipped, and appended to.
   No condition: these are laws of the clean machine. -/
import Derived.Test.YtcjcbcmapjcfnaaVc
import Derived.Test.YtcjcbcmapjcfnaaMb
namespace Go.Proofs.Ytcjcbcmapjcfnaa.V
open Go
set_option linter.unusedVariables false
set_option linter.unusedSimpArgs false

/-- An address to whose row may be appended. -/
def goodA (a : Option Addr) : Prop := ∀ a0, a = some a0 → a0.spot ≠ some 2
def fullA (a : Option Addr) : Prop := ∀ a0, a = some a0 → a0.spot ≠ some 2 ∧ a0.spot ≠ some 0
theorem goodA_none : goodA none := fun _ h => by cases h
theorem AccR.good {α : Type} {R : Rep α} {elem : TypeId} {h : Heap} {tl : List Blk} {p : Option Addr} {xs : List α} (a : AccR R elem h tl (.slice p xs.length xs.length) xs) : goodA p := by
  obtain ⟨_, ⟨h1, ⟨q, h2, h3⟩, _⟩ | ⟨b, rows, h2, _⟩⟩ := a
  · subst h1
    have : p = q := by simpa using h2
    subst this
    intro a0 e
    rw [h3 a0 e]; intro q; cases q
  · have : p = some ⟨b, 0, some 0⟩ := by simpa using h2
    subst this
    intro a0 e
    cases e; intro q; cases q

theorem AccR.first {α : Type} {R : Rep α} {elem : TypeId} {h0 : Heap} {tl : List Blk} {p : Option Addr} {xs : List α} (a : AccR R elem h0 tl (.slice p xs.length xs.length) xs) (hk : 0 < R.k) :
    ∃ rows, Rws R h0 rows xs ∧ ∀ (own : List Blk) (h' hf : Heap), (∀ e ∈ tl, e ∈ own) → Has own h0 h' hf → firstV h' R.k xs.length (.slice p xs.length xs.length) = some rows.flatten := by
  obtain ⟨_, ⟨h1, ⟨q, h2, h3⟩, _⟩ | ⟨b, rows, h2, h3, h4⟩⟩ := a
  · subst h1
    refine ⟨[], ⟨rfl, fun i row x hr _ => by simp at hr⟩, fun own h' hf _ _ => ?_⟩
    unfold firstV
    cases p with
    | none => rfl
    | some a0 =>
      have : Nat.beq (([] : List α).length * R.k) 0 = true := by simp
      rw [this]; rfl
  · have : p = some ⟨b, 0, some 0⟩ := by simpa using h2
    subst this h3
    refine ⟨rows, h4, fun own h' hf hm hs => ?_⟩
    have hb := (hs.blk _ (hm _ List.mem_cons_self)).1
    dsimp only at hb
    have fl := h4.flen
    unfold firstV
    dsimp only
    cases e0 : Nat.beq (xs.length * R.k) 0 with
    | true =>
      have : rows.flatten = [] := List.eq_nil_of_length_eq_zero (by rw [fl]; exact Nat.eq_of_beq_eq_true e0)
      rw [this]; rfl
    | false =>
      have q3 : Nat.ble (0 + xs.length * R.k) rows.flatten.length = true := Nat.ble_eq_true_of_le (by omega)
      simp only [cond_false, elemAddr, cellsAt, Nat.zero_add, hb]
      rw [Nat.zero_add] at q3
      rw [q3]
      simp only [cond_true, List.drop_zero, Option.some.injEq]
      rw [← fl, List.take_length]
/-- A map's entries, each with a row. -/
def MR {K α : Type} (R : Rep α) (h : Heap) (raw : List (K × Value)) (m : List (K × List α)) : Prop :=
  raw.length = m.length ∧ ∀ (i : Nat) (e : K × List α), m[i]? = some e → ∃ a c, raw[i]? = some (e.1, .slice a e.2.length c) ∧ RL R h a c e.2 ∧ goodA a
section
variable {K α : Type} {R : Rep α} {h h' : Heap} {raw : List (K × Value)} {m : List (K × List α)}
theorem MR.nil : MR R h ([] : List (K × Value)) ([] : List (K × List α)) := ⟨rfl, fun i e h => by simp at h⟩
theorem MR.ext (s : MR R h raw m) (e : Kn h h') : MR R h' raw m := ⟨s.1, fun i x hx => by
  obtain ⟨a, c, h1, h2, h3⟩ := s.2 i x hx
  exact ⟨a, c, h1, h2.ext e, h3⟩⟩
theorem MR.keys (s : MR R h raw m) : raw.map (·.1) = m.map (·.1) := by
  apply List.ext_getElem?
  intro i
  rw [List.getElem?_map, List.getElem?_map]
  cases e : m[i]? with
  | some x =>
    obtain ⟨a, c, h1, _⟩ := s.2 i x e
    rw [h1]; rfl
  | none =>
    have h1 := List.getElem?_eq_none_iff.mp e
    rw [List.getElem?_eq_none (by rw [s.1]; exact h1)]; rfl
theorem MR.tail {x : K × Value} {y : K × List α} (s : MR R h (x :: raw) (y :: m)) : MR R h raw m := ⟨by have := s.1; simpa using this, fun i e he => s.2 (i + 1) e he⟩
theorem MR.find [DecidableEq K] (k : K) : ∀ {raw : List (K × Value)} {m : List (K × List α)} (i : Nat), MR R h raw m →
    (mfind raw k i = none ∧ mfind m k i = none) ∨ ∃ j x a c, mfind raw k i = some (i + j, .slice a x.length c) ∧ mfind m k i = some (i + j, x) ∧ m[j]? = some (k, x) ∧ RL R h a c x ∧ goodA a
  | [], [], i, _ => .inl ⟨rfl, rfl⟩
  | [], _ :: _, _, s => by have := s.1; simp at this
  | _ :: _, [], _, s => by have := s.1; simp at this
  | e :: raw, x :: m, i, s => by
    obtain ⟨a, c, h1, h2, h3⟩ := s.2 0 x rfl
    have h1 : e = (x.1, .slice a x.2.length c) := by simpa using h1
    subst h1
    unfold mfind
    by_cases q : k = x.1
    · rw [if_pos q, if_pos q]
      exact .inr ⟨0, x.2, a, c, rfl, rfl, by rw [q]; rfl, h2, h3⟩
    · rw [if_neg q, if_neg q]
      rcases MR.find k (i + 1) s.tail with h4 | ⟨j, y, a, c, h4, h5, h6, h7⟩
      · exact .inl h4
      · exact .inr ⟨j + 1, y, a, c, by rw [h4]; congr 2; omega, by rw [h5]; congr 2; omega, h6, h7⟩
theorem MR.get [DecidableEq K] (s : MR R h raw m) (k : K) : ∃ a c, (mget raw k).getD (.slice none 0 0) = .slice a ((mget m k).getD []).length c ∧ RL R h a c ((mget m k).getD []) ∧ goodA a := by
  unfold mget
  rcases MR.find k 0 s with ⟨h1, h2⟩ | ⟨j, x, a, c, h1, h2, _, h3, h4⟩
  · rw [h1, h2]; exact ⟨none, 0, rfl, RL.nil _ _ _, goodA_none⟩
  · rw [h1, h2]; exact ⟨a, c, rfl, h3, h4⟩
theorem MR.isSome [DecidableEq K] (s : MR R h raw m) (k : K) : (mget raw k).isSome = (mget m k).isSome := by
  unfold mget
  rcases MR.find k 0 s with ⟨h1, h2⟩ | ⟨j, x, a, c, h1, h2, _⟩
  · rw [h1, h2]; rfl
  · rw [h1, h2]; rfl
theorem MR.set [DecidableEq K] (s : MR R h raw m) (k : K) {a : Option Addr} {c : Nat} {x : List α} (hx : RL R h a c x) (ha : goodA a) : MR R h (mset raw k (.slice a x.length c)) (mset m k x) := by
  unfold mset
  rcases MR.find k 0 s with ⟨h1, h2⟩ | ⟨j, y, b, d, h1, h2, h3, _⟩
  · rw [h1, h2]
    refine ⟨by simp [s.1], fun i e he => ?_⟩
    dsimp only at he ⊢
    rcases Nat.lt_or_ge i m.length with q | q
    · rw [List.getElem?_append_left q] at he
      obtain ⟨a', c', g1, g2⟩ := s.2 i e he
      exact ⟨a', c', by rw [List.getElem?_append_left (by rw [s.1]; exact q)]; exact g1, g2⟩
    · rw [List.getElem?_append_right q] at he
      have hi : i - m.length = 0 := by
        rcases Nat.eq_zero_or_pos (i - m.length) with z | z
        · exact z
        · rw [List.getElem?_eq_none (by simp; omega)] at he; cases he
      rw [hi] at he
      have : (k, x) = e := by simpa using he
      subst this
      exact ⟨a, c, by rw [List.getElem?_append_right (by rw [s.1]; exact q), s.1, hi]; rfl, hx, ha⟩
  · rw [h1, h2]
    refine ⟨by simp [s.1], fun i e he => ?_⟩
    dsimp only at he ⊢
    have hj : j < m.length := (List.getElem?_eq_some_iff.mp h3).1
    rw [Nat.zero_add] at he ⊢
    by_cases q : j = i
    · subst q
      rw [List.getElem?_set_self hj] at he
      have : (k, x) = e := by simpa using he
      subst this
      exact ⟨a, c, List.getElem?_set_self (by rw [s.1]; exact hj), hx, ha⟩
    · rw [List.getElem?_set_ne q] at he ⊢
      exact s.2 i e he
end

/-- What is clipped. -/
theorem clip_ok {α : Type} {R : Rep α} {E : Env} {h : Heap} {t e k c : Nat} {a : Option Addr} {xs : List α} (hs : RL R h a c xs) (hg : goodA a) (hu : E.P.underlying t = some (.slice e)) (hz : sz E.P e = some k) :
    ∃ a2, (∀ hf, sliceV E hf t (.slice a xs.length c) none (some (.int .i64 (xs.length : Int))) (some (.int .i64 (xs.length : Int))) = some (.slice a2 xs.length xs.length)) ∧ RL R h a2 xs.length xs ∧ fullA a2 := by
  have hb1 : boundV (some (.int .i64 (xs.length : Int))) c c = some xs.length := by
    have := hs.2.1
    have := hs.1
    simp [boundV]; omega
  have hb2 : boundV (some (.int .i64 (xs.length : Int))) xs.length xs.length = some xs.length := by
    have := hs.1
    simp [boundV]
  have hb3 : boundV none 0 xs.length = some 0 := rfl
  cases a with
  | none =>
    refine ⟨none, fun hf => ?_, ⟨hs.1, Nat.le_refl _, hs.2.2.1, fun a0 e => by cases e⟩, fun a0 e => by cases e⟩
    unfold sliceV
    rw [hu]
    dsimp only
    rw [hb1]
    dsimp only
    rw [hb2]
    dsimp only
    rw [hb3]
    dsimp only
    rw [hz]
    simp
  | some a0 =>
    have hgo := hg a0 rfl
    obtain ⟨ab, ao, sp⟩ := a0
    have hle : Nat.ble xs.length xs.length = true := Nat.ble_eq_true_of_le (Nat.le_refl _)
    have hsl : ∀ hf, sliceV E hf t (.slice (some ⟨ab, ao, sp⟩) xs.length c) none (some (.int .i64 (xs.length : Int))) (some (.int .i64 (xs.length : Int))) = match sliceAddr (exactA ⟨ab, ao, sp⟩) xs.length 0 (0 * k) with | some a' => some (.slice (some a') xs.length xs.length) | none => none := by
      intro hf
      unfold sliceV
      rw [hu]
      dsimp only
      rw [hb1]
      dsimp only
      rw [hb2]
      dsimp only
      rw [hb3]
      dsimp only
      rw [hz]
      simp [hle]
      cases sliceAddr (exactA ⟨ab, ao, sp⟩) xs.length 0 0 <;> rfl
    -- where it is then
    have key : ∀ (a2 : Addr), sliceAddr (exactA ⟨ab, ao, sp⟩) xs.length 0 (0 * k) = some a2 → (a2.spot ≠ some 2 ∧ a2.spot ≠ some 0) → (∀ i a', elemAddr ⟨ab, ao, sp⟩ i = some a' → elemAddr a2 i = some a') →
        ∃ a2, (∀ hf, sliceV E hf t (.slice (some ⟨ab, ao, sp⟩) xs.length c) none (some (.int .i64 (xs.length : Int))) (some (.int .i64 (xs.length : Int))) = some (.slice a2 xs.length xs.length)) ∧ RL R h a2 xs.length xs ∧ fullA a2 := by
      intro a2 h1 h2 h3
      refine ⟨some a2, fun hf => by rw [hsl, h1], ⟨hs.1, Nat.le_refl _, fun i x hx => ?_, fun a1 e e2 => by cases e; exact absurd e2 h2.2⟩, fun a1 e => by cases e; exact h2⟩
      obtain ⟨q0, q', row, g1, g2, g3, g4⟩ := hs.2.2.1 i x hx
      cases g1
      exact ⟨a2, q', row, rfl, h3 _ _ g2, g3, g4⟩
    match sp, hgo with
    | none, _ =>
      refine key ⟨ab, ao, none⟩ ?_ ⟨by simp, by simp⟩ (fun i a' e => e)
      simp only [exactA, sliceAddr, Nat.zero_mul, Nat.add_zero]
      cases Nat.beq xs.length 0 <;> rfl
    | some 0, _ =>
      refine key ⟨ab, ao, none⟩ ?_ ⟨by simp, by simp⟩ (fun i a' e => e)
      simp only [exactA, sliceAddr, Nat.zero_mul, Nat.add_zero]
      cases Nat.beq xs.length 0 <;> rfl
    | some 1, _ =>
      refine key ⟨ab, ao, some 1⟩ ?_ ⟨by simp, by simp⟩ (fun i a' e => e)
      simp only [exactA, sliceAddr, Nat.zero_mul, Nat.add_zero]
      cases Nat.beq xs.length 0 <;> rfl
    | some 2, hgo => exact absurd rfl hgo
    | some (n + 3), _ =>
      -- nothing is there
      have h0 : xs.length = 0 := by
        rcases Nat.eq_zero_or_pos xs.length with z | z
        · exact z
        · obtain ⟨q0, q', row, g1, g2, _⟩ := hs.2.2.1 0 _ (List.getElem?_eq_getElem z)
          cases g1
          simp [elemAddr] at g2
      refine key ⟨ab, ao, some (n + 3)⟩ ?_ ⟨by simp, by simp⟩ (fun i a' e => e)
      simp only [exactA, sliceAddr, h0]; rfl

theorem lookM {E : Env} {h : Heap} {t key elem b : Nat} {raw : List (ByteArray × Value)} (hb : h.get b = some (.map (encM kS id raw))) (hu : E.P.underlying t = some (.map key elem)) (hk : scalarT E.P key = some .string)
    (hz : zeroOf E.P elem = some (.slice none 0 0)) (k : ByteArray) : lookupV E h t (.map (some b)) (.string k) false = some ((mget raw k).getD (.slice none 0 0)) := by
  unfold lookupV
  have hp : plainN 0 (.string k) = true := rfl
  simp only [hu, hp, cond_true, hk, mapOf, hb]
  rw [show (Value.string k) = kS k from rfl, findM_enc sameS]
  unfold mget
  cases e : mfind raw k 0 with
  | none => simp only [Option.map_none, Option.getD_none, hz]; rfl
  | some p => simp only [Option.map_some, Option.getD_some]; rfl
theorem r_lookS {E : Env} {l : L} {own : List Blk} {h0 : Heap} {g : Bool} {t key elem : TypeId} {m k : Operand} {b : Nat} {raw : List (ByteArray × Value)} {kv : ByteArray} {v : Value}
    (hx : OP l g m (.map (some b))) (hy : OP l g k (kS kv)) (hi : (⟨b, .map (encM kS id raw)⟩ : Blk) ∈ own) (hu : E.P.underlying t = some (.map key elem)) (hk : scalarT E.P key = some .string)
    (hz : zeroOf E.P elem = some (.slice none 0 0)) (e : (mget raw kv).getD (.slice none 0 0) = v) : RV E l own h0 g (.lookup t m k false) v := by
  subst e
  exact r_lookm (ke := kS) (ve := (id : Value → Value)) (es := raw) (kv := kv) (z := .slice none 0 0) (ok := false) hx hy hi hu rfl hk sameS hz
theorem encM_get {raw : List (ByteArray × Value)} : (encM kS id raw).map (·.1) = raw.map (fun e => Value.string e.1) := by
  unfold encM; rw [List.map_map]; rfl
section
variable {X : Cx} {st : List It} {l : L} {segs : List (List Blk)} {h0 : Heap}
variable {r : Array Oper} {os : List Oper} {d : Nat} {ty : TypeId} {pos : String} {aft : Array Edge}
/-- Appended to what has no room. -/
theorem gs_appF {α : Type} {R : Rep α} {a : Option Addr} {xs ys : List α} {args : Array Operand} {ts : Array TypeId} {sT elem k bytes n : Nat} {xv z : Value} {rows2 : List (List Value)}
    (hn : Nat.blt d X.nt = true) (hx : OPs l true args.toList [.slice a xs.length xs.length, xv]) (ht : ts[0]? = some sT) (hu : X.E.P.underlying sT = some (.slice elem)) (hk : sz X.E.P elem = some k) (hkR : k = R.k) (hk0 : 0 < k)
    (hby : bytesOf X.E.P elem = some bytes) (hz : zeroOf X.E.P elem = some z) (hzz : Nat.beq z.cells.size k = true) (hzs : zerosV X.E.P ts = some false)
    (hlen : lenOfV xv = some n) (hnl : n = ys.length) (hpos : 0 < ys.length) (hfirst : ∀ h' hf, Has segs.flatten h0 h' hf → firstV h' k n xv = some rows2.flatten) (hr2 : Rws R h0 rows2 ys)
    (hs : RL R h0 a xs.length xs) (hf : fullA a) (hr : roomy (xs.length + ys.length) bytes = true)
    (kk0 : ∀ p tl', AccR R elem h0 tl' (.slice p (xs ++ ys).length (xs ++ ys).length) (xs ++ ys) → Goes X (.ops r false os :: st) ((d, true, .slice p (xs ++ ys).length (xs ++ ys).length) :: l) (tl' :: segs).flatten h0) :
    Goes X (.ops r false (⟨some d, .call ⟨.builtin .append, args, ts⟩, ty, pos, aft, none⟩ :: os) :: st) l segs.flatten h0 := by
  subst hkR hnl
  obtain ⟨rows1, hw1, hq1⟩ := RL.first hs hk0
  intro fr h hf' ag hs'
  have hf1 := hfirst h hf' hs'
  have hl2 := hr2.flen
  have hl1 := hw1.flen
  have hq1' := hs'.msk.firstV (hs'.ext.kn.firstV hq1)
  have hnew : newV X.E h elem R.k bytes false xv = some (ys.length, rows2.flatten) := by
    simp only [newV, cond_false, hlen, hf1]
  have hbeq : Nat.beq rows2.flatten.length (ys.length * R.k) = true := by rw [hl2]; exact Nat.beq_refl _
  have hlt : (xs ++ ys).length < 9223372036854775808 := by rw [List.length_append]; exact roomy_lt hr
  have ho : opV X.E (run X.E 0) fr h (.call ⟨.builtin .append, args, ts⟩) = some (.slice (some ⟨h.n, 0, some 0⟩) (xs.length + ys.length) (xs.length + ys.length), h.alloc (.cells (rows1.flatten ++ rows2.flatten) elem)) := by
    simp only [opV, readV, writeV, hx fr ag rfl, appendV, ht, hu, hk, hby, hz, hzs, hnew, hbeq, cond_true]
    have : Nat.ble (xs.length + ys.length) xs.length = false := by
      cases e : Nat.ble (xs.length + ys.length) xs.length
      · rfl
      · exact absurd (Nat.le_of_ble_eq_true e) (by omega)
    rw [this]
    simp only [cond_false, hr, hzz, Bool.and_self, cond_true, growV]
    cases a with
    | none =>
      have hx0 : xs = [] := RL.none_nil hs
      subst hx0
      have hr1 : rows1.flatten = [] := List.eq_nil_of_length_eq_zero (by rw [hl1]; simp)
      dsimp only
      have : Nat.beq ([] : List α).length 0 = true := rfl
      rw [this, hr1]
      rfl
    | some a0 =>
      obtain ⟨hs2, hs0⟩ := hf a0 rfl
      obtain ⟨ab, ao, sp⟩ := a0
      match sp, hs2, hs0 with
      | none, _, _ => simp only [isSlack, cond_false, hq1']
      | some 0, _, h => exact absurd rfl h
      | some 1, _, _ => simp only [isSlack, cond_false, hq1']
      | some 2, h, _ => exact absurd rfl h
      | some (n + 3), _, _ => simp only [isSlack, cond_false, hq1']
  refine step_op rfl ho (put_some hn _ _) ?_
  have e1 : xs.length + ys.length = (xs ++ ys).length := (List.length_append).symm
  rw [e1]
  exact kk0 _ [⟨h.n, .cells (rows1.flatten ++ rows2.flatten) elem⟩] ⟨hlt, .inr ⟨h.n, rows1 ++ rows2, rfl, by simp, hw1.app hr2⟩⟩ _ _ _ (ag.set d true _) (hs'.alloc (.cells (rows1.flatten ++ rows2.flatten) elem))
end
/-! ### New variables in regions that draw their order -/
section
variable {X : Cx} {st : List It} {l : L} {segs : List (List Blk)} {own : List Blk} {h0 : Heap}
theorem go_regA1 {id : Nat} {ops : Array Oper} {L : List (Nat × List Nat)} {i1 : Nat} (hq : quietR X.E.P ops = false) (hL : sched ops = L) (hS : ∀ n, slots ops n = [(i1, n)])
    (g : ∀ b1, Goes X (.sops ops [(i1, b1)] L :: st) l ([⟨b1, .dead⟩] :: segs).flatten h0) : Goes X (.code (.region id ops true) :: st) l segs.flatten h0 := by
  intro fr h hf ag hs
  refine Dn.of_eq (fun n => ?_) (g h.n fr (h.alloc .dead) _ ag (hs.alloc .dead))
  simp only [exec, stepIt, evalC, hq, runDrawn, hS, hL, cond_true, cond_false, List.length_cons, List.length_nil, resv]
  rfl
theorem go_regA2 {id : Nat} {ops : Array Oper} {L : List (Nat × List Nat)} {i1 i2 : Nat} (hq : quietR X.E.P ops = false) (hL : sched ops = L) (hS : ∀ n, slots ops n = [(i1, n), (i2, n + 1)])
    (g : ∀ b1 b2, Goes X (.sops ops [(i1, b1), (i2, b2)] L :: st) l ([⟨b2, .dead⟩] :: [⟨b1, .dead⟩] :: segs).flatten h0) : Goes X (.code (.region id ops true) :: st) l segs.flatten h0 := by
  intro fr h hf ag hs
  refine Dn.of_eq (fun n => ?_) (g h.n (h.n + 1) fr ((h.alloc .dead).alloc .dead) _ ag ((hs.alloc .dead).alloc .dead))
  simp only [exec, stepIt, evalC, hq, runDrawn, hS, hL, cond_true, cond_false, List.length_cons, List.length_nil, resv]
  rfl
theorem go_regA3 {id : Nat} {ops : Array Oper} {L : List (Nat × List Nat)} {i1 i2 i3 : Nat} (hq : quietR X.E.P ops = false) (hL : sched ops = L) (hS : ∀ n, slots ops n = [(i1, n), (i2, n + 1), (i3, n + 2)])
    (g : ∀ b1 b2 b3, Goes X (.sops ops [(i1, b1), (i2, b2), (i3, b3)] L :: st) l ([⟨b3, .dead⟩] :: [⟨b2, .dead⟩] :: [⟨b1, .dead⟩] :: segs).flatten h0) : Goes X (.code (.region id ops true) :: st) l segs.flatten h0 := by
  intro fr h hf ag hs
  refine Dn.of_eq (fun n => ?_) (g h.n (h.n + 1) (h.n + 2) fr (((h.alloc .dead).alloc .dead).alloc .dead) _ ag (((hs.alloc .dead).alloc .dead).alloc .dead))
  simp only [exec, stepIt, evalC, hq, runDrawn, hS, hL, cond_true, cond_false, List.length_cons, List.length_nil, resv]
  rfl
theorem go_regA4 {id : Nat} {ops : Array Oper} {L : List (Nat × List Nat)} {i1 i2 i3 i4 : Nat} (hq : quietR X.E.P ops = false) (hL : sched ops = L) (hS : ∀ n, slots ops n = [(i1, n), (i2, n + 1), (i3, n + 2), (i4, n + 3)])
    (g : ∀ b1 b2 b3 b4, Goes X (.sops ops [(i1, b1), (i2, b2), (i3, b3), (i4, b4)] L :: st) l ([⟨b4, .dead⟩] :: [⟨b3, .dead⟩] :: [⟨b2, .dead⟩] :: [⟨b1, .dead⟩] :: segs).flatten h0) : Goes X (.code (.region id ops true) :: st) l segs.flatten h0 := by
  intro fr h hf ag hs
  refine Dn.of_eq (fun n => ?_) (g h.n (h.n + 1) (h.n + 2) (h.n + 3) fr ((((h.alloc .dead).alloc .dead).alloc .dead).alloc .dead) _ ag ((((hs.alloc .dead).alloc .dead).alloc .dead).alloc .dead))
  simp only [exec, stepIt, evalC, hq, runDrawn, hS, hL, cond_true, cond_false, List.length_cons, List.length_nil, resv]
  rfl
theorem go_regA5 {id : Nat} {ops : Array Oper} {L : List (Nat × List Nat)} {i1 i2 i3 i4 i5 : Nat} (hq : quietR X.E.P ops = false) (hL : sched ops = L) (hS : ∀ n, slots ops n = [(i1, n), (i2, n + 1), (i3, n + 2), (i4, n + 3), (i5, n + 4)])
    (g : ∀ b1 b2 b3 b4 b5, Goes X (.sops ops [(i1, b1), (i2, b2), (i3, b3), (i4, b4), (i5, b5)] L :: st) l ([⟨b5, .dead⟩] :: [⟨b4, .dead⟩] :: [⟨b3, .dead⟩] :: [⟨b2, .dead⟩] :: [⟨b1, .dead⟩] :: segs).flatten h0) : Goes X (.code (.region id ops true) :: st) l segs.flatten h0 := by
  intro fr h hf ag hs
  refine Dn.of_eq (fun n => ?_) (g h.n (h.n + 1) (h.n + 2) (h.n + 3) (h.n + 4) fr (((((h.alloc .dead).alloc .dead).alloc .dead).alloc .dead).alloc .dead) _ ag (((((hs.alloc .dead).alloc .dead).alloc .dead).alloc .dead).alloc .dead))
  simp only [exec, stepIt, evalC, hq, runDrawn, hS, hL, cond_true, cond_false, List.length_cons, List.length_nil, resv]
  rfl
theorem go_regA6 {id : Nat} {ops : Array Oper} {L : List (Nat × List Nat)} {i1 i2 i3 i4 i5 i6 : Nat} (hq : quietR X.E.P ops = false) (hL : sched ops = L) (hS : ∀ n, slots ops n = [(i1, n), (i2, n + 1), (i3, n + 2), (i4, n + 3), (i5, n + 4), (i6, n + 5)])
    (g : ∀ b1 b2 b3 b4 b5 b6, Goes X (.sops ops [(i1, b1), (i2, b2), (i3, b3), (i4, b4), (i5, b5), (i6, b6)] L :: st) l ([⟨b6, .dead⟩] :: [⟨b5, .dead⟩] :: [⟨b4, .dead⟩] :: [⟨b3, .dead⟩] :: [⟨b2, .dead⟩] :: [⟨b1, .dead⟩] :: segs).flatten h0) : Goes X (.code (.region id ops true) :: st) l segs.flatten h0 := by
  intro fr h hf ag hs
  refine Dn.of_eq (fun n => ?_) (g h.n (h.n + 1) (h.n + 2) (h.n + 3) (h.n + 4) (h.n + 5) fr ((((((h.alloc .dead).alloc .dead).alloc .dead).alloc .dead).alloc .dead).alloc .dead) _ ag ((((((hs.alloc .dead).alloc .dead).alloc .dead).alloc .dead).alloc .dead).alloc .dead))
  simp only [exec, stepIt, evalC, hq, runDrawn, hS, hL, cond_true, cond_false, List.length_cons, List.length_nil, resv]
  rfl
theorem go_snew {r : Array Oper} {sl : List (Nat × Nat)} {i d b : Nat} {L : List (Nat × List Nat)} {op : Op} {ty : TypeId} {pos : String} {aft : Array Edge} {cs : List Value} {T : TypeId} {v : Value}
    (ho : r[i]? = some ⟨some d, op, ty, pos, aft, none⟩) (ha : allocK op = true) (hn : Nat.blt d X.nt = true) (hb : slotL sl i = some b)
    (hv : ∀ fr, Agree l fr → ∃ f, newB X.E fr op = some (cs, T, f) ∧ f b = v) {segs' : List (List Blk)} (hg : SetSeg [⟨b, .dead⟩] [⟨b, .cells cs T⟩] segs segs')
    (kk : Goes X (.sops r sl L :: st) ((d, true, v) :: l) segs'.flatten h0) : Goes X (.sops r sl ((i, []) :: L) :: st) l segs.flatten h0 := by
  obtain ⟨pre, post, rfl, rfl⟩ := hg.pp
  refine go_perm (pf _ _ _) ?_
  have kk := go_perm (pf pre post [⟨b, .cells cs T⟩]).symm kk
  intro fr h hf ag hs
  obtain ⟨hbk, hlim⟩ := hs.at_ (i := 0) rfl
  obtain ⟨f, hnb, rfl⟩ := hv fr ag
  obtain ⟨fr', hput⟩ : ∃ fr', fr.put X.nt (some d) (f b) = some fr' := ⟨_, put_some hn _ _⟩
  have hfr : fr' = fr.set d (f b) := by rw [put_some hn] at hput; exact (Option.some.inj hput).symm
  refine Dn.of_eq (fun n => ?_) (kk fr' (h.set b (.cells cs T)) hf (by rw [hfr]; exact ag.set d true _) (hs.store (i := 0) rfl _))
  have hw : wantedV r fr ⟨some d, op, ty, pos, aft, none⟩ = true := rfl
  simp only [exec, stepIt, runSched, ho, hw, opS, ha, hb, rsvV, hnb, hbk, chkR, cond_true, hput]
theorem go_salloc {r : Array Oper} {sl : List (Nat × Nat)} {i d b : Nat} {L : List (Nat × List Nat)} {t : TypeId} {z : Value} {ty : TypeId} {pos : String} {aft : Array Edge} {cs : List Value}
    (ho : r[i]? = some ⟨some d, .alloc t, ty, pos, aft, none⟩) (hn : Nat.blt d X.nt = true) (hb : slotL sl i = some b) (hz : zeroOf X.E.P t = some z) (hc : z.cells.toList = cs)
    {segs' : List (List Blk)} (hg : SetSeg [⟨b, .dead⟩] [⟨b, .cells cs t⟩] segs segs')
    (kk : Goes X (.sops r sl L :: st) ((d, true, .pointer (some ⟨b, 0, none⟩)) :: l) segs'.flatten h0) : Goes X (.sops r sl ((i, []) :: L) :: st) l segs.flatten h0 := by
  subst hc
  exact go_snew ho rfl hn hb (fun fr _ => ⟨ptrTo, by simp only [newB, hz], rfl⟩) hg kk
theorem go_sbox {r : Array Oper} {sl : List (Nat × Nat)} {i d b : Nat} {L : List (Nat × List Nat)} {t : TypeId} {x : Operand} {v : Value} {ty : TypeId} {pos : String} {aft : Array Edge} {cs : List Value}
    (ho : r[i]? = some ⟨some d, .box t x, ty, pos, aft, none⟩) (hn : Nat.blt d X.nt = true) (hb : slotL sl i = some b) (hx : OP l true x v) (hc : v.cells.toList = cs)
    {segs' : List (List Blk)} (hg : SetSeg [⟨b, .dead⟩] [⟨b, .cells cs t⟩] segs segs')
    (kk : Goes X (.sops r sl L :: st) ((d, true, .pointer (some ⟨b, 0, none⟩)) :: l) segs'.flatten h0) : Goes X (.sops r sl ((i, []) :: L) :: st) l segs.flatten h0 := by
  subst hc
  exact go_snew ho rfl hn hb (fun fr ag => ⟨ptrTo, by simp only [newB, hx fr ag rfl], rfl⟩) hg kk
theorem go_sbslice {r : Array Oper} {sl : List (Nat × Nat)} {i d b : Nat} {L : List (Nat × List Nat)} {t elem : TypeId} {len k : Nat} {ps : Array (Nat × Operand)} {vs : List (Nat × Value)} {z : Value} {ty : TypeId} {pos : String} {aft : Array Edge} {cs : List Value}
    (ho : r[i]? = some ⟨some d, .buildSlice t len ps, ty, pos, aft, none⟩) (hn : Nat.blt d X.nt = true) (hb : slotL sl i = some b) (hx : OPp l true ps.toList vs)
    (hu : X.E.P.underlying t = some (.slice elem)) (hk : sz X.E.P elem = some k) (hz : zeroOf X.E.P elem = some z) (hs : (Nat.ble (len * k) 16777216 && Nat.beq z.cells.size k) = true)
    (hc : fillL (fun i => some (i * k, k)) (repZ z.cells.toList len) vs = some cs)
    {segs' : List (List Blk)} (hg : SetSeg [⟨b, .dead⟩] [⟨b, .cells cs elem⟩] segs segs')
    (kk : Goes X (.sops r sl L :: st) ((d, true, .slice (some ⟨b, 0, none⟩) len len) :: l) segs'.flatten h0) : Goes X (.sops r sl ((i, []) :: L) :: st) l segs.flatten h0 := by
  exact go_snew ho rfl hn hb (fun fr ag => ⟨fun b => .slice (some ⟨b, 0, none⟩) len len, by simp only [newB, hx fr ag rfl, hu, hk, hz, hs, cond_true, hc], rfl⟩) hg kk
end
/-- Told from cells that are given up. -/
theorem g_retS {X : Cx} {l : L} {h0 : Heap} {st : List It} {segs s1 s2 : List (List Blk)} {vs : List Value} (s : s1.Sublist segs) (p : s1.Perm s2) (h : RS X l segs.flatten h0 X.res vs) (hq : ∀ h1 hf, Has s2.flatten h0 h1 hf → X.Q (packV vs) h1) : Goes X (.code .ret :: st) l segs.flatten h0 :=
  g_ret h fun h1 _ hs => (hs.sub (sub_flat s)).elim fun hf' hs' => hq h1 hf' (hs'.perm p.flatten)
theorem g_endS {X : Cx} {l : L} {h0 : Heap} {segs s1 s2 : List (List Blk)} {vs : List Value} (s : s1.Sublist segs) (p : s1.Perm s2) (h : RS X l segs.flatten h0 X.res vs) (hq : ∀ h1 hf, Has s2.flatten h0 h1 hf → X.Q (packV vs) h1) : Goes X [] l segs.flatten h0 :=
  g_end h fun h1 _ hs => (hs.sub (sub_flat s)).elim fun hf' hs' => hq h1 hf' (hs'.perm p.flatten)
end Go.Proofs.Ytcjcbcmapjcfnaa.V
