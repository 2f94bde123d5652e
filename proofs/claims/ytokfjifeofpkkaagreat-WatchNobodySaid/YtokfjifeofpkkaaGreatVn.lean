/- Maps whose elements are rows; what is clipped, and appended to.
   No condition: these are laws of the clean machine. -/
import Derived.Test.YtokfjifeofpkkaaGreatVc
import Derived.Test.YtokfjifeofpkkaaGreatMb
namespace Go.Proofs.YtokfjifeofpkkaaGreat.V
open Go
set_option linter.unusedVariables false
set_option linter.unusedSimpArgs false
def goodA (a : Option Addr) : Prop := ∀ a0, a = some a0 → a0.spot ≠ some 2
theorem goodA_none : goodA none := fun _ h => by cases h
theorem AccR.good {α : Type} {R : Rep α} {elem : TypeId} {h : Heap} {tl : List Blk} {p : Option Addr} {xs : List α} (a : AccR R elem h tl (.slice p xs.length xs.length) xs) : goodA p := by
 obtain ⟨_, ⟨h1, ⟨q, h2, h3⟩, _⟩ | ⟨b, rows, h2, _⟩⟩ := a
 ·
  subst h1
  have : p = q := by simpa using h2
  subst this
  intro a0 e
  rw [h3 a0 e]; intro q; cases q
 ·
  have : p = some ⟨b, 0, some 0⟩ := by simpa using h2
  subst this
  intro a0 e
  cases e; intro q; cases q
theorem AccR.first {α : Type} {R : Rep α} {elem : TypeId} {h0 : Heap} {tl : List Blk} {p : Option Addr} {xs : List α} (a : AccR R elem h0 tl (.slice p xs.length xs.length) xs) (hk : 0 < R.k) :
 ∃ rows, Rws R h0 rows xs ∧ ∀ (own : List Blk) (h' hf : Heap), (∀ e ∈ tl, e ∈ own) → Has own h0 h' hf → firstV h' R.k xs.length (.slice p xs.length xs.length) = some rows.flatten := by
 obtain ⟨_, ⟨h1, ⟨q, h2, h3⟩, _⟩ | ⟨b, rows, h2, h3, h4⟩⟩ := a
 ·
  subst h1
  refine ⟨[], ⟨rfl, fun i row x hr _ => by simp at hr⟩, fun own h' hf _ _ => ?_⟩
  unfold firstV
  cases p with
  | none => rfl
  | some a0 =>
   have : Nat.beq (([] : List α).length * R.k) 0 = true := by simp
   rw [this]; rfl
 ·
  have : p = some ⟨b, 0, some 0⟩ := by simpa using h2
  subst this h3
  refine ⟨rows, h4, fun own h' hf hm hs => ?_⟩
  have hb := (hs.blk _ (hm _ List.mem_cons_self)).1
  dsimp only at hb
  have fl := h4.flen
  unfold firstV
  dsimp only
  cases e0 : Nat.beq (xs.length * R.k) 0 with
  | true =>
   have : rows.flatten = [] := List.eq_nil_of_length_eq_zero (by rw [fl]; exact Nat.eq_of_beq_eq_true e0)
   rw [this]; rfl
  | false =>
   have q3 : Nat.ble (0 + xs.length * R.k) rows.flatten.length = true := Nat.ble_eq_true_of_le (by omega)
   simp only [cond_false, elemAddr, cellsAt, Nat.zero_add, hb]
   rw [Nat.zero_add] at q3
   rw [q3]
   simp only [cond_true, List.drop_zero, Option.some.injEq]
   rw [← fl, List.take_length]
def MR {K α : Type} (R : Rep α) (h : Heap) (raw : List (K × Value)) (m : List (K × List α)) : Prop :=
 raw.length = m.length ∧ ∀ (i : Nat) (e : K × List α), m[i]? = some e → ∃ a c, raw[i]? = some (e.1, .slice a e.2.length c) ∧ RL R h a c e.2 ∧ goodA a
section
variable {K α : Type} {R : Rep α} {h h' : Heap} {raw : List (K × Value)} {m : List (K × List α)}
theorem MR.nil : MR R h ([] : List (K × Value)) ([] : List (K × List α)) := ⟨rfl, fun i e h => by simp at h⟩
theorem MR.ext (s : MR R h raw m) (e : Kn h h') : MR R h' raw m := ⟨s.1, fun i x hx => by
 obtain ⟨a, c, h1, h2, h3⟩ := s.2 i x hx
 exact ⟨a, c, h1, h2.ext e, h3⟩⟩
theorem MR.keys (s : MR R h raw m) : raw.map (·.1) = m.map (·.1) := by
 apply List.ext_getElem?
 intro i
 rw [List.getElem?_map, List.getElem?_map]
 cases e : m[i]? with
 | some x =>
  obtain ⟨a, c, h1, _⟩ := s.2 i x e
  rw [h1]; rfl
 | none =>
  have h1 := List.getElem?_eq_none_iff.mp e
  rw [List.getElem?_eq_none (by rw [s.1]; exact h1)]; rfl
theorem MR.tail {x : K × Value} {y : K × List α} (s : MR R h (x :: raw) (y :: m)) : MR R h raw m := ⟨by have := s.1; simpa using this, fun i e he => s.2 (i + 1) e he⟩
theorem MR.find [DecidableEq K] (k : K) : ∀ {raw : List (K × Value)} {m : List (K × List α)} (i : Nat), MR R h raw m →
 (mfind raw k i = none ∧ mfind m k i = none) ∨ ∃ j x a c, mfind raw k i = some (i + j, .slice a x.length c) ∧ mfind m k i = some (i + j, x) ∧ m[j]? = some (k, x) ∧ RL R h a c x ∧ goodA a
 | [], [], i, _ => .inl ⟨rfl, rfl⟩
 | [], _ :: _, _, s => by have := s.1; simp at this
 | _ :: _, [], _, s => by have := s.1; simp at this
 | e :: raw, x :: m, i, s => by
  obtain ⟨a, c, h1, h2, h3⟩ := s.2 0 x rfl
  have h1 : e = (x.1, .slice a x.2.length c) := by simpa using h1
  subst h1
  unfold mfind
  by_cases q : k = x.1
  ·
   rw [if_pos q, if_pos q]
   exact .inr ⟨0, x.2, a, c, rfl, rfl, by rw [q]; rfl, h2, h3⟩
  ·
   rw [if_neg q, if_neg q]
   rcases MR.find k (i + 1) s.tail with h4 | ⟨j, y, a, c, h4, h5, h6, h7⟩
   ·
    exact .inl h4
   ·
    exact .inr ⟨j + 1, y, a, c, by rw [h4]; congr 2; omega, by rw [h5]; congr 2; omega, h6, h7⟩
theorem MR.get [DecidableEq K] (s : MR R h raw m) (k : K) : ∃ a c, (mget raw k).getD (.slice none 0 0) = .slice a ((mget m k).getD []).length c ∧ RL R h a c ((mget m k).getD []) ∧ goodA a := by
 unfold mget
 rcases MR.find k 0 s with ⟨h1, h2⟩ | ⟨j, x, a, c, h1, h2, _, h3, h4⟩
 ·
  rw [h1, h2]; exact ⟨none, 0, rfl, RL.nil _ _ _, goodA_none⟩
 ·
  rw [h1, h2]; exact ⟨a, c, rfl, h3, h4⟩
theorem MR.isSome [DecidableEq K] (s : MR R h raw m) (k : K) : (mget raw k).isSome = (mget m k).isSome := by
 unfold mget
 rcases MR.find k 0 s with ⟨h1, h2⟩ | ⟨j, x, a, c, h1, h2, _⟩
 ·
  rw [h1, h2]; rfl
 ·
  rw [h1, h2]; rfl
theorem MR.set [DecidableEq K] (s : MR R h raw m) (k : K) {a : Option Addr} {c : Nat} {x : List α} (hx : RL R h a c x) (ha : goodA a) : MR R h (mset raw k (.slice a x.length c)) (mset m k x) := by
 unfold mset
 rcases MR.find k 0 s with ⟨h1, h2⟩ | ⟨j, y, b, d, h1, h2, h3, _⟩
 ·
  rw [h1, h2]
  refine ⟨by simp [s.1], fun i e he => ?_⟩
  dsimp only at he ⊢
  rcases Nat.lt_or_ge i m.length with q | q
  ·
   rw [List.getElem?_append_left q] at he
   obtain ⟨a', c', g1, g2⟩ := s.2 i e he
   exact ⟨a', c', by rw [List.getElem?_append_left (by rw [s.1]; exact q)]; exact g1, g2⟩
  ·
   rw [List.getElem?_append_right q] at he
   have hi : i - m.length = 0 := by
    rcases Nat.eq_zero_or_pos (i - m.length) with z | z
    ·
     exact z
    ·
     rw [List.getElem?_eq_none (by simp; omega)] at he; cases he
   rw [hi] at he
   have : (k, x) = e := by simpa using he
   subst this
   exact ⟨a, c, by rw [List.getElem?_append_right (by rw [s.1]; exact q), s.1, hi]; rfl, hx, ha⟩
 ·
  rw [h1, h2]
  refine ⟨by simp [s.1], fun i e he => ?_⟩
  dsimp only at he ⊢
  have hj : j < m.length := (List.getElem?_eq_some_iff.mp h3).1
  rw [Nat.zero_add] at he ⊢
  by_cases q : j = i
  ·
   subst q
   rw [List.getElem?_set_self hj] at he
   have : (k, x) = e := by simpa using he
   subst this
   exact ⟨a, c, List.getElem?_set_self (by rw [s.1]; exact hj), hx, ha⟩
  ·
   rw [List.getElem?_set_ne q] at he ⊢
   exact s.2 i e he
end
section
variable {X : Cx} {st : List It} {l : L} {segs : List (List Blk)} {h0 : Heap}
variable {r : Array Oper} {os : List Oper} {d : Nat} {ty : TypeId} {pos : String} {aft : Array Edge}
end
section
variable {X : Cx} {st : List It} {l : L} {segs : List (List Blk)} {own : List Blk} {h0 : Heap}
theorem go_regA1 {id : Nat} {ops : Array Oper} {L : List (Nat × List Nat)} {i1 : Nat} (hq : quietR X.E.P ops = false) (hL : sched ops = L) (hS : ∀ n, slots ops n = [(i1, n)])
 (g : ∀ b1, Goes X (.sops ops [(i1, b1)] L :: st) l ([⟨b1, .dead⟩] :: segs).flatten h0) : Goes X (.code (.region id ops true) :: st) l segs.flatten h0 := by
 intro fr h hf ag hs
 refine Dn.of_eq (fun n => ?_) (g h.n fr (h.alloc .dead) _ ag (hs.alloc .dead))
 simp only [exec, stepIt, evalC, hq, runDrawn, hS, hL, cond_true, cond_false, List.length_cons, List.length_nil, resv]
 rfl
theorem go_snew {r : Array Oper} {sl : List (Nat × Nat)} {i d b : Nat} {L : List (Nat × List Nat)} {op : Op} {ty : TypeId} {pos : String} {aft : Array Edge} {cs : List Value} {T : TypeId} {v : Value}
 (ho : r[i]? = some ⟨some d, op, ty, pos, aft, none⟩) (ha : allocK op = true) (hn : Nat.blt d X.nt = true) (hb : slotL sl i = some b)
 (hv : ∀ fr, Agree l fr → ∃ f, newB X.E fr op = some (cs, T, f) ∧ f b = v) {segs' : List (List Blk)} (hg : SetSeg [⟨b, .dead⟩] [⟨b, .cells cs T⟩] segs segs')
 (kk : Goes X (.sops r sl L :: st) ((d, true, v) :: l) segs'.flatten h0) : Goes X (.sops r sl ((i, []) :: L) :: st) l segs.flatten h0 := by
 obtain ⟨pre, post, rfl, rfl⟩ := hg.pp
 refine go_perm (pf _ _ _) ?_
 have kk := go_perm (pf pre post [⟨b, .cells cs T⟩]).symm kk
 intro fr h hf ag hs
 obtain ⟨hbk, hlim⟩ := hs.at_ (i := 0) rfl
 obtain ⟨f, hnb, rfl⟩ := hv fr ag
 obtain ⟨fr', hput⟩ : ∃ fr', fr.put X.nt (some d) (f b) = some fr' := ⟨_, put_some hn _ _⟩
 have hfr : fr' = fr.set d (f b) := by rw [put_some hn] at hput; exact (Option.some.inj hput).symm
 refine Dn.of_eq (fun n => ?_) (kk fr' (h.set b (.cells cs T)) hf (by rw [hfr]; exact ag.set d true _) (hs.store (i := 0) rfl _))
 have hw : wantedV r fr ⟨some d, op, ty, pos, aft, none⟩ = true := rfl
 simp only [exec, stepIt, runSched, ho, hw, opS, ha, hb, rsvV, hnb, hbk, chkR, cond_true, hput]
theorem go_salloc {r : Array Oper} {sl : List (Nat × Nat)} {i d b : Nat} {L : List (Nat × List Nat)} {t : TypeId} {z : Value} {ty : TypeId} {pos : String} {aft : Array Edge} {cs : List Value}
 (ho : r[i]? = some ⟨some d, .alloc t, ty, pos, aft, none⟩) (hn : Nat.blt d X.nt = true) (hb : slotL sl i = some b) (hz : zeroOf X.E.P t = some z) (hc : z.cells.toList = cs)
 {segs' : List (List Blk)} (hg : SetSeg [⟨b, .dead⟩] [⟨b, .cells cs t⟩] segs segs')
 (kk : Goes X (.sops r sl L :: st) ((d, true, .pointer (some ⟨b, 0, none⟩)) :: l) segs'.flatten h0) : Goes X (.sops r sl ((i, []) :: L) :: st) l segs.flatten h0 := by
 subst hc
 exact go_snew ho rfl hn hb (fun fr _ => ⟨ptrTo, by simp only [newB, hz], rfl⟩) hg kk
end
end Go.Proofs.YtokfjifeofpkkaaGreat.V
