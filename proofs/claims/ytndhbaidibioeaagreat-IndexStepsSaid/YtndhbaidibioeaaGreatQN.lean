/- What events make of a map, plainly.
   No condition: these are laws of plain functions. -/
import Derived.Test.YtndhbaidibioeaaGreatPF
import Derived.Test.YtndhbaidibioeaaGreatMb
import Derived.Test.YtndhbaidibioeaaGreatQB
namespace Go.Proofs.YtndhbaidibioeaaGreat.V
open Go
set_option linter.unusedVariables false
set_option linter.unusedSimpArgs false
def inR (r : TRange) (k : ByteArray) : Bool := leB r.From k && (eqB r.To ByteArray.empty || lessB k r.To)
theorem keyIn_eq (r : TRange) (k : ByteArray) : F_key_In r k = some (inR r k) := by
 unfold F_key_In inR; cases leB r.From k <;> cases eqB r.To ByteArray.empty <;> rfl
def kv (e : TEvent) : TKV := ⟨e.Key, e.Val, e.Rev⟩
def So (m : List TKV) : Prop := m.Pairwise (fun a b => lessB a.Key b.Key = true)
theorem So.nodup {m : List TKV} (h : So m) : m.Pairwise (fun a b => a.Key ≠ b.Key) := h.imp (fun {a b} q e => by rw [e, less_irrefl] at q; cases q)
theorem bl_zero : ∀ x k : List UInt8, Op.bytesLess x (k ++ [0]) = (Op.bytesLess x k || x == k)
 | [], [] => rfl
 | [], b :: k => by simp [Op.bytesLess]
 | a :: x, [] => by
  have h : ¬ a < 0 := by intro h; exact absurd h (by simp [UInt8.lt_iff_toNat_lt])
  cases x <;> simp [Op.bytesLess, h]
 | a :: x, b :: k => by
  have ih := bl_zero x k
  simp only [List.cons_append, Op.bytesLess, ih]
  by_cases h : a = b
  ·
   subst h
   simp [UInt8.lt_irrefl]
  ·
   have h2 : (a == b) = false := by simpa using h
   simp [h2, h]
theorem less_zero (x k : ByteArray) : lessB x (k ++ (⟨#[0]⟩ : ByteArray)) = leB x k := by
 unfold leB lessB eqB
 have e : (k ++ (⟨#[0]⟩ : ByteArray)).toList = k.toList ++ [0] := by
  rw [ByteArray.toList_eq, ByteArray.toList_eq]
  simp [ByteArray.data_append]
 rw [e, bl_zero]
set_option maxRecDepth 100000
def Chn (A : List Tchain_version) : Nat → List TEvent → Prop
 | id, [] => id = 0
 | id, e :: r => ∃ (i m : Nat) (v : Tchain_version), id = i + 1 ∧ A[i]? = some v ∧ v.Event = e ∧ v.ahead = (m : Int) ∧ Chn A m r
theorem Chn.app {A B : List Tchain_version} : ∀ {id : Nat} {r : List TEvent}, Chn A id r → Chn (A ++ B) id r
 | _, [], h => h
 | _, e :: r, ⟨i, m, v, h1, h2, h3, h4, h5⟩ => ⟨i, m, v, h1, by rw [List.getElem?_append_left (List.getElem?_eq_some_iff.mp h2).1]; exact h2, h3, h4, h5.app⟩
theorem Chn.le {A : List Tchain_version} {id : Nat} {r : List TEvent} (h : Chn A id r) : id ≤ A.length := by
 cases r with
 | nil => have h : id = 0 := h; omega
 | cons e r =>
  obtain ⟨i, m, v, h1, h2, _⟩ := h
  have := (List.getElem?_eq_some_iff.mp h2).1
  omega
theorem wrapu_n {n : Nat} (h : n < 9223372036854775808) : IntKind.u64.wrap (n : Int) = (n : Int) := wrap_u64 (by omega) (by omega)
abbrev v0 : Tchain_version := ⟨⟨0, ByteArray.empty, ByteArray.empty, false⟩, 0⟩
theorem of_zero (S : Ochain_Store) : F_chain_Store_of S 0 = some (v0, false, S) := rfl
theorem of_some {S : Ochain_Store} {i : Nat} {v : Tchain_version} (hl : S.all.length < 1000000) (h : S.all[i]? = some v) : F_chain_Store_of S ((i + 1 : Nat) : Int) = some (v, true, S) := by
 have hi := (List.getElem?_eq_some_iff.mp h).1
 unfold F_chain_Store_of
 rw [if_neg (by rw [decide_eq_true_iff]; omega)]
 simp only [Option.bind_some]
 rw [wrapu_n (by omega), if_neg (by rw [decide_eq_true_iff]; omega), show (((i + 1 : Nat) : Int) - 1) = ((i : Nat) : Int) by omega, wrapu_n (by omega), getI_nat, h]
 rfl
def revOf : List TEvent → Int
 | [] => 0
 | e :: _ => e.Rev
theorem rev_ok {S : Ochain_Store} {id : Nat} {r : List TEvent} (hl : S.all.length < 1000000) (h : Chn S.all id r) : F_chain_Store_Rev S (id : Int) = some (revOf r, S) := by
 unfold F_chain_Store_Rev
 cases r with
 | nil => have h : id = 0 := h; subst h; rw [show ((0 : Nat) : Int) = 0 from rfl, of_zero]; rfl
 | cons e r =>
  obtain ⟨i, m, v, rfl, h2, h3, h4, h5⟩ := h
  rw [of_some hl h2, ← h3]; rfl
def look : List TEvent → Int → Option TKV
 | [], _ => none
 | e :: r, n => if e.Rev ≤ n then (if e.Del = true then none else some (kv e)) else look r n
theorem at_L1 {S : Ochain_Store} (hl : S.all.length < 1000000) (rev : Int) : ∀ (r : List TEvent) (m id : Nat), Chn S.all id r → r.length < m →
 ∃ v b, F_chain_Store_of S (id : Int) = some (v, b, S) ∧ F_chain_Store_At_L1 rev m b v S = some (match look r rev with | none => if r.all (fun e => decide (¬ e.Rev ≤ rev)) = true then .go S else .out (⟨ByteArray.empty, ByteArray.empty, 0⟩, false, S) | some x => .out (x, true, S))
 | [], 0, id, h, hm => by simp at hm
 | [], m + 1, id, h, hm => by
  have h : id = 0 := h
  subst h
  refine ⟨v0, false, of_zero S, ?_⟩
  rw [F_chain_Store_At_L1]; rfl
 | e :: r, 0, id, h, hm => by simp at hm
 | e :: r, m + 1, id, ⟨i, k, v, h1, h2, h3, h4, h5⟩, hm => by
  subst h1
  refine ⟨v, true, of_some hl h2, ?_⟩
  rw [F_chain_Store_At_L1, if_pos rfl, look, h3]
  by_cases q : e.Rev ≤ rev
  ·
   rw [if_neg (by rw [decide_eq_true_iff]; omega), if_pos q]
   by_cases d : e.Del = true
   ·
    rw [if_pos d, if_pos d]
    simp [q]
    intro h; omega
   ·
    rw [if_neg d, if_neg d]; rfl
  ·
   obtain ⟨v', b', g1, g2⟩ := at_L1 hl rev r m k h5 (by simp at hm; omega)
   rw [if_pos (by rw [decide_eq_true_iff]; omega), if_neg q, h4, g1]
   simp only [Option.bind_some]
   rw [g2]
   simp only [List.all_cons, q, not_false_eq_true, decide_true, Bool.true_and]
theorem at_ok {S : Ochain_Store} {n id : Nat} {r : List TEvent} (hl : S.all.length < 1000000) (rev : Int) (h : Chn S.all id r) (hn : r.length < n) :
 F_chain_Store_At n S (id : Int) rev = some (match look r rev with | none => (⟨ByteArray.empty, ByteArray.empty, 0⟩, false, S) | some x => (x, true, S)) := by
 obtain ⟨v, b, h1, h2⟩ := at_L1 hl rev r n id h hn
 unfold F_chain_Store_At
 rw [h1]
 simp only [Option.bind_some]
 rw [h2]
 cases look r rev with
 | some x => rfl
 | none =>
  dsimp only
  split <;> rfl
theorem grow1_ok {M : Omem_Mem} (h : M.cells.length + 1 ≤ 65536) : F_mem_Mem_Grow M 1 = some ((M.cells.length : Int), 0, ⟨M.cells ++ [0], M.count⟩) := by
 unfold F_mem_Mem_Grow
 rw [if_neg (by decide)]
 simp only [Option.bind_some]
 rw [wrap_id (by omega) (by omega), if_neg (by rw [decide_eq_true_iff]; omega)]
 have : mkZ (1 : Int) = some [0] := rfl
 rw [this]
 simp only [Option.bind_some]
 unfold F_mem_Mem_add
 rw [appL_ok (by simp; omega) (by omega) (by omega)]
 rfl
theorem ccell_ok {M : Omem_Mem} {S : Ochain_Store} (h : M.cells.length + 1 ≤ 65536) : F_chain_Store_Cell M S = some ((M.cells.length : Int), 0, ⟨M.cells ++ [0], M.count⟩, S) := by
 unfold F_chain_Store_Cell; rw [grow1_ok h]; rfl
theorem add_ok {S : Ochain_Store} {v : Tchain_version} (hl : S.all.length < 1000000) : F_chain_Store_add S [v] = some (((S.all.length + 1 : Nat) : Int), ⟨S.all ++ [v]⟩) := by
 unfold F_chain_Store_add
 rw [appL_ok (by simp; omega) (by omega) (by omega)]
 simp only [Option.bind_some]
 rw [show (S.all ++ [v]).length = S.all.length + 1 by simp, wrapu_n (by omega)]
set_option maxRecDepth 100000
abbrev Rsi := (Option Cli) × Obst_Tree × Omem_Mem × Ochain_Store × Oindex_Work
theorem rbi (o : Option Rsi) : (o.bind fun x => some (x.1, x.2.1, x.2.2.1, x.2.2.2.1, x.2.2.2.2)) = o := by cases o <;> rfl
abbrev Cfi := Obst_Tree × Omem_Mem × Ochain_Store × Oindex_Work × Option Cli
inductive Ri (n : Nat) : Nat → Obst_Tree → Omem_Mem → Ochain_Store → Oindex_Work → Option Cli → Cfi → Prop
 | refl {T : Obst_Tree} {M : Omem_Mem} {S : Ochain_Store} {W : Oindex_Work} {o : Option Cli} : Ri n 0 T M S W o (T, M, S, W, o)
 | step {k : Nat} {T T2 : Obst_Tree} {M M2 : Omem_Mem} {S S2 : Ochain_Store} {W W2 : Oindex_Work} {x : Cli} {o : Option Cli} {f : Cfi} (h : F_istep n T M S W x .u = some (o, T2, M2, S2, W2)) (r : Ri n k T2 M2 S2 W2 o f) : Ri n (k + 1) T M S W (some x) f
def Oi (n : Nat) (r : Option Rsi) (b : Nat) (P : Cfi → Prop) : Prop := ∃ o T M S W k f, r = some (o, T, M, S, W) ∧ k ≤ b ∧ Ri n k T M S W o f ∧ P f
theorem Oi.done {n b : Nat} {o : Option Cli} {T : Obst_Tree} {M : Omem_Mem} {S : Ochain_Store} {W : Oindex_Work} {P : Cfi → Prop} (h : P (T, M, S, W, o)) : Oi n (some (o, T, M, S, W)) b P := ⟨o, T, M, S, W, 0, _, rfl, Nat.zero_le _, .refl, h⟩
theorem Oi.step {n b : Nat} {x : Cli} {T : Obst_Tree} {M : Omem_Mem} {S : Ochain_Store} {W : Oindex_Work} {P : Cfi → Prop} {r : Option Rsi} (e : F_istep n T M S W x .u = r) (h : Oi n r b P) : Oi n (some (some x, T, M, S, W)) (b + 1) P := by
 obtain ⟨o, T2, M2, S2, W2, k, f, h1, h2, h3, h4⟩ := h
 exact ⟨some x, T, M, S, W, k + 1, f, rfl, by omega, .step (e.trans h1) h3, h4⟩
theorem Oi.le {n b c : Nat} {P : Cfi → Prop} {r : Option Rsi} (h : Oi n r b P) (hb : b ≤ c) : Oi n r c P := by
 obtain ⟨o, T2, M2, S2, W2, k, f, h1, h2, h3, h4⟩ := h
 exact ⟨o, T2, M2, S2, W2, k, f, h1, by omega, h3, h4⟩
abbrev call (C : Obst_Call) (o : Option Clo) : Obst_Call_2 := ⟨C.told_Ok, C.told_Key, C.told_Val, C.told_Err, o⟩
theorem istep_some {n : Nat} {T T2 : Obst_Tree} {M M2 : Omem_Mem} {S S2 : Ochain_Store} {W W2 : Oindex_Work} {x : Cli} {o : Option Cli} (h : F_istep n T M S W x .u = some (o, T2, M2, S2, W2)) :
 F_index_Work_Step n T M S ⟨some x, W.cell, W.bad, W.found⟩ = some (o.isNone, T2, M2, S2, ⟨o, W2.cell, W2.bad, W2.found⟩) := by
 unfold F_index_Work_Step
 rw [if_neg (by simp)]
 simp only [Option.bind_some]
 rw [h]
 rfl
theorem irunL {n : Nat} {f : Cfi} (hf : f.2.2.2.2 = none) : ∀ (k m : Nat) (T : Obst_Tree) (M : Omem_Mem) (S : Ochain_Store) (W : Oindex_Work) (o : Option Cli), Ri n k T M S W o f → k < m →
 F_index_Run_L1 n m (T, M, S) ⟨o, W.cell, W.bad, W.found⟩ = some ((f.1, f.2.1, f.2.2.1), ⟨none, f.2.2.2.1.cell, f.2.2.2.1.bad, f.2.2.2.1.found⟩)
 | k, 0, _, _, _, _, _, _, hm => by omega
 | 0, m + 1, T, M, S, W, o, h, hm => by
  cases h
  have hf : o = none := hf
  subst hf
  rw [F_index_Run_L1]
  rfl
 | k + 1, m + 1, T, M, S, W, _, h, hm => by
  cases h with
  | @step _ _ T2 _ M2 _ S2 _ W2 _ o _ h r =>
   rw [F_index_Run_L1]
   dsimp only
   rw [istep_some h]
   simp only [Option.bind_some]
   cases o with
   | none =>
    cases r
    rfl
   | some y =>
    rw [if_pos (by rfl)]
    exact irunL hf k m T2 M2 S2 W2 (some y) r (by omega)
section
variable {T : Obst_Tree} {M : Omem_Mem} {l r : BT} {ks : List Tbst_node} {j n : Nat} {k : ByteArray} {v : Int}
end
set_option maxRecDepth 100000
def hist (es : List TEvent) (k : ByteArray) : List TEvent := (es.filter (fun e => eqB e.Key k)).reverse
theorem hist_app (es : List TEvent) (e : TEvent) (k : ByteArray) : hist (es ++ [e]) k = if e.Key = k then e :: hist es k else hist es k := by
 unfold hist
 rw [List.filter_append, List.reverse_append]
 by_cases h : e.Key = k
 ·
  rw [if_pos h]; simp [h]
 ·
  rw [if_neg h]; simp [eqB_ne.mpr h]
structure XI (T : Obst_Tree) (M : Omem_Mem) (S : Ochain_Store) (l r : BT) (ks : List Tbst_node) (j : Nat) (es : List TEvent) : Prop where
 inv : BInv T M l r ks j
 cell : ∀ y ∈ ks, ∃ a id : Nat, y.val = (a : Int) ∧ a < M.cells.length ∧ Free T.nodes a ∧ M.cells[a]? = some (id : Int) ∧ Chn S.all id (hist es y.key)
 inj : ∀ y ∈ ks, ∀ z ∈ ks, y.val = z.val → y.key = z.key
 all : ∀ e ∈ es, ∃ y ∈ ks, y.key = e.Key
 slen : S.all.length ≤ es.length
 cl : Clean T.nodes M.cells (.nd 0 l r)
section
variable {T : Obst_Tree} {M : Omem_Mem} {S : Ochain_Store} {l r : BT} {ks : List Tbst_node} {j n b : Nat} {es : List TEvent} {k : ByteArray} {W : Oindex_Work} {P : Cfi → Prop}
theorem XI.cells {M' : Omem_Mem} (X : XI T M S l r ks j es) (h : M'.cells = M.cells) : XI T M' S l r ks j es :=
 ⟨X.inv.cells h, by rw [h]; exact X.cell, X.inj, X.all, X.slen, by rw [h]; exact X.cl⟩
theorem XI.mono {j' : Nat} (X : XI T M S l r ks j es) (h : j ≤ j') : XI T M S l r ks j' es := ⟨X.inv.mono h, X.cell, X.inj, X.all, X.slen, X.cl⟩
theorem nth_app {α : Type} {l : List α} {a : Nat} {v : α} {m : List α} (h : l[a]? = some v) : (l ++ m)[a]? = some v := by
 rw [List.getElem?_append_left (List.getElem?_eq_some_iff.mp h).1]; exact h
theorem BInv.more (I : BInv T M l r ks j) (c : Int) : BInv T ⟨M.cells ++ [0], c⟩ l r ks (j + 1) := by
 obtain ⟨a1, a2, a3, a4, a5, a6, a7, a8, b1, b2, b3, bi⟩ := I
 refine ⟨a1.frame (fun _ _ h => h) (fun _ _ _ _ _ _ _ _ _ h => nth_app h), a2, a3, ⟨a4.apart, fun i x c' h1 h2 => ?_⟩, a5, a6, a7, a8, by omega, by omega, ?_, by omega⟩
 ·
  have := a4.room i x c' h1 h2
  simp only [List.length_append, List.length_singleton]; omega
 ·
  simp only [List.length_append, List.length_singleton]; omega
theorem XI.more (X : XI T M S l r ks j es) (c : Int) : XI T ⟨M.cells ++ [0], c⟩ S l r ks (j + 1) es := by
 refine ⟨X.inv.more c, fun y hy => ?_, X.inj, X.all, X.slen, fun i hi x q w hx hq hw => ?_⟩
 ·
  obtain ⟨a, id, h1, h2, h3, h4, h5⟩ := X.cell y hy
  exact ⟨a, id, h1, by simp only [List.length_append, List.length_singleton]; omega, h3, nth_app h4, h5⟩
 ·
  have hr := X.inv.dis.room i x q hx hq
  rw [List.getElem?_append_left (by omega)] at hw
  exact X.cl i hi x q w hx hq hw
theorem Clean.set {a : Nat} {v : Int} {t : BT} (h : Clean T.nodes M.cells t) (hf : Free T.nodes a) : Clean T.nodes (M.cells.set a v) t := fun i hi x c w hx hc hw => by
 have := hf i x c hx hc
 rw [gs_ne (by omega)] at hw
 exact h i hi x c w hx hc hw
theorem BInv.set (I : BInv T M l r ks j) {a : Nat} {v c : Int} (hf : Free T.nodes a) : BInv T ⟨M.cells.set a v, c⟩ l r ks j := by
 obtain ⟨a1, a2, a3, a4, a5, a6, a7, a8, b1, b2, b3, bi⟩ := I
 refine ⟨a1.frame (fun _ _ h => h) (fun i _ x c' h1 h2 q v' hq h => ?_), a2, a3, ⟨a4.apart, fun i x c' h1 h2 => ?_⟩, a5, a6, a7, a8, b1, b2, by simpa using b3, bi⟩
 ·
  rw [gs_ne]
  ·
   exact h
  ·
   have := hf i x c' h1 h2; omega
 ·
  have := a4.room i x c' h1 h2
  simpa using this
theorem wrap_cell {a : Nat} (h : a < 1000000) : IntKind.i64.wrap (a : Int) = (a : Int) ∧ IntKind.u64.wrap (a : Int) = (a : Int) := ⟨wrap_n (by omega), wrapu_n (by omega)⟩
theorem ans_eq (C : Obst_Call) : F_bst_Call_Answer T M (call C none) = some (⟨C.told_Ok, C.told_Key, C.told_Val, C.told_Err⟩, true, T, M, call C none) := rfl
end
set_option maxRecDepth 100000
section
variable {T : Obst_Tree} {M : Omem_Mem} {S : Ochain_Store} {l r : BT} {ks : List Tbst_node} {j n b : Nat} {es : List TEvent} {k : ByteArray} {W : Oindex_Work} {P : Cfi → Prop}
abbrev findC (k : ByteArray) : Obst_Call_2 := call ⟨false, k, 0, 0⟩ (some (.c_down_1 ⟨0, 0, 0, 0, 0, -1⟩ ⟨k, 0, 0, 0⟩ (.c_Find_1_1 ⟨k, 0, 0, 0⟩)))
abbrev seekC (k : ByteArray) : Obst_Call_2 := call ⟨false, k, 0, 0⟩ (some (.c_down_1 ⟨0, 0, 0, 0, 0, -1⟩ ⟨k, 0, 0, 0⟩ (.c_Seek_1_1 ⟨k, 0, 0, 0⟩)))
abbrev ensC (k : ByteArray) (th : Cli) : Cli := .c_after_1 (findC k) (.c_Work_ensure_1 th k)
abbrev walkC (g : TRange) (f : ByteArray) (rev : Int) : Cli := .c_after_1 (seekC f) (.c_Work_walk_1 g rev)
theorem beg_ens {th : Cli} {rc : RCi} {q : Nat} (I : BInv T M l r ks j) : F_index_Work_ensure q rc T M S W k th = some (some (ensC k th), T, M, S, W) := by
 obtain ⟨x0, h0, hc⟩ := I.root
 unfold F_index_Work_ensure F_index_after_
 rw [beg_find h0 hc]; rfl
theorem beg_walk {rc : RCi} {q : Nat} {g : TRange} {f : ByteArray} {rev : Int} (I : BInv T M l r ks j) : F_index_Work_walk q rc T M S W g f rev = some (some (walkC g f rev), T, M, S, W) := by
 obtain ⟨x0, h0, hc⟩ := I.root
 unfold F_index_Work_walk F_index_after_
 rw [beg_seek h0 hc]; rfl
theorem put_beg {e : TEvent} (I : BInv T M l r ks j) : F_index_Index_Put n T M S e = some (⟨some (ensC e.Key (.c_Index_Put_1_1 e)), 0, 0, []⟩, T, M, S) := by
 unfold F_index_Index_Put F_index_Index_work_index_Index_Put_1 F_index_Index_Put_1
 rw [beg_ens I]; rfl
theorem ensure_beg (I : BInv T M l r ks j) : F_index_Index_Ensure n T M S k = some (⟨some (ensC k .c_end), 0, 0, []⟩, T, M, S) := by
 unfold F_index_Index_Ensure F_index_Index_work_index_Index_Ensure_1 F_index_Index_Ensure_1
 rw [beg_ens I]; rfl
theorem walk_beg {g : TRange} {rev : Int} (I : BInv T M l r ks j) : F_index_Index_Walk n T M S g rev = some (⟨some (walkC g g.From rev), 0, 0, []⟩, T, M, S) := by
 unfold F_index_Index_Walk F_index_Index_work_index_Index_Walk_1 F_index_Index_Walk_1
 rw [beg_walk I]; rfl
theorem get_beg {rev : Int} (I : BInv T M l r ks j) : F_index_Index_Get n T M S k rev = some (⟨some (.c_after_1 (findC k) (.c_Index_Get_1_1 rev)), 0, 0, []⟩, T, M, S) := by
 obtain ⟨x0, h0, hc⟩ := I.root
 unfold F_index_Index_Get F_index_Index_work_index_Index_Get_1 F_index_Index_Get_1 F_index_after_
 rw [beg_find h0 hc]; rfl
theorem end_step {q : Nat} : F_istep (q + 1) T M S W .c_end .u = some (none, T, M, S, W) := rfl
theorem put_step1 {q a id : Nat} {e : TEvent} {h : List TEvent} {la : Int} (hl : S.all.length < 1000000) (hc : M.cells[a]? = some (id : Int)) (hk : Chn S.all id h) (hr : revOf h < e.Rev) :
 F_istep (q + 1) T M S W (.c_after_1_v1 ⟨a, e.Rev, e.Key, e.Val, e.Del, la, false, false⟩ .c_end) .u = some (some (.c_after_1_v1 ⟨a, e.Rev, e.Key, e.Val, e.Del, id, true, false⟩ .c_end), T, tick M, S, W) := by
 have q1 : F_istep (q + 1) T M S W (.c_after_1_v1 ⟨a, e.Rev, e.Key, e.Val, e.Del, la, false, false⟩ .c_end) .u = F_index_after_1_ (F_istep q) T M S W ⟨a, e.Rev, e.Key, e.Val, e.Del, la, false, false⟩ .c_end := rfl
 rw [q1]
 unfold F_index_after_1_ F_chain_Put_Step
 rw [if_neg (by simp), if_pos (by rfl), load_ok hc]
 simp only [Option.bind_some]
 rw [rev_ok hl hk]
 simp only [Option.bind_some]
 rw [show decide (revOf h ≥ e.Rev) = false from decide_eq_false (by omega), if_neg (by simp)]
theorem put_step2 {q a id : Nat} {e : TEvent} (hl : S.all.length < 1000000) (hc : M.cells[a]? = some (id : Int)) :
 F_istep (q + 2) T M S W (.c_after_1_v1 ⟨a, e.Rev, e.Key, e.Val, e.Del, id, true, false⟩ .c_end) .u = some (none, T, setc M a ((S.all.length + 1 : Nat) : Int), ⟨S.all ++ [⟨e, id⟩]⟩, W) := by
 have q1 : F_istep (q + 2) T M S W (.c_after_1_v1 ⟨a, e.Rev, e.Key, e.Val, e.Del, id, true, false⟩ .c_end) .u = F_index_after_1_ (F_istep (q + 1)) T M S W ⟨a, e.Rev, e.Key, e.Val, e.Del, id, true, false⟩ .c_end := rfl
 rw [q1]
 unfold F_index_after_1_ F_chain_Put_Step
 rw [if_neg (by simp), if_neg (by simp), add_ok hl]
 simp only [Option.bind_some]
 rw [cas_ok hc]
 simp only [Option.bind_some]
 rw [if_pos trivial]
 simp only [end_step, Option.bind_some]
theorem XI.put {a id : Nat} {e : TEvent} {c : Int} (X : XI T M S l r ks j es) {y0 : Tbst_node} (hy0 : y0 ∈ ks) (hk0 : y0.key = e.Key) (hv0 : y0.val = (a : Int)) (hc : M.cells[a]? = some (id : Int)) (hk : Chn S.all id (hist es e.Key)) (hf : Free T.nodes a) :
 XI T ⟨M.cells.set a ((S.all.length + 1 : Nat) : Int), c⟩ ⟨S.all ++ [⟨e, id⟩]⟩ l r ks j (es ++ [e]) := by
 have hs := X.inv.kkey.2
 refine ⟨X.inv.set hf, fun y hy => ?_, X.inj, fun ev hev => ?_, ?_, X.cl.set hf⟩
 ·
  obtain ⟨a2, id2, g1, g2, g3, g4, g5⟩ := X.cell y hy
  rw [hist_app]
  by_cases q : e.Key = y.key
  ·
   have : y = y0 := uniq_key hs hy hy0 (by rw [hk0, q])
   subst this
   have : a2 = a := by rw [hv0] at g1; omega
   subst this
   rw [if_pos q, ← q]
   refine ⟨a2, S.all.length + 1, g1, by simpa using g2, g3, gs_eq g2, S.all.length, id, ⟨e, id⟩, rfl, by simp, rfl, rfl, hk.app⟩
  ·
   have : a2 ≠ a := by
    rintro rfl
    exact q (hk0.symm.trans (X.inj y0 hy0 y hy (hv0.trans g1.symm)))
   rw [if_neg q]
   exact ⟨a2, id2, g1, by simpa using g2, g3, by rw [gs_ne (Ne.symm this)]; exact g4, g5.app⟩
 ·
  rcases List.mem_append.mp hev with w | w
  ·
   exact X.all ev w
  ·
   rw [List.mem_singleton] at w; subst w; exact ⟨y0, hy0, hk0⟩
 ·
  have := X.slen
  simp only [List.length_append, List.length_singleton]; omega
theorem look_step {q a id : Nat} {h : List TEvent} {rev : Int} {th : Cli} (hl : S.all.length < 1000000) (ha : a < 1000000) (hc : M.cells[a]? = some (id : Int)) (hk : Chn S.all id h) (hq : h.length < q) (hw : W.found.length ≤ 100000) :
 F_istep (q + 1) T M S W (.c_Work_look_1 (a : Int) rev th) .u = F_istep q T (tick M) S ⟨W.cell, W.bad, W.found ++ (look h rev).toList⟩ th .u := by
 have q1 : F_istep (q + 1) T M S W (.c_Work_look_1 (a : Int) rev th) .u = F_index_Work_look_1 q (F_istep q) T M S W (a : Int) rev th := rfl
 rw [q1]
 unfold F_index_Work_look_1
 rw [(wrap_cell ha).1, load_ok hc]
 simp only [Option.bind_some]
 rw [at_ok hl rev hk hq]
 simp only [Option.bind_some]
 cases look h rev with
 | none =>
  dsimp only
  rw [if_neg (by simp), rbi]
  simp
 | some x =>
  dsimp only
  rw [if_pos rfl, appL_ok (by simp; omega) (by omega) (by omega)]
  simp only [Option.bind_some]
  rw [rbi]
  rfl
end
set_option maxRecDepth 100000
abbrev z0 : ByteArray := ⟨#[0]⟩
def fromK (ks : List Tbst_node) (f : ByteArray) : List Tbst_node := ks.filter (fun y => !lessB y.key f)
def wl (g : TRange) (rev : Int) (es : List TEvent) (L : List Tbst_node) : List TKV := (L.takeWhile (fun y => inR g y.key)).filterMap (fun y => look (hist es y.key) rev)
theorem one_to {k : ByteArray} (h : k.size < 4611686018427387904) : F_key_One k = some ⟨k, k ++ z0⟩ := by
 unfold F_key_One addS
 rw [if_pos (by show k.size + 1 ≤ _; omega)]; rfl
section
variable {T : Obst_Tree} {M : Omem_Mem} {S : Ochain_Store} {l r : BT} {ks : List Tbst_node} {j n : Nat} {es : List TEvent} {g : TRange} {rev : Int}
end
set_option maxRecDepth 100000
def RiseOK (l : List TEvent) : Prop := ∀ (A B : List TEvent) (e : TEvent), l = A ++ e :: B → revOf (hist A e.Key) < e.Rev
structure Ris (l : List TEvent) (i : Nat) (z : TEvent) : Prop where
 one : 1 ≤ z.Rev
 up : ∀ p x, i = p + 1 → l[p]? = some x → x.Rev ≤ z.Rev
 un : ∀ k x, k < i → l[k]? = some x → ¬ (x.Rev = z.Rev ∧ x.Key = z.Key)
theorem rises_L2 {l : List TEvent} {i : Nat} {z : TEvent} (hi : i ≤ l.length) (hl : l.length ≤ 1000) : ∀ (m y : Nat), y ≤ i → i - y < m →
 F_ref19_Rises_L2 l i z m (y : Int) = some (.out false) ∨ ((∃ u, F_ref19_Rises_L2 l i z m (y : Int) = some (.go u)) ∧ ∀ k x, y ≤ k → k < i → l[k]? = some x → ¬ (x.Rev = z.Rev ∧ x.Key = z.Key))
 | 0, y, h1, h2 => by omega
 | m + 1, y, h1, h2 => by
  rw [F_ref19_Rises_L2]
  by_cases h : y < i
  ·
   have hy : y < l.length := by omega
   rw [if_pos (by rw [decide_eq_true_iff]; omega), getI_nat, List.getElem?_eq_getElem hy]
   simp only [Option.bind_some]
   rw [show (((y : Nat) : Int) + 1) = ((y + 1 : Nat) : Int) by omega, wrap_n (by omega)]
   have ih := rises_L2 (z := z) hi hl m (y + 1) (by omega) (by omega)
   by_cases hr : l[y].Rev = z.Rev
   ·
    rw [if_pos (by simpa using hr)]
    simp only [Option.bind_some]
    cases hk : eqB l[y].Key z.Key with
    | true => rw [if_pos rfl]; exact .inl rfl
    | false =>
     rw [if_neg (by simp)]
     refine ih.imp id (fun ⟨q1, q2⟩ => ⟨q1, fun k x hk1 hk2 hx => ?_⟩)
     rcases Nat.eq_or_lt_of_le hk1 with w | w
     ·
      subst w
      rw [List.getElem?_eq_getElem hy] at hx
      cases hx
      rintro ⟨_, w⟩
      rw [w, eqB_self] at hk; cases hk
     ·
      exact q2 k x w hk2 hx
   ·
    rw [if_neg (by simpa using hr)]
    simp only [Option.bind_some]
    rw [if_neg (by simp)]
    refine ih.imp id (fun ⟨q1, q2⟩ => ⟨q1, fun k x hk1 hk2 hx => ?_⟩)
    rcases Nat.eq_or_lt_of_le hk1 with w | w
    ·
     subst w
     rw [List.getElem?_eq_getElem hy] at hx
     cases hx
     exact fun w => hr w.1
    ·
     exact q2 k x w hk2 hx
  ·
   rw [if_neg (by rw [decide_eq_true_iff]; omega)]
   exact .inr ⟨⟨_, rfl⟩, fun k x hk1 hk2 _ => by omega⟩
theorem rises_L1 {n : Nat} {l : List TEvent} (hl : l.length ≤ 1000) (hn : 1000 < n) : ∀ (r : List TEvent) (i : Nat), r = l.drop i → i ≤ l.length →
 F_ref19_Rises_L1 n l r i = some (.out false) ∨ (F_ref19_Rises_L1 n l r i = some (.go ()) ∧ ∀ k z, i ≤ k → l[k]? = some z → Ris l k z)
 | [], i, hr, hi => by
  rw [F_ref19_Rises_L1]
  have : l.length ≤ i := by
   have := congrArg List.length hr
   simp at this; omega
  exact .inr ⟨rfl, fun k z hk hz => by have := (List.getElem?_eq_some_iff.mp hz).1; omega⟩
 | z :: r, i, hr, hi => by
  obtain ⟨hi', hx, hr'⟩ := drop_cons hr
  rw [F_ref19_Rises_L1]
  by_cases h1 : z.Rev < 1
  ·
   rw [if_pos (by simpa using h1)]
   exact .inl rfl
  rw [if_neg (by simpa using h1)]
  have prev : ∃ c : Bool, (if (decide ((i : Int) > 0)) = true then ((getI l (IntKind.i64.wrap ((i : Int) - 1))).bind fun x29 => some (true, (decide (z.Rev < x29.Rev)))) else (some (false, false)) : Option (Bool × Bool)) = some ((decide ((i : Int) > 0)), c) ∧ (c = false → ∀ p x, i = p + 1 → l[p]? = some x → x.Rev ≤ z.Rev) := by
   by_cases h0 : 0 < i
   ·
    obtain ⟨p, rfl⟩ : ∃ p, i = p + 1 := ⟨i - 1, by omega⟩
    have hp : p < l.length := by omega
    rw [if_pos (by rw [decide_eq_true_iff]; omega), show (((p + 1 : Nat) : Int) - 1) = (p : Int) by omega, wrap_n (by omega), getI_nat, List.getElem?_eq_getElem hp]
    refine ⟨decide (z.Rev < l[p].Rev), by simp, fun hc p' x hp' hx' => ?_⟩
    obtain rfl : p' = p := by omega
    rw [List.getElem?_eq_getElem hp] at hx'
    cases hx'
    have := of_decide_eq_false hc
    omega
   ·
    have : i = 0 := by omega
    subst this
    exact ⟨false, rfl, fun _ p x hp _ => by omega⟩
  obtain ⟨c, hc1, hc2⟩ := prev
  rw [hc1]
  simp only [Option.bind_some]
  cases c with
  | true => rw [if_pos rfl]; exact .inl rfl
  | false =>
   rw [if_neg (by simp)]
   have hdel : ∃ d : Bool × Bool, (if z.Del = true then (some (true, (!eqB z.Val ByteArray.empty))) else (some (false, false)) : Option (Bool × Bool)) = some d := by
    split
    ·
     exact ⟨_, rfl⟩
    ·
     exact ⟨_, rfl⟩
   obtain ⟨⟨d1, d⟩, hd⟩ := hdel
   rw [hd]
   simp only [Option.bind_some]
   cases d with
   | true => rw [if_pos rfl]; exact .inl rfl
   | false =>
    rw [if_neg (by simp)]
    rcases rises_L2 (z := z) (l := l) (i := i) hi hl n 0 (by omega) (by omega) with q | ⟨⟨u, q⟩, q2⟩
    ·
     rw [show ((0 : Nat) : Int) = 0 from rfl] at q
     rw [q]; exact .inl rfl
    ·
     rw [show ((0 : Nat) : Int) = 0 from rfl] at q
     rw [q]
     simp only [Option.bind_some, lpK2]
     refine (rises_L1 hl hn r (i + 1) hr' (by omega)).imp id (fun ⟨w1, w2⟩ => ⟨w1, fun k z' hk hz => ?_⟩)
     rcases Nat.eq_or_lt_of_le hk with w | w
     ·
      subst w
      rw [hx] at hz
      cases hz
      exact ⟨by omega, hc2 rfl, fun k' x hk' hx' => q2 k' x (by omega) hk' hx'⟩
     ·
      exact w2 k z' w hz
theorem ris_up {l : List TEvent} (h : ∀ (k : Nat) (z : TEvent), l[k]? = some z → Ris l k z) : ∀ (d k : Nat) (x z : TEvent), l[k]? = some x → l[k + d]? = some z → x.Rev ≤ z.Rev
 | 0, k, x, z, h1, h2 => by rw [Nat.add_zero, h1] at h2; cases h2; exact Int.le_refl _
 | d + 1, k, x, z, h1, h2 => by
  have hb := (List.getElem?_eq_some_iff.mp h2).1
  have hm : l[k + d]? = some l[k + d] := List.getElem?_eq_getElem (by omega)
  have q1 := ris_up h d k x _ h1 hm
  have q2 := (h _ _ h2).up (k + d) _ (by omega) hm
  exact Int.le_trans q1 q2
theorem rise_of {l : List TEvent} (h : ∀ (k : Nat) (z : TEvent), l[k]? = some z → Ris l k z) : RiseOK l := by
 intro A B e hl
 have he : l[A.length]? = some e := by rw [hl]; simp
 have R := h _ _ he
 cases hh : hist A e.Key with
 | nil => have := R.one; show (0 : Int) < e.Rev; omega
 | cons x xs =>
  show x.Rev < e.Rev
  have hx : x ∈ A ∧ x.Key = e.Key := by
   have : x ∈ hist A e.Key := by rw [hh]; exact List.mem_cons_self
   unfold hist at this
   rw [List.mem_reverse, List.mem_filter, eqB_iff] at this
   exact this
  obtain ⟨p, hp, hpx⟩ := List.getElem_of_mem hx.1
  have hlx : l[p]? = some x := by rw [hl, List.getElem?_append_left hp, List.getElem?_eq_getElem hp, hpx]
  have q1 := ris_up h (A.length - p) p x e hlx (by rw [show p + (A.length - p) = A.length by omega]; exact he)
  have q2 := R.un p x hp hlx
  have q3 : x.Rev ≠ e.Rev := fun w => q2 ⟨w, hx.2⟩
  omega
theorem few_ok {n : Nat} (l : List TEvent) (hn : 1000 < n) : F_law19_few n l = some false ∨ (F_law19_few n l = some true ∧ l.length ≤ 40 ∧ RiseOK l) := by
 unfold F_law19_few
 by_cases h : l.length ≤ 40
 ·
  rw [if_pos (by rw [decide_eq_true_iff]; omega)]
  unfold F_ref19_Rises
  rcases rises_L1 (n := n) (l := l) (by omega) hn l 0 rfl (by omega) with q | ⟨q1, q2⟩
  ·
   rw [q]; exact .inl rfl
  ·
   rw [q1]
   exact .inr ⟨rfl, h, rise_of (fun k z hz => q2 k z (by omega) hz)⟩
 ·
  rw [if_neg (by rw [decide_eq_true_iff]; omega)]
  exact .inl rfl
end Go.Proofs.YtndhbaidibioeaaGreat.V
