/- Laws whose runs hang on what they are given hardly at all; blocks of a call's own, in rows.
   No condition: these are laws of the clean machine. -/
import Derived.Test.YtadfhabapgipbaaV29
namespace Go.Proofs.Ytadfhabapgipbaa.V
open Go
set_option linter.unusedVariables false
set_option linter.unusedSimpArgs false

def okR (r : Option (Value × Heap)) : Bool := match r with | some (.bool b, _) => b | _ => false
theorem law_run {E : Env} (hE : SideOK E) {f : FuncId} {args : List Value} {args' : Array Value} {W : World} (ha : ∀ β, VRs β args args'.toList) {n : Nat}
    (hr : okR (run E n f args (heap0 W)) = true) : Calls E.P f args' W (fun e w' => e = .returned (.bool true) ∧ RowKit.Below W.heap.size W w') := by
  have hrun : ∃ h', run E n f args (heap0 W) = some (.bool true, h') := by
    cases e : run E n f args (heap0 W) with
    | none => rw [e] at hr; cases hr
    | some p =>
      obtain ⟨v, h'⟩ := p
      rw [e] at hr
      cases v <;> first | (cases hr; done) | skip
      rename_i b
      have : b = true := hr
      subst this
      exact ⟨h', rfl⟩
  obtain ⟨h', hrun⟩ := hrun
  refine (run_ok hE n f args _ _ _ hrun _ _ W args' (sim0 E.P W) (ha _)).mono ?_
  rintro e w' ⟨v', β', rfl, _, _, hv, hf, _⟩
  cases hv
  exact ⟨rfl, hf.os, hf.tape, hf.output, hf.size, fun k hk => hf.block k (Nat.not_le.mpr hk)⟩

/-! ### Rows of blocks -/
theorem pf (pre post : List (List Blk)) (s : List Blk) : (pre ++ s :: post).flatten.Perm (s ++ (pre ++ post).flatten) := by
  rw [List.flatten_append, List.flatten_cons, List.flatten_append]
  exact List.perm_append_comm_assoc _ _ _
inductive SetSeg (s s' : List Blk) : List (List Blk) → List (List Blk) → Prop
  | z {r : List (List Blk)} : SetSeg s s' (s :: r) (s' :: r)
  | s {a : List Blk} {r r' : List (List Blk)} (h : SetSeg s s' r r') : SetSeg s s' (a :: r) (a :: r')
inductive DelSeg (s : List Blk) : List (List Blk) → List (List Blk) → Prop
  | z {r : List (List Blk)} : DelSeg s (s :: r) r
  | s {a : List Blk} {r r' : List (List Blk)} (h : DelSeg s r r') : DelSeg s (a :: r) (a :: r')
theorem SetSeg.pp {s s' : List Blk} {a b : List (List Blk)} (h : SetSeg s s' a b) : ∃ pre post, a = pre ++ s :: post ∧ b = pre ++ s' :: post := by
  induction h with
  | z => exact ⟨[], _, rfl, rfl⟩
  | s h ih => obtain ⟨pre, post, h1, h2⟩ := ih; exact ⟨_ :: pre, post, by rw [h1]; rfl, by rw [h2]; rfl⟩
theorem DelSeg.pp {s : List Blk} {a b : List (List Blk)} (h : DelSeg s a b) : ∃ pre post, a = pre ++ s :: post ∧ b = pre ++ post := by
  induction h with
  | z => exact ⟨[], _, rfl, rfl⟩
  | s h ih => obtain ⟨pre, post, h1, h2⟩ := ih; exact ⟨_ :: pre, post, by rw [h1]; rfl, by rw [h2]; rfl⟩
theorem mem_seg {segs : List (List Blk)} (i : Nat) {e : Blk} (h : segs[i]? = some [e]) : e ∈ segs.flatten :=
  List.mem_flatten.mpr ⟨[e], List.mem_of_getElem? h, List.mem_singleton.mpr rfl⟩
theorem sub_flat {a b : List (List Blk)} (h : a.Sublist b) : a.flatten.Sublist b.flatten := by
  induction h with
  | slnil => exact List.Sublist.refl _
  | cons x h ih => rw [List.flatten_cons]; exact ih.trans (List.sublist_append_right _ _)
  | cons_cons x h ih => rw [List.flatten_cons, List.flatten_cons]; exact List.Sublist.append (List.Sublist.refl _) ih

section
variable {E : Env} {l : L} {own : List Blk} {h0 : Heap} {g : Bool}
theorem lm_s {t T : TypeId} {b off : Nat} {cs : List Value} {v : Value} (hi : (⟨b, .cells cs T⟩ : Blk) ∈ own) (ht : isAggT E.P t = some false) (hv : cs[off]? = some v) : Lo E own h0 t ⟨b, off, none⟩ v := by
  intro h hf hs
  have := (hs.blk _ hi).1
  dsimp only at this
  simp only [loadV, ht, cellAt, this]; exact hv
theorem lm_a {t T : TypeId} {b off k : Nat} {cs vs : List Value} (hi : (⟨b, .cells cs T⟩ : Blk) ∈ own) (ht : isAggT E.P t = some true) (hz : sz E.P t = some k) (hl : Nat.ble (off + k) cs.length = true)
    (hv : (cs.drop off).take k = vs) : Lo E own h0 t ⟨b, off, none⟩ (.agg vs.toArray) := by
  intro h hf hs
  have := (hs.blk _ hi).1
  dsimp only at this
  simp only [loadV, ht, hz, cellsAt, this, hl, cond_true, hv]
theorem lm_w {t T : TypeId} {b k : Nat} {cs : List Value} (hi : (⟨b, .cells cs T⟩ : Blk) ∈ own) (ht : isAggT E.P t = some true) (hz : sz E.P t = some k) (hl : cs.length = k) : Lo E own h0 t ⟨b, 0, none⟩ (.agg cs.toArray) := by
  intro h hf hs
  have := (hs.blk _ hi).1
  dsimp only at this
  have h2 : Nat.ble (0 + k) cs.length = true := by rw [hl, Nat.zero_add]; exact Nat.ble_self_eq_true k
  simp only [loadV, ht, hz, cellsAt, this, h2, cond_true, List.drop_zero]
  rw [← hl, List.take_length]
theorem first_m {k bx cx : Nat} {T : TypeId} {row : List Value} (hj : (⟨bx, .cells row T⟩ : Blk) ∈ own) (hrl : row.length = k) (hk : 0 < k) :
    ∀ h' hf, Has own h0 h' hf → firstV h' k 1 (.slice (some ⟨bx, 0, none⟩) 1 cx) = some [row].flatten := by
  intro h' hf hs
  have hjb := (hs.blk _ hj).1
  dsimp only at hjb
  unfold firstV
  rw [Nat.one_mul, Trie.nb (by omega : ¬ k = 0)]
  simp only [cond_false, elemAddr, cellsAt, Nat.zero_add, hjb]
  have : Nat.ble k row.length = true := Nat.ble_eq_true_of_le (by omega)
  rw [this]
  simp only [cond_true, List.drop_zero, Option.some.injEq]
  rw [← hrl, List.take_length]; simp
theorem r_lookm {K V : Type} [DecidableEq K] {kd : TypeDesc} {ke : K → Value} {ve : V → Value} {t key elem : TypeId} {m k : Operand} {ok : Bool} {b : Nat} {es : List (K × V)} {kv : K} {z : V}
    (hx : OP l g m (.map (some b))) (hy : OP l g k (ke kv)) (hi : (⟨b, .map (encM ke ve es)⟩ : Blk) ∈ own) (hu : E.P.underlying t = some (.map key elem)) (hp : plainN 0 (ke kv) = true) (hk : scalarT E.P key = some kd)
    (hs : ∀ a b, Instr.sameNow kd (ke a) (ke b) = some (decide (a = b))) (hz : zeroOf E.P elem = some (ve z)) :
    RV E l own h0 g (.lookup t m k ok) (if ok then .tuple #[ve ((mget es kv).getD z), .bool (mget es kv).isSome] else ve ((mget es kv).getD z)) := by
  intro fr h hf ag hs' q
  have hb := (hs'.blk _ hi).1
  dsimp only at hb
  unfold readV; dsimp only
  rw [hx fr ag q, hy fr ag q]; dsimp only
  unfold lookupV
  simp only [hu, hp, cond_true, hk, mapOf, hb, findM_enc hs, mget]
  cases e : mfind es kv 0 with
  | none => simp only [Option.map_none, Option.getD_none, Option.isSome_none, hz]
  | some p => simp only [Option.map_some, Option.getD_some, Option.isSome_some]
end

section
variable {X : Cx} {st : List It} {l : L} {own : List Blk} {h0 : Heap} {pre post segs : List (List Blk)}
variable {r : Array Oper} {q : Bool} {os : List Oper} {d : Nat} {ty : TypeId} {pos : String} {aft : Array Edge}

theorem gs_alloc {t : TypeId} {z : Value} {cs : List Value} (hn : Nat.blt d X.nt = true) (hz : zeroOf X.E.P t = some z) (hc : z.cells.toList = cs)
    (k : ∀ b, Goes X (.ops r false os :: st) ((d, true, .pointer (some ⟨b, 0, none⟩)) :: l) ([⟨b, .cells cs t⟩] :: segs).flatten h0) :
    Goes X (.ops r false (⟨some d, .alloc t, ty, pos, aft, none⟩ :: os) :: st) l segs.flatten h0 := g_alloc hn hz hc k
theorem gs_box {t : TypeId} {x : Operand} {v : Value} {cs : List Value} (hn : Nat.blt d X.nt = true) (hx : OP l true x v) (hc : v.cells.toList = cs)
    (k : ∀ b, Goes X (.ops r false os :: st) ((d, true, .pointer (some ⟨b, 0, none⟩)) :: l) ([⟨b, .cells cs t⟩] :: segs).flatten h0) :
    Goes X (.ops r false (⟨some d, .box t x, ty, pos, aft, none⟩ :: os) :: st) l segs.flatten h0 := g_box hn hx hc k
theorem gs_bslice {t elem : TypeId} {len k : Nat} {ps : Array (Nat × Operand)} {vs : List (Nat × Value)} {z : Value} {cs : List Value} (hn : Nat.blt d X.nt = true) (hx : OPp l true ps.toList vs)
    (hu : X.E.P.underlying t = some (.slice elem)) (hk : sz X.E.P elem = some k) (hz : zeroOf X.E.P elem = some z) (hs : (Nat.ble (len * k) 16777216 && Nat.beq z.cells.size k) = true)
    (hc : fillL (fun i => some (i * k, k)) (repZ z.cells.toList len) vs = some cs)
    (kk : ∀ b, Goes X (.ops r false os :: st) ((d, true, .slice (some ⟨b, 0, none⟩) len len) :: l) ([⟨b, .cells cs elem⟩] :: segs).flatten h0) :
    Goes X (.ops r false (⟨some d, .buildSlice t len ps, ty, pos, aft, none⟩ :: os) :: st) l segs.flatten h0 := g_bslice hn hx hu hk hz hs hc kk
theorem gs_mslice {t elem : TypeId} {L C : Operand} {n c k b : Nat} {z : Value} {cs : List Value} (hn : Nat.blt d X.nt = true) (hL : OP l true L (.int .i64 n)) (hC : OP l true C (.int .i64 c))
    (hu : X.E.P.underlying t = some (.slice elem)) (hk : sz X.E.P elem = some k) (hb : bytesOf X.E.P elem = some b) (hz : zeroOf X.E.P elem = some z)
    (hs : (decide ((0 : Int) ≤ n ∧ (n : Int) ≤ c ∧ (c : Int) ≤ 140737488355328 ∧ (b : Int) * c ≤ 281474976710656) && Nat.beq z.cells.size k) = true)
    (hc : repZ z.cells.toList c = cs) (kk : ∀ b, Goes X (.ops r false os :: st) ((d, true, .slice (some ⟨b, 0, none⟩) n c) :: l) ([⟨b, .cells cs elem⟩] :: segs).flatten h0) :
    Goes X (.ops r false (⟨some d, .makeSlice t L C, ty, pos, aft, none⟩ :: os) :: st) l segs.flatten h0 := g_mslice hn hL hC hu hk hb hz hs hc kk
theorem gs_mkmap {t : TypeId} {K V : Type} {ke : K → Value} {ve : V → Value} (hn : Nat.blt d X.nt = true)
    (k : ∀ b, Goes X (.ops r false os :: st) ((d, true, .map (some b)) :: l) ([⟨b, .map (encM ke ve [])⟩] :: segs).flatten h0) :
    Goes X (.ops r false (⟨some d, .makeMap t none, ty, pos, aft, none⟩ :: os) :: st) l segs.flatten h0 := g_mkmap hn k
theorem gs_store {t T : TypeId} {a x : Operand} {b off k : Nat} {v : Value} {cs vs cs' : List Value} (ha : OP l true a (.pointer (some ⟨b, off, none⟩))) (hx : OP l true x v)
    (hz : sz X.E.P t = some k) (hv : Nat.beq v.cells.size k = true) (hc : v.cells.toList = vs) (hl : Nat.ble (off + vs.length) cs.length = true) (hk : vs.all cellOk = true)
    (hcs : splice cs off vs = cs') {segs' : List (List Blk)} (hg : SetSeg [⟨b, .cells cs T⟩] [⟨b, .cells cs' T⟩] segs segs') (kk : Goes X (.ops r false os :: st) l segs'.flatten h0) :
    Goes X (.ops r false (⟨none, .store t a x, ty, pos, aft, none⟩ :: os) :: st) l segs.flatten h0 := by
  obtain ⟨pre, post, rfl, rfl⟩ := hg.pp
  subst hcs
  exact go_perm (pf _ _ _) (g_store 0 (own' := ⟨b, .cells (splice cs off vs) T⟩ :: (pre ++ post).flatten) ha hx rfl hz hv hc hl hk rfl (go_perm (pf pre post [⟨b, .cells (splice cs off vs) T⟩]).symm kk))
theorem gs_mset {K V : Type} [DecidableEq K] {kd : TypeDesc} {ke : K → Value} {ve : V → Value} {t key elem : TypeId} {m k x : Operand} {b : Nat} {es : List (K × V)} {kv : K} {v : V}
    (hx : OP l true m (.map (some b))) (hy : OP l true k (ke kv)) (hv : OP l true x (ve v)) (hu : X.E.P.underlying t = some (.map key elem)) (hp : plainN 0 (ke kv) = true) (hk : scalarT X.E.P key = some kd)
    (hs : ∀ a b, Instr.sameNow kd (ke a) (ke b) = some (decide (a = b))) {segs' : List (List Blk)} (hg : SetSeg [⟨b, .map (encM ke ve es)⟩] [⟨b, .map (encM ke ve (mset es kv v))⟩] segs segs') (kk : Goes X (.ops r false os :: st) l segs'.flatten h0) :
    Goes X (.ops r false (⟨none, .mapUpdate t m k x, ty, pos, aft, none⟩ :: os) :: st) l segs.flatten h0 := by
  obtain ⟨pre, post, rfl, rfl⟩ := hg.pp
  exact go_perm (pf _ _ _) (g_mset 0 (own' := ⟨b, .map (encM ke ve (mset es kv v))⟩ :: (pre ++ post).flatten) hx hy hv rfl hu hp hk hs rfl (go_perm (pf pre post [⟨b, .map (encM ke ve (mset es kv v))⟩]).symm kk))
theorem gs_pub {b : Nat} {o : O} {segs' : List (List Blk)} (hg : DelSeg [⟨b, o⟩] segs segs') (k : ∀ h1, HExt h0 h1 → Wf h1 → h1.get b = some o → Goes X st l segs'.flatten h1) : Goes X st l segs.flatten h0 := by
  obtain ⟨pre, post, rfl, rfl⟩ := hg.pp
  exact go_perm (pf _ _ _) (go_pub 0 rfl (fun h1 e w hb => k h1 e w hb))
theorem gs_sub {segs' : List (List Blk)} (s : segs'.Sublist segs) (k : Goes X st l segs'.flatten h0) : Goes X st l segs.flatten h0 := go_sub (sub_flat s) k
theorem go_seg0 (k : Goes X st l ([] : List (List Blk)).flatten h0) : Goes X st l [] h0 := k
theorem gs_front {s : List Blk} {segs' : List (List Blk)} (hg : DelSeg s segs segs') (k : Goes X st l (s :: segs').flatten h0) : Goes X st l segs.flatten h0 := by
  obtain ⟨pre, post, rfl, rfl⟩ := hg.pp
  exact go_perm (pf _ _ _) k
theorem gs_perm {segs' : List (List Blk)} (s : segs.Perm segs') (k : Goes X st l segs'.flatten h0) : Goes X st l segs.flatten h0 := go_perm s.flatten k
/-- Appended to what grows already. -/
theorem gs_app {α : Type} {R : Rep α} {tl : List Blk} {xs ys : List α} {args : Array Operand} {ts : Array TypeId} {sT elem k bytes n : Nat} {v xv z : Value} {rows2 : List (List Value)}
    (hn : Nat.blt d X.nt = true) (hx : OPs l true args.toList [v, xv]) (ht : ts[0]? = some sT) (hu : X.E.P.underlying sT = some (.slice elem)) (hk : sz X.E.P elem = some k) (hkR : k = R.k) (hk0 : 0 < k)
    (hby : bytesOf X.E.P elem = some bytes) (hz : zeroOf X.E.P elem = some z) (hzz : Nat.beq z.cells.size k = true) (hzs : zerosV X.E.P ts = some false)
    (hlen : lenOfV xv = some n) (hnl : n = ys.length) (hfirst : ∀ h' hf, Has (tl :: segs).flatten h0 h' hf → firstV h' k n xv = some rows2.flatten) (hr2 : Rws R h0 rows2 ys)
    (acc : AccR R elem h0 tl v xs) (hr : roomy (xs.length + ys.length) bytes = true)
    (kk0 : ∀ p tl', AccR R elem h0 tl' (.slice p (xs ++ ys).length (xs ++ ys).length) (xs ++ ys) → Goes X (.ops r false os :: st) ((d, true, .slice p (xs ++ ys).length (xs ++ ys).length) :: l) (tl' :: segs).flatten h0) :
    Goes X (.ops r false (⟨some d, .call ⟨.builtin .append, args, ts⟩, ty, pos, aft, none⟩ :: os) :: st) l (tl :: segs).flatten h0 :=
  g_app [] segs.flatten hn hx ht hu hk hkR hk0 hby hz hzz hzs hlen hnl hfirst hr2 acc hr rfl (fun p tl' a => kk0 p tl' a)
/-- Appended to nothing. -/
theorem gs_app0 {α : Type} {R : Rep α} {ys : List α} {args : Array Operand} {ts : Array TypeId} {sT elem k bytes n : Nat} {v xv z : Value} {rows2 : List (List Value)}
    (hn : Nat.blt d X.nt = true) (hx : OPs l true args.toList [v, xv]) (ht : ts[0]? = some sT) (hu : X.E.P.underlying sT = some (.slice elem)) (hk : sz X.E.P elem = some k) (hkR : k = R.k) (hk0 : 0 < k)
    (hby : bytesOf X.E.P elem = some bytes) (hz : zeroOf X.E.P elem = some z) (hzz : Nat.beq z.cells.size k = true) (hzs : zerosV X.E.P ts = some false)
    (hlen : lenOfV xv = some n) (hnl : n = ys.length) (hfirst : ∀ h' hf, Has segs.flatten h0 h' hf → firstV h' k n xv = some rows2.flatten) (hr2 : Rws R h0 rows2 ys)
    (acc : AccR R elem h0 [] v ([] : List α)) (hr : roomy (([] : List α).length + ys.length) bytes = true)
    (kk0 : ∀ p tl', AccR R elem h0 tl' (.slice p ([] ++ ys).length ([] ++ ys).length) ([] ++ ys) → Goes X (.ops r false os :: st) ((d, true, .slice p ([] ++ ys).length ([] ++ ys).length) :: l) (tl' :: segs).flatten h0) :
    Goes X (.ops r false (⟨some d, .call ⟨.builtin .append, args, ts⟩, ty, pos, aft, none⟩ :: os) :: st) l segs.flatten h0 :=
  g_app [] segs.flatten hn hx ht hu hk hkR hk0 hby hz hzz hzs hlen hnl hfirst hr2 acc hr rfl (fun p tl' a => kk0 p tl' a)
theorem gs_accpub {α : Type} {R : Rep α} {elem : TypeId} {tl : List Blk} {p : Option Addr} {xs : List α} {segs' : List (List Blk)} (hg : DelSeg tl segs segs') (acc : AccR R elem h0 tl (.slice p xs.length xs.length) xs)
    (kk : ∀ h1, HExt h0 h1 → Wf h1 → RL R h1 p xs.length xs → Goes X st l segs'.flatten h1) (hT : elem = R.T) : Goes X st l segs.flatten h0 := by
  obtain ⟨pre, post, rfl, rfl⟩ := hg.pp
  have e : (pre ++ tl :: post).flatten = pre.flatten ++ (tl ++ post.flatten) := by rw [List.flatten_append, List.flatten_cons]
  exact acc_pub pre.flatten post.flatten acc e (fun h1 e w hv => by rw [← List.flatten_append]; exact kk h1 e w hv) hT
end

theorem nd0 : ∀ e ∈ ([] : List (List Blk)).flatten, e.o ≠ .dead := fun _ h => by cases h
theorem ndb {b : Nat} {o : O} {r : List (List Blk)} (ho : o ≠ .dead) (k : ∀ e ∈ r.flatten, e.o ≠ .dead) : ∀ e ∈ ([⟨b, o⟩] :: r : List (List Blk)).flatten, e.o ≠ .dead := by
  intro e he
  rw [List.flatten_cons] at he
  rcases List.mem_append.mp he with h | h
  · rw [List.mem_singleton.mp h]; exact ho
  · exact k e h
theorem nde {r : List (List Blk)} (k : ∀ e ∈ r.flatten, e.o ≠ .dead) : ∀ e ∈ ([] :: r : List (List Blk)).flatten, e.o ≠ .dead := by
  intro e he
  rw [List.flatten_cons] at he
  rcases List.mem_append.mp he with h | h
  · cases h
  · exact k e h
theorem ndt {α : Type} {R : Rep α} {elem : TypeId} {h : Heap} {tl : List Blk} {v : Value} {xs : List α} {r : List (List Blk)} (a : AccR R elem h tl v xs) (k : ∀ e ∈ r.flatten, e.o ≠ .dead) : ∀ e ∈ (tl :: r : List (List Blk)).flatten, e.o ≠ .dead := by
  intro e he
  rw [List.flatten_cons] at he
  rcases List.mem_append.mp he with h | h
  · obtain ⟨_, ⟨_, _, h3⟩ | ⟨b, rows, _, h3, _⟩⟩ := a
    · subst h3; cases h
    · subst h3; rw [List.mem_singleton.mp h]; intro q; cases q
  · exact k e h
inductive Takes : List (List Blk) → List (List Blk) → List (List Blk) → Prop
  | nil {r : List (List Blk)} : Takes [] r r
  | cons {s : List Blk} {F r r' r'' : List (List Blk)} (h : DelSeg s r r') (k : Takes F r' r'') : Takes (s :: F) r r''
  | emp {F r r'' : List (List Blk)} (k : Takes F r r'') : Takes ([] :: F) r r''
theorem Takes.perm {F r r' : List (List Blk)} (h : Takes F r r') : r.flatten.Perm (F ++ r').flatten := by
  induction h with
  | nil => exact List.Perm.refl _
  | cons h k ih =>
    obtain ⟨pre, post, rfl, rfl⟩ := h.pp
    refine (pf _ _ _).trans ?_
    rw [List.cons_append, List.flatten_cons]
    exact ih.append_left _
  | emp k ih => rw [List.cons_append, List.flatten_cons, List.nil_append]; exact ih

/-! ### Calls that change a call's own blocks -/
def EvO (E : Env) (f : FuncId) (args : List Value) (segs : List (List Blk)) (h0 : Heap) (Q : Value → List (List Blk) → Heap → Prop) : Prop :=
  ∀ h hf, Has segs.flatten h0 h hf → ∃ n v h' segs' h1 hf', run E n f args h = some (v, h') ∧ HExt h0 h1 ∧ Wf h1 ∧ Has segs'.flatten h1 h' hf' ∧ (∀ e ∈ segs'.flatten, e.o ≠ .dead) ∧ Q v segs' h1

theorem evo_of {E : Env} {f : FuncId} {args : List Value} {segs : List (List Blk)} {h0 : Heap} {Q : Value → List (List Blk) → Heap → Prop} {fn : Func} {c : Code} (hp : E.prim f = none) (hf : E.P.funcs[f]? = some fn) (hc : fn.body = some c) (hn : Nat.ble args.length fn.ntmps = true)
    (g : Goes ⟨E, fn.ntmps, fn.results.toList, fun v h' => ∃ segs' h1 hf', HExt h0 h1 ∧ Wf h1 ∧ Has segs'.flatten h1 h' hf' ∧ (∀ e ∈ segs'.flatten, e.o ≠ .dead) ∧ Q v segs' h1⟩ [.code c] (initL args 0 []) segs.flatten h0) : EvO E f args segs h0 Q := by
  intro h hf0 hs
  obtain ⟨n, fr', h', vs, e1, e2, e3⟩ := g (initF args 0 .nil) h hf0 (initL_agree _ _ _ _ (Agree.nil _)) hs
  obtain ⟨segs', h1, hf', q1, q2, q3, q4, q5⟩ := e3
  refine ⟨n + 1, packV vs, h', segs', h1, hf', ?_, q1, q2, q3, q4, q5⟩
  rw [run_step hp hf hc, hn, cond_true]
  unfold exec at e1
  split at e1
  · rename_i x fr1 h2 e
    have e' : evalC E fn.ntmps (run E n) n c (initF args 0 .nil) h = some (x, fr1, h2) := e
    rw [e']
    cases x with
    | exit i => cases e1
    | normal => cases e1; dsimp only; rw [e2]
    | ret => cases e1; dsimp only; rw [e2]
  · cases e1
/-- A call's own blocks, in two parts: what is handed on, and what is not. -/
theorem Has.split {h0 h : Heap} : ∀ (F rest : List Blk) (hf : Heap), Has (F ++ rest) h0 h hf → ∃ hm, Has rest h0 h hm ∧ Has F h0 hm hf := by
  intro F
  induction F with
  | nil => intro rest hf m; exact ⟨hf, m, ⟨m.ext, m.wf, ⟨rfl, rfl, rfl, fun _ e => (by cases e), fun _ _ => rfl, fun _ e => (by cases e)⟩, fun _ e => (by cases e), List.nodup_nil⟩⟩
  | cons e F ih =>
    intro rest hf m
    have hb : inOwn (e :: (F ++ rest)) e.b = true := inOwn_iff.mpr ⟨_, List.mem_cons_self, rfl⟩
    have hd := m.msk.dead _ hb
    have hlt := m.msk.lt _ hb
    have hlim : hf.lim ≤ e.b := by have := (m.blk e List.mem_cons_self).2; rw [m.msk.lim] at this; exact this
    obtain ⟨hm, h1, h2⟩ := ih rest (hf.set e.b e.o) (Has.pubH (b := e.b) (o := e.o) m)
    have nF : ∀ x, inOwn F x = true → e.b ≠ x := by
      intro x hx q
      subst q
      obtain ⟨y, hy, hyb⟩ := inOwn_iff.mp hx
      have nd := m.nd
      rw [List.cons_append, List.map_cons, List.nodup_cons] at nd
      exact nd.1 (by rw [← hyb]; exact List.mem_map_of_mem (List.mem_append_left _ hy))
    have ge : hm.get e.b = some e.o := by
      have : inOwn F e.b = false := by
        cases q : inOwn F e.b with
        | false => rfl
        | true => exact absurd rfl (nF _ q)
      rw [h2.msk.get _ this, get_set, if_pos rfl]
    refine ⟨hm, h1, ⟨m.ext, m.wf, ⟨h2.msk.base, h2.msk.lim, h2.msk.n, ?_, ?_, ?_⟩, ?_, ?_⟩⟩
    · intro b hb'
      rw [Has.io_cons, Bool.or_eq_true] at hb'
      rcases hb' with q | q
      · have := Nat.eq_of_beq_eq_true q; subst this; exact hd
      · have := h2.msk.dead b q; rw [get_set, if_neg (nF b q)] at this; exact this
    · intro b hb'
      rw [Has.io_cons, Bool.or_eq_false_iff] at hb'
      have : ¬ e.b = b := by intro q; subst q; have := hb'.1; rw [Nat.beq_refl] at this; cases this
      rw [h2.msk.get b hb'.2, get_set, if_neg this]
    · intro b hb'
      rw [Has.io_cons, Bool.or_eq_true] at hb'
      rcases hb' with q | q
      · have := Nat.eq_of_beq_eq_true q; subst this; exact hlt
      · exact h2.msk.lt b q
    · intro x hx
      rcases List.mem_cons.mp hx with q | q
      · subst q; exact ⟨ge, by rw [h2.msk.lim]; exact hlim⟩
      · exact h2.blk x q
    · have nd := m.nd
      rw [List.cons_append, List.map_cons, List.nodup_cons, List.map_append] at nd
      rw [List.map_cons, List.nodup_cons]
      exact ⟨fun hm' => nd.1 (List.mem_append_left _ hm'), (List.nodup_append.mp nd.2).1⟩

theorem Has.join {h0 h1 h h' h2 hf hf' hm : Heap} {F' rest : List Blk} (m : Has rest h0 h hm) (e01 : h1.lim = h0.lim) (hs : Has F' h1 h' hf') (nd : ∀ e ∈ F', e.o ≠ .dead) (mk : Msk (inOwn rest) h' h2) (kp : Kept (inOwn rest) h h2) :
    Has (F' ++ rest) h1 h2 hf' := by
  have io : ∀ b, inOwn (F' ++ rest) b = (inOwn F' b || inOwn rest b) := fun b => by unfold inOwn; rw [List.any_append]
  have dis : ∀ e ∈ F', inOwn rest e.b = false := by
    intro e he
    cases q : inOwn rest e.b with
    | false => rfl
    | true =>
      have h1 := (hs.blk e he).1
      rw [mk.dead _ q] at h1
      exact absurd (Option.some.inj h1).symm (nd e he)
  have hl : h2.lim = h.lim := by
    rw [mk.lim, hs.msk.lim, hs.ext.lim, e01, ← m.ext.lim, m.msk.lim]
  refine ⟨hs.ext, hs.wf, ⟨mk.base.trans hs.msk.base, mk.lim.trans hs.msk.lim, mk.n.trans hs.msk.n, ?_, ?_, ?_⟩, ?_, ?_⟩
  · intro b hb
    rw [io, Bool.or_eq_true] at hb
    cases q : inOwn F' b with
    | true => exact hs.msk.dead b q
    | false =>
      rcases hb with r | r
      · rw [q] at r; cases r
      · rw [← hs.msk.get b q]; exact mk.dead b r
  · intro b hb
    rw [io, Bool.or_eq_false_iff] at hb
    rw [mk.get b hb.2, hs.msk.get b hb.1]
  · intro b hb
    rw [io, Bool.or_eq_true] at hb
    rcases hb with r | r
    · exact hs.msk.lt b r
    · have := mk.lt b r; rw [hs.msk.n] at this; exact this
  · intro e he
    rcases List.mem_append.mp he with r | r
    · have h1 := hs.blk e r
      exact ⟨by rw [mk.get _ (dis e r)]; exact h1.1, by rw [mk.lim]; exact h1.2⟩
    · have h1 := m.blk e r
      exact ⟨by rw [kp _ (inOwn_iff.mpr ⟨e, r, rfl⟩)]; exact h1.1, by rw [hl]; exact h1.2⟩
  · rw [List.map_append, List.nodup_append]
    refine ⟨hs.nd, m.nd, fun a ha b hb q => ?_⟩
    subst q
    obtain ⟨x, hx, rfl⟩ := List.mem_map.mp ha
    obtain ⟨y, hy, hyb⟩ := List.mem_map.mp hb
    have := dis x hx
    rw [inOwn_iff.mpr ⟨y, hy, hyb⟩] at this
    cases this

section
variable {X : Cx} {st : List It} {l : L} {h0 : Heap} {segs F rest : List (List Blk)}
variable {r : Array Oper} {os : List Oper} {ty : TypeId} {pos : String} {aft : Array Edge}
/-- A call that may change what it is handed of this call's own. -/
theorem gs_call {dst : Option Nat} {f : Operand} {xs : Array Operand} {ts : Array TypeId} {gf : FuncId} {fi ca : Array Value} {vs : List Value} {Q : Value → List (List Blk) → Heap → Prop}
    (hF : FramedE X.E) (hw0 : Wf h0) (hp : Takes F segs rest) (hn : ∀ d, dst = some d → Nat.blt d X.nt = true) (hf' : OP l true f (.func (.func gf) fi ca)) (hx : OPs l true xs.toList vs) (hb : hasBody X.E.P gf = true)
    (hs : EvO X.E gf (fi.toList ++ (vs ++ ca.toList)) F h0 Q)
    (kk : ∀ v F' h1, HExt h0 h1 → Wf h1 → Q v F' h1 → Goes X (.ops r false os :: st) (match dst with | some d => (d, true, v) :: l | none => l) (F' ++ rest).flatten h1) :
    Goes X (.ops r false (⟨dst, .call ⟨.value f, xs, ts⟩, ty, pos, aft, none⟩ :: os) :: st) l segs.flatten h0 := by
  refine go_perm hp.perm ?_
  intro fr h hf ag hs'
  rw [List.flatten_append] at hs'
  obtain ⟨hm, m1, m2⟩ := Has.split _ _ _ hs'
  obtain ⟨n, v, h', F', h1, hf2, hr, e1, w1, m3, nd, hq⟩ := hs hm hf m2
  obtain ⟨h2, hr2, mk, kp⟩ := run_msk hF n (inOwn rest.flatten) hm h gf _ v h' m1.msk hr
  have ho : opV X.E (run X.E n) fr h (.call ⟨.value f, xs, ts⟩) = some (v, h2) := by
    simp only [opV, readV, writeV, calleeV, hf' fr ag rfl, hx fr ag rfl, hb, cond_true]
    exact hr2
  have hh := Has.join (hf := hf) m1 e1.lim m3 nd mk kp
  rw [← List.flatten_append] at hh
  cases dst with
  | none => exact step_op rfl ho rfl (kk v F' h1 e1 w1 hq _ _ _ ag hh)
  | some d => exact step_op rfl ho (put_some (hn d rfl) _ _) (kk v F' h1 e1 w1 hq _ _ _ (ag.set d true v) hh)
/-- Places, in another order. -/
theorem perm_of {α : Type} {d : α} (segs : List α) (p : List Nat) (hp : p.isPerm (List.range segs.length) = true) : segs.Perm (p.map fun i => segs.getD i d) := by
  have h := (List.isPerm_iff.mp hp).map (fun i => segs.getD i d)
  have e : (List.range segs.length).map (fun i => segs.getD i d) = segs := by
    apply List.ext_getElem
    · simp
    · intro i h1 h2; simp [List.getD, h2]
  rw [e] at h
  exact h.symm
end
end Go.Proofs.Ytadfhabapgipbaa.V
