/- What maps.Values's iterator hands on: each value once, in some order.
   No condition beyond what stands in each statement. -/
import Derived.Sort.MapsRangeIn
import Derived.Sort.KeysCollected
import Derived.RangeFuncGives
import Derived.RangeFuncMany
import Derived.RangeFuncKeeps
import Derived.RangeFuncLeaves
import Derived.WalkKit
import Derived.OwnWalkIn
import Derived.TacticsInMore
import Derived.RegionIn
import Derived.LoopNIn
import Derived.LoopIn
import Derived.Shelf.AbstractIn
import Derived.Shelf.Abstract
import Derived.Test.YtcjcbcmapjcfnaaProg
namespace Go.Proofs.Ytcjcbcmapjcfnaa
open Go Go.RowKit Go.Maps Go.Sort Go.Shelf Go.Proofs
set_option linter.unusedVariables false
set_option linter.unusedSimpArgs false
attribute [local go_sem] Oper.semAt_some

/-- An event, as a value. -/
structure EvV where
  a : Int
  k : List UInt8
  x : ByteArray
  d : Bool
def EvV.cs (e : EvV) : List Value := [.int .i64 e.a, encStr e.k, .string e.x, .bool e.d]
abbrev EvV.v (e : EvV) : Value := .agg #[.int .i64 e.a, encStr e.k, .string e.x, .bool e.d]
def Rv (v : Value) : Option (DataW Value × List MemPlace) := match v with
  | .agg ⟨[.int .i64 _, .string _, .string _, .bool _]⟩ => some (.held v, [])
  | _ => none
theorem Rv_inv {v : Value} {y : DataW Value × List MemPlace} (h : Rv v = some y) : ∃ e : EvV, v = e.v ∧ y = (.held v, []) := by
  unfold Rv at h
  split at h
  · rename_i a s x d
    cases h
    exact ⟨⟨a, s.data.toList, x, d⟩, by simp [EvV.v, encStr], rfl⟩
  · cases h
def ValAt (D0 : DataW Value) (p : List UInt8 × EvV) : Prop := ∀ zd, D0.atKey (.string p.1) zd = .held p.2.v
def AllOf (D0 : DataW Value) (ps : List (List UInt8 × EvV)) : Prop := (ps.map (·.1)).Nodup ∧ (∀ x, x ∈ ps.map (·.1) ↔ has D0 (.string x) = true) ∧ ∀ p ∈ ps, ValAt D0 p

set_option maxRecDepth 100000 in
set_option maxHeartbeats 2000000 in
theorem values1 (F : Fence) (n : Nat) (hF : F.fn 45) (hro : F.round = none) (hn : 1 ≤ n) (l Bm ob b nn : Nat) (D0 : DataW Value) (J Jx : List EvV → World → Prop)
    (hY : ∀ pre x W, J pre W → pre.length < Maps.size D0 → YieldAt F (n - 1) Try.prog l #[x.v] W fun e W' =>
      (e = .returned (.bool true) ∧ J (pre ++ [x]) W' ∧ KeepsWalks W W') ∨ (e = .returned (.bool false) ∧ Jx (pre ++ [x]) W'))
    (W : World) (hJ : AbidesFrom W.heap.size J) (hm : W.cell? ⟨Bm, ob, none⟩ = some (.map (some b))) (hown : W.ownsMap Try.prog 9 Rv b nn D0) (h0 : J [] W) :
    CallsIn F n Try.prog 45 #[.func (.yield l) #[] #[], .pointer (some ⟨Bm, ob, none⟩)] W fun e W' => (∃ v, e = .returned v) ∧
      ((∃ xs, (∃ ps, AllOf D0 ps ∧ xs = ps.map (·.2)) ∧ J xs W') ∨ (∃ pre, True ∧ Jx pre W')) := by
  have ty9 : Try.prog.underlying 9 = some .string := by kernel_rfl
  have ty50 : Try.prog.underlying 50 = some (.map 9 40) := by kernel_rfl
  refine callsIn_of_wp Try.func45 rfl hF ?_ hro
  simp only [Try.ntmps45, List.size_toArray, List.length_cons, List.length_nil, Nat.reduceAdd, Nat.reduceSub, Array.replicate_succ, Array.replicate_zero, List.push_toArray, List.append_toArray, List.nil_append, List.cons_append]
  gi_wp2_with (first
    | (gi_at_range; refine wpListIn_range_own _ rfl _ 50 rfl 9 40 (string_keyed ty9) ty50 _ b nn _ rfl hown ?_; intro w0 hrg0 hg0 hs0)
    | gi_in)
  go_frame
  gi_loopw [4] (fun _ wr => ∃ (left : Lit → Bool) (cnt : Nat) (ps : List (List UInt8 × EvV)), wr.ranges Try.prog 9 Rv b W.heap.size nn D0 left cnt ∧ ps.length + cnt ≤ Maps.size D0 ∧ Collected D0 left (ps.map (·.1)) ∧ (∀ p ∈ ps, ValAt D0 p) ∧ J (ps.map (·.2)) wr)
    (fun _ wr => wr.rangeLeft b W.heap.size)
  case atStart =>
    exact ⟨_, _, [], hrg0, by simp, Collected.start D0, by simp, hJ [] W w0 none h0 hg0 (fun r e => by cases e)⟩
  case round =>
    obtain ⟨left, cnt, ps, hrg, hcs, hC, hV, hJs⟩ := hrel
    gi_wp2_with (first
      | (gi_at_next; refine wpListIn_next_ranges _ rfl _ rfl 9 (string_keyed ty9) Rv encStr EvV.v (fun key kl hk => by obtain ⟨x, hx, _⟩ := Maps.keyOf_str ty9 hk; exact ⟨x, hx⟩) (fun v y hv => by obtain ⟨c, rfl, _⟩ := Rv_inv hv; exact ⟨c, rfl⟩) b W.heap.size nn _ _ _ rfl hrg ?_ ?_)
      | gi_in)
    · -- nothing is left
      intro hc0 hl0
      gi_wp2
      go_end0
      exact ⟨⟨_, rfl⟩, .inl ⟨_, ⟨ps, ⟨hC.1, fun x => by rw [hC.2 x, hl0]; simp, hV⟩, rfl⟩, hJs⟩⟩
    · -- an entry has come
      intro x c kl yd yp w2 cnt2 hkey hlk hv hat hrg2 hlt hg2 hs2 hen
      obtain ⟨x', ex, rfl, _⟩ := Maps.keyOf_str ty9 hkey
      obtain rfl : x = x' := encStr_inj ex
      obtain ⟨c', ec, ey⟩ := Rv_inv hv
      obtain rfl : yd = .held c.v := (Prod.mk.inj ey).1.trans (by rw [ec])
      have hat' : ValAt D0 (x, c) := hat
      have hJ2 : J (ps.map (·.2)) w2 := hJ _ wr w2 (some W.heap.size) hJs hg2 (fun r e => by cases e; exact ⟨Nat.le_refl _, hrg.iter_walk⟩)
      have hps : (ps.map (·.2)).length < Maps.size D0 := by simp; omega
      clear hs2 ec ey hv hat
      obtain ⟨ca, ck, cx, cd⟩ := c
      have hgA : w2.grownBy (w2.alloc (.cells #[.int .i64 ca, .string ⟨ck.toArray⟩, .string cx, .bool cd] 40)) none := World.grownBy_alloc _ _ _
      have hJ3 := hJ _ w2 _ none hJ2 hgA (fun r e => by cases e)
      have hrg3 := hrg2.of_walks (KeepsWalks.alloc w2 (.cells #[.int .i64 ca, .string ⟨ck.toArray⟩, .string cx, .bool cd] 40))
      obtain ⟨fn, tmps, assign, body, hy, hR⟩ := hY (ps.map (·.2)) ⟨ca, ck, cx, cd⟩ (w2.alloc (.cells #[.int .i64 ca, .string ⟨ck.toArray⟩, .string cx, .bool cd] 40)) hJ3 hps
      have hy : Sem.run Try.prog (Instr.yield l #[Value.agg #[Value.int IntKind.i64 ca, Value.string { data := ck.toArray }, Value.string cx, Value.bool cd]]) (w2.alloc (.cells #[.int .i64 ca, .string ⟨ck.toArray⟩, .string cx, .bool cd] 40)) = .ok (Next.round l fn tmps assign body) (w2.alloc (.cells #[.int .i64 ca, .string ⟨ck.toArray⟩, .string cx, .bool cd] 40)) := hy
      gi_wp2
      refine hR.mono ?_
      have hC2 : Collected D0 (fun z => left z && !z.sameKey (.string x)) ((ps ++ [(x, (⟨ca, ck, cx, cd⟩ : EvV))]).map (·.1)) := by simpa using hC.step hlk hat'
      have hV2 : ∀ p ∈ ps ++ [(x, (⟨ca, ck, cx, cd⟩ : EvV))], ValAt D0 p := fun p hp => (List.mem_append.1 hp).elim (hV p) (fun e => by simp at e; subst e; exact hat')
      rintro e W3 (⟨rfl, hJ4, hk3⟩ | ⟨rfl, hJx3⟩)
      · gi_wp2
        have hrg4 := hrg3.of_walks hk3
        go_roundw
        case rel => exact ⟨_, cnt2, ps ++ [(x, ⟨ca, ck, cx, cd⟩)], hrg4, by simp; omega, hC2, hV2, by simpa using hJ4⟩
        case measure => rw [hrg4.left_eq, hrg.left_eq]; exact hlt
      · gi_wp2
        refine bodyPost_ret (results_none rfl _ _ _) rfl ?_
        exact ⟨⟨_, rfl⟩, .inr ⟨_, trivial, hJx3⟩⟩
/-- .. as the law of a range over a function wants it. -/
theorem values_stops (F : Fence) (n : Nat) (hF : F.fn 45) (hro : F.round = none) (hn : 1 ≤ n) (Bm ob b nn : Nat) (D0 : DataW Value) (w : World) (hBm : Bm < w.heap.size)
    (hm : w.cell? ⟨Bm, ob, none⟩ = some (.map (some b))) (hown : w.ownsMap Try.prog 9 Rv b nn D0) :
    SeqStopsK F n Try.prog 45 #[.pointer (some ⟨Bm, ob, none⟩)] (fun x : EvV => #[x.v]) KeepsWalks (fun xs => ∃ ps, AllOf D0 ps ∧ xs = ps.map (·.2)) (fun _ => True) (Maps.size D0) w := fun l J Jx W hW hJ _ hY h0 => by
  have hown' : W.ownsMap Try.prog 9 Rv b nn D0 := by
    have hbl := hown.lt
    obtain ⟨es, clock, hb, Ft, hs, hD⟩ := hown
    exact ⟨es, clock, (hW.block b hbl).trans hb, Ft, hs, hD⟩
  exact values1 F n hF hro hn l Bm ob b nn D0 J Jx hY W hJ ((hW.cell (p := ⟨Bm, ob, none⟩) hBm).trans hm) hown' h0
end Go.Proofs.Ytcjcbcmapjcfnaa
