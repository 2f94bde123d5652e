/- What maps.Keys's iterator hands on: each key once; and slices.Sorted of it.
   No condition beyond what stands in each statement. -/
import Derived.Sort.MapsRangeIn
import Derived.Sort.KeysCollected
import Derived.RangeFuncGives
import Derived.Shelf.SlIter.Sorted
import Derived.Shelf.Sort.Plain
import Derived.Shelf.SlMaps.Clone
import Derived.Shelf.Slices.In.SortNone
import Derived.Test.YtpfdandpmpmbiaaH2
namespace Go.Proofs.Ytpfdandpmpmbiaa
open Go Go.RowKit Go.Maps Go.Sort Go.Shelf Go.Proofs
set_option linter.unusedVariables false
set_option linter.unusedSimpArgs false
attribute [local go_sem] Oper.semAt_some

set_option maxRecDepth 100000 in
set_option maxHeartbeats 2000000 in
theorem keys1 (F : Fence) (n : Nat) (hF : F.fn 80) (hro : F.round = none) (hn : 1 ≤ n) (l Bm ob b nn : Nat) (D0 : DataW Value) {R : Value → Option (DataW Value × List MemPlace)} (J : List (List UInt8) → World → Prop)
    (hY : ∀ pre x W, J pre W → pre.length < Maps.size D0 → YieldAt F (n - 1) Try.prog l #[encStr x] W fun e W' => e = .returned (.bool true) ∧ J (pre ++ [x]) W' ∧ KeepsWalks W W')
    (W : World) (hJ : AbidesFrom W.heap.size J) (hm : W.cell? ⟨Bm, ob, none⟩ = some (.map (some b))) (hown : W.ownsMap Try.prog 9 R b nn D0) (h0 : J [] W) :
    CallsIn F n Try.prog 80 #[.func (.yield l) #[] #[], .pointer (some ⟨Bm, ob, none⟩)] W fun e W' => (∃ v, e = .returned v) ∧ ∃ ss : List (List UInt8), ss.Perm (strKeys D0) ∧ J ss W' := by
  have ty9 : Try.prog.underlying 9 = some .string := by kernel_rfl
  have tyM : Try.prog.underlying 98 = some (.map 9 50) := by kernel_rfl
  refine callsIn_of_wp Try.func80 rfl hF ?_ hro
  simp only [Try.ntmps80, List.size_toArray, List.length_cons, List.length_nil, Nat.reduceAdd, Nat.reduceSub, Array.replicate_succ, Array.replicate_zero, List.push_toArray, List.append_toArray, List.nil_append, List.cons_append]
  gi_wp2_with (first
    | (gi_at_range; refine wpListIn_range_own _ rfl _ 98 rfl 9 50 (string_keyed ty9) tyM _ b nn _ rfl hown ?_; intro w0 hrg0 hg0 hs0)
    | gi_in)
  go_frame
  gi_loopw [3] (fun _ wr => ∃ (left : Lit → Bool) (cnt : Nat) (ss : List (List UInt8)), wr.ranges Try.prog 9 R b W.heap.size nn D0 left cnt ∧ ss.length + cnt ≤ Maps.size D0 ∧ Collected D0 left ss ∧ J ss wr)
    (fun _ wr => wr.rangeLeft b W.heap.size)
  case atStart =>
    exact ⟨_, _, [], hrg0, by simp, Collected.start D0, hJ [] W w0 none h0 hg0 (fun r e => by cases e)⟩
  case round =>
    obtain ⟨left, cnt, ss, hrg, hcs, hC, hJs⟩ := hrel
    gi_wp2_with (first
      | (gi_at_next; refine wpListIn_next_ranges _ rfl _ rfl 9 (string_keyed ty9) R encStr id (fun key kl hk => by obtain ⟨x, hx, _⟩ := Maps.keyOf_str ty9 hk; exact ⟨x, hx⟩) (fun v _ _ => ⟨v, rfl⟩) b W.heap.size nn _ _ _ rfl hrg ?_ ?_)
      | gi_in)
    · intro hc0 hl0
      gi_wp2
      go_end0
      exact ⟨⟨_, rfl⟩, ss, hC.perm hown (string_keyed ty9) ty9 hl0, hJs⟩
    · intro x c kl yd yp w2 cnt2 hkey hlk hv hat hrg2 hlt hg2 hs2 hen
      obtain ⟨x', ex, rfl, _⟩ := Maps.keyOf_str ty9 hkey
      obtain rfl : x = x' := encStr_inj ex
      have hJ2 : J ss w2 := hJ ss wr w2 (some W.heap.size) hJs hg2 (fun r e => by cases e; exact ⟨Nat.le_refl _, hrg.iter_walk⟩)
      obtain ⟨fn, tmps, assign, body, hy, hR⟩ := hY ss x w2 hJ2 (by omega)
      clear hs2
      gi_wp2
      refine hR.mono ?_
      rintro e W3 ⟨rfl, hJ3, hk3⟩
      gi_wp2
      have hrg3 := hrg2.of_walks hk3
      go_roundw
      case rel => exact ⟨_, cnt2, ss ++ [x], hrg3, by simp; omega, hC.step hlk hat, hJ3⟩
      case measure => rw [hrg3.left_eq, hrg.left_eq]; exact hlt
theorem keys_gives (F : Fence) (n : Nat) (hF : F.fn 80) (hro : F.round = none) (hn : 1 ≤ n) (Bm ob b nn : Nat) (D0 : DataW Value) {R : Value → Option (DataW Value × List MemPlace)} (w : World) (hBm : Bm < w.heap.size)
    (hm : w.cell? ⟨Bm, ob, none⟩ = some (.map (some b))) (hown : w.ownsMap Try.prog 9 R b nn D0) :
    SeqGives F n Try.prog 80 #[.pointer (some ⟨Bm, ob, none⟩)] encStr (fun ss => ss.Perm (strKeys D0)) (Maps.size D0) w := fun l J W hW hJ hY h0 => by
  have hown' : W.ownsMap Try.prog 9 R b nn D0 := by
    have hbl := hown.lt
    obtain ⟨es, clock, hb, Ft, hs, hD⟩ := hown
    exact ⟨es, clock, (hW.block b hbl).trans hb, Ft, hs, hD⟩
  exact keys1 F n hF hro hn l Bm ob b nn D0 J hY W hJ ((hW.cell (p := ⟨Bm, ob, none⟩) hBm).trans hm) hown' h0
def sortedK_ren : Go.Shelf.Ren := ⟨fun | 0 => 0 | 1 => 1 | 2 => 2 | 6 => 53 | 7 => 54 | 8 => 78 | 9 => 79 | 10 => 80 | 11 => 101 | 12 => 102 | 13 => 103 | 14 => 113 | 15 => 114 | 16 => 115 | 17 => 116 | 18 => 117 | 19 => 118 | 20 => 119 | 21 => 120 | 22 => 121 | 23 => 122 | 24 => 123 | 25 => 127 | 26 => 128 | 27 => 129 | 28 => 130 | 29 => 131 | 30 => 105 | 31 => 133 | 32 => 134 | 33 => 135 | 34 => 136 | 35 => 137 | 36 => 138 | 37 => 139 | 38 => 140 | 39 => 141 | 40 => 142 | 41 => 143 | 42 => 144 | 43 => 145 | 44 => 146 | 45 => 147 | 46 => 148 | 47 => 149 | n => n, fun | 0 => 0 | 1 => 1 | 2 => 2 | 3 => 3 | 4 => 4 | 5 => 5 | 6 => 6 | 7 => 7 | 8 => 8 | 9 => 9 | 10 => 10 | 11 => 11 | 12 => 12 | 13 => 13 | 14 => 14 | 15 => 15 | 16 => 16 | 17 => 17 | 18 => 18 | 19 => 19 | 20 => 20 | 21 => 21 | 24 => 102 | 25 => 103 | 26 => 9 | 27 => 104 | 28 => 105 | 32 => 136 | 33 => 137 | 34 => 158 | 35 => 159 | 36 => 160 | 37 => 161 | 38 => 168 | 39 => 169 | 40 => 170 | 41 => 171 | 42 => 172 | 43 => 173 | 44 => 174 | 45 => 142 | 46 => 175 | 47 => 176 | 48 => 177 | 49 => 178 | 50 => 179 | 51 => 181 | 52 => 182 | 53 => 183 | 54 => 184 | 55 => 185 | 56 => 186 | 57 => 188 | 58 => 189 | 59 => 190 | 60 => 191 | 61 => 192 | 62 => 193 | 63 => 194 | 64 => 195 | 65 => 196 | 66 => 27 | 67 => 197 | 68 => 198 | 69 => 199 | 70 => 200 | 71 => 201 | 72 => 202 | 73 => 203 | 74 => 204 | 75 => 205 | n => n, fun n => n⟩
theorem sortedK : SlLaysZ.n6 Go.Proofs.Try.prog sortedK_ren := {
  mixed := by kernel_rfl
  f6 := ⟨Go.Proofs.Try.f53.name, by kernel_rfl, Go.Proofs.Try.func53.trans (congrArg some (by kernel_rfl))⟩
  f8 := ⟨Go.Proofs.Try.f78.name, by kernel_rfl, Go.Proofs.Try.func78.trans (congrArg some (by kernel_rfl))⟩
  f11 := ⟨Go.Proofs.Try.f101.name, by kernel_rfl, Go.Proofs.Try.func101.trans (congrArg some (by kernel_rfl))⟩
  t0 := Go.Proofs.Try.underlying0
  a0 := Go.Proofs.Try.isAgg0
  z0 := Go.Proofs.Try.sizeOf0
  v0 := Go.Proofs.Try.zeroValue0
  t24 := Go.Proofs.Try.underlying102
  a24 := Go.Proofs.Try.isAgg102
  z24 := Go.Proofs.Try.sizeOf102
  v24 := Go.Proofs.Try.zeroValue102
  t26 := Go.Proofs.Try.underlying9
  a26 := Go.Proofs.Try.isAgg9
  z26 := Go.Proofs.Try.sizeOf9
  v26 := Go.Proofs.Try.zeroValue9
  t28 := Go.Proofs.Try.underlying105
  a28 := Go.Proofs.Try.isAgg105
  z28 := Go.Proofs.Try.sizeOf105
  v28 := Go.Proofs.Try.zeroValue105
  i26 := by kernel_rfl }
def layK_ren : Go.Shelf.Ren := ⟨fun | 125 => 103 | 128 => 122 | 129 => 123 | 190 => 79 | 258 => 102 | 302 => 113 | 303 => 114 | 304 => 115 | 305 => 116 | 306 => 117 | 307 => 118 | 308 => 119 | 309 => 120 | 310 => 121 | 329 => 128 | 330 => 129 | 333 => 127 | 334 => 130 | 335 => 131 | 336 => 105 | 344 => 133 | n => n, fun | 0 => 0 | 3 => 3 | 4 => 4 | 5 => 5 | 9 => 9 | 31 => 102 | 46 => 161 | 51 => 177 | 53 => 179 | 131 => 142 | 182 => 169 | 183 => 170 | 218 => 181 | 222 => 185 | 228 => 188 | 229 => 189 | n => n, fun n => n⟩
theorem layK : Lays.n190 Go.Proofs.Try.prog layK_ren := {
  mixed := by kernel_rfl
  f125 := Go.Proofs.Try.func103.trans (congrArg some (by kernel_rfl))
  f128 := Go.Proofs.Try.func122.trans (congrArg some (by kernel_rfl))
  f129 := Go.Proofs.Try.func123.trans (congrArg some (by kernel_rfl))
  f190 := Go.Proofs.Try.func79.trans (congrArg some (by kernel_rfl))
  f258 := Go.Proofs.Try.func102.trans (congrArg some (by kernel_rfl))
  f302 := Go.Proofs.Try.func113.trans (congrArg some (by kernel_rfl))
  f303 := Go.Proofs.Try.func114.trans (congrArg some (by kernel_rfl))
  f304 := Go.Proofs.Try.func115.trans (congrArg some (by kernel_rfl))
  f305 := Go.Proofs.Try.func116.trans (congrArg some (by kernel_rfl))
  f306 := Go.Proofs.Try.func117.trans (congrArg some (by kernel_rfl))
  f307 := Go.Proofs.Try.func118.trans (congrArg some (by kernel_rfl))
  f308 := Go.Proofs.Try.func119.trans (congrArg some (by kernel_rfl))
  f309 := Go.Proofs.Try.func120.trans (congrArg some (by kernel_rfl))
  f310 := Go.Proofs.Try.func121.trans (congrArg some (by kernel_rfl))
  f329 := Go.Proofs.Try.func128.trans (congrArg some (by kernel_rfl))
  f330 := Go.Proofs.Try.func129.trans (congrArg some (by kernel_rfl))
  f333 := Go.Proofs.Try.func127.trans (congrArg some (by kernel_rfl))
  f334 := Go.Proofs.Try.func130.trans (congrArg some (by kernel_rfl))
  f335 := Go.Proofs.Try.func131.trans (congrArg some (by kernel_rfl))
  f336 := Go.Proofs.Try.func105.trans (congrArg some (by kernel_rfl))
  f344 := Go.Proofs.Try.func133.trans (congrArg some (by kernel_rfl))
  t0 := Go.Proofs.Try.underlying0
  a0 := Go.Proofs.Try.isAgg0
  z0 := Go.Proofs.Try.sizeOf0
  v0 := Go.Proofs.Try.zeroValue0
  t3 := Go.Proofs.Try.underlying3
  a3 := Go.Proofs.Try.isAgg3
  z3 := Go.Proofs.Try.sizeOf3
  v3 := Go.Proofs.Try.zeroValue3
  t4 := Go.Proofs.Try.underlying4
  a4 := Go.Proofs.Try.isAgg4
  z4 := Go.Proofs.Try.sizeOf4
  v4 := Go.Proofs.Try.zeroValue4
  t5 := Go.Proofs.Try.underlying5
  a5 := Go.Proofs.Try.isAgg5
  z5 := Go.Proofs.Try.sizeOf5
  v5 := Go.Proofs.Try.zeroValue5
  t9 := Go.Proofs.Try.underlying9
  a9 := Go.Proofs.Try.isAgg9
  z9 := Go.Proofs.Try.sizeOf9
  v9 := Go.Proofs.Try.zeroValue9
  t31 := Go.Proofs.Try.underlying102
  a31 := Go.Proofs.Try.isAgg102
  z31 := Go.Proofs.Try.sizeOf102
  v31 := Go.Proofs.Try.zeroValue102
  t46 := Go.Proofs.Try.underlying161
  a46 := Go.Proofs.Try.isAgg161
  z46 := Go.Proofs.Try.sizeOf161
  v46 := Go.Proofs.Try.zeroValue161
  t51 := Go.Proofs.Try.underlying177
  a51 := Go.Proofs.Try.isAgg177
  z51 := Go.Proofs.Try.sizeOf177
  v51 := Go.Proofs.Try.zeroValue177
  t53 := Go.Proofs.Try.underlying179
  a53 := Go.Proofs.Try.isAgg179
  z53 := Go.Proofs.Try.sizeOf179
  v53 := Go.Proofs.Try.zeroValue179
  t131 := Go.Proofs.Try.underlying142
  a131 := Go.Proofs.Try.isAgg142
  z131 := Go.Proofs.Try.sizeOf142
  v131 := Go.Proofs.Try.zeroValue142
  t182 := Go.Proofs.Try.underlying169
  a182 := Go.Proofs.Try.isAgg169
  z182 := Go.Proofs.Try.sizeOf169
  v182 := Go.Proofs.Try.zeroValue169
  t183 := Go.Proofs.Try.underlying170
  a183 := Go.Proofs.Try.isAgg170
  z183 := Go.Proofs.Try.sizeOf170
  v183 := Go.Proofs.Try.zeroValue170
  t218 := Go.Proofs.Try.underlying181
  a218 := Go.Proofs.Try.isAgg181
  z218 := Go.Proofs.Try.sizeOf181
  v218 := Go.Proofs.Try.zeroValue181
  t222 := Go.Proofs.Try.underlying185
  a222 := Go.Proofs.Try.isAgg185
  z222 := Go.Proofs.Try.sizeOf185
  v222 := Go.Proofs.Try.zeroValue185
  t228 := Go.Proofs.Try.underlying188
  a228 := Go.Proofs.Try.isAgg188
  z228 := Go.Proofs.Try.sizeOf188
  v228 := Go.Proofs.Try.zeroValue188
  t229 := Go.Proofs.Try.underlying189
  a229 := Go.Proofs.Try.isAgg189
  z229 := Go.Proofs.Try.sizeOf189
  v229 := Go.Proofs.Try.zeroValue189 }
def cloneK_ren : Go.Shelf.Ren := ⟨fun | 5 => 65 | 7 => 91 | n => n, fun | 3 => 50 | 4 => 4 | 20 => 20 | 23 => 98 | 25 => 9 | n => n, fun n => n⟩
theorem cloneK : SlLaysW.n5 Go.Proofs.Try.prog cloneK_ren := {
  mixed := by kernel_rfl
  f5 := ⟨Go.Proofs.Try.f65.name, by kernel_rfl, Go.Proofs.Try.func65.trans (congrArg some (by kernel_rfl))⟩
  f7 := Go.Proofs.Try.func91.trans (congrArg some (by kernel_rfl))
  t4 := Go.Proofs.Try.underlying4
  a4 := Go.Proofs.Try.isAgg4
  z4 := Go.Proofs.Try.sizeOf4
  v4 := Go.Proofs.Try.zeroValue4
  t20 := Go.Proofs.Try.underlying20
  a20 := Go.Proofs.Try.isAgg20
  z20 := Go.Proofs.Try.sizeOf20
  v20 := Go.Proofs.Try.zeroValue20
  t23 := Go.Proofs.Try.underlying98
  a23 := Go.Proofs.Try.isAgg98
  z23 := Go.Proofs.Try.sizeOf98
  v23 := Go.Proofs.Try.zeroValue98 }
theorem sortsK (m : Nat) : AnyZ.SortsIn Try.prog sortedK_ren Fence.wide m :=
  ⟨fun blk off cap ss W hH hblk hsz => callsIn_wide.2 (Any.slices_Sort_string layK blk off cap ss W hH hblk hsz),
   fun p cap W => callsIn_wide.2 (Any.slices_Sort_string_none layK p cap W)⟩
theorem sortedKeys (Bm ob b nn : Nat) (D0 : DataW Value) {R : Value → Option (DataW Value × List MemPlace)} (w : World) (hBm : Bm < w.heap.size) (hm : w.cell? ⟨Bm, ob, none⟩ = some (.map (some b))) (hown : w.ownsMap Try.prog 9 R b nn D0)
    (hmax : Maps.size D0 ≤ 1000000) :
    Calls Try.prog 53 #[.func (.func 80) #[] #[.pointer (some ⟨Bm, ob, none⟩)]] w fun e w' => ∃ (v : Value) (ss : List (List UInt8)), e = .returned v ∧ ss.Perm (strKeys D0) ∧
      w'.ownsRow w.heap.size 9 1 v ss.length ((ss.mergeSort (fun x y => decide (x ≤ y))).map encStr) ∧ (v = .slice none 0 0 ↔ ss = []) ∧ Below w.heap.size w w' :=
  (callsIn_wide (n := 5)).1 (AnyZ.sorted_in sortedK Fence.wide 5 trivial trivial trivial trivial rfl (by omega) (sortsK _) (enters_of Try.func79 (by kernel_rfl) rfl) 80 #[.pointer (some ⟨Bm, ob, none⟩)] trivial (enters_of Try.func80 (by kernel_rfl) rfl) _ _
    (by have : maxLen = 9223372036854775807 := rfl; omega) (by omega) w (keys_gives Fence.wide 2 trivial rfl (by omega) Bm ob b nn D0 w hBm hm hown))
end Go.Proofs.Ytpfdandpmpmbiaa
