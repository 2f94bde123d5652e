/- token.join, as the kit's contracts of strings.Builder tell it.
   No condition beyond what stands in each statement. -/
import Derived.WalkKit
import Derived.Shelf.Strings.OnBuilder
import Derived.Lib.SlBytesRow
import Derived.Test.YtokfjifeofpkkaaGreatProg
namespace Go.Proofs.YtokfjifeofpkkaaGreat
open Go Go.RowKit Go.Shelf Go.Proofs
set_option linter.unusedVariables false
set_option linter.unusedSimpArgs false
set_option maxRecDepth 100000
def layWS_ren : Go.Shelf.Ren := ⟨fun | 166 => 81 | 240 => 124 | 276 => 163 | n => n, fun | 0 => 0 | 3 => 3 | 4 => 4 | 9 => 9 | 20 => 20 | 37 => 121 | 70 => 164 | 72 => 166 | 75 => 168 | 80 => 172 | 164 => 268 | n => n, fun n => n⟩
theorem layWS : Lays.n166 Go.Proofs.Tryz.prog layWS_ren := {
 mixed := by kernel_rfl
 f166 := Go.Proofs.Tryz.func81.trans (congrArg some (by kernel_rfl))
 f240 := Go.Proofs.Tryz.func124.trans (congrArg some (by kernel_rfl))
 f276 := Go.Proofs.Tryz.func163.trans (congrArg some (by kernel_rfl))
 t0 := Go.Proofs.Tryz.underlying0
 a0 := Go.Proofs.Tryz.isAgg0
 z0 := Go.Proofs.Tryz.sizeOf0
 v0 := Go.Proofs.Tryz.zeroValue0
 t3 := Go.Proofs.Tryz.underlying3
 a3 := Go.Proofs.Tryz.isAgg3
 z3 := Go.Proofs.Tryz.sizeOf3
 v3 := Go.Proofs.Tryz.zeroValue3
 t4 := Go.Proofs.Tryz.underlying4
 a4 := Go.Proofs.Tryz.isAgg4
 z4 := Go.Proofs.Tryz.sizeOf4
 v4 := Go.Proofs.Tryz.zeroValue4
 t9 := Go.Proofs.Tryz.underlying9
 a9 := Go.Proofs.Tryz.isAgg9
 z9 := Go.Proofs.Tryz.sizeOf9
 v9 := Go.Proofs.Tryz.zeroValue9
 t20 := Go.Proofs.Tryz.underlying20
 a20 := Go.Proofs.Tryz.isAgg20
 z20 := Go.Proofs.Tryz.sizeOf20
 v20 := Go.Proofs.Tryz.zeroValue20
 t37 := Go.Proofs.Tryz.underlying121
 a37 := Go.Proofs.Tryz.isAgg121
 z37 := Go.Proofs.Tryz.sizeOf121
 v37 := Go.Proofs.Tryz.zeroValue121
 t70 := Go.Proofs.Tryz.underlying164
 a70 := Go.Proofs.Tryz.isAgg164
 z70 := Go.Proofs.Tryz.sizeOf164
 v70 := Go.Proofs.Tryz.zeroValue164
 t72 := Go.Proofs.Tryz.underlying166
 a72 := Go.Proofs.Tryz.isAgg166
 z72 := Go.Proofs.Tryz.sizeOf166
 v72 := Go.Proofs.Tryz.zeroValue166
 t75 := Go.Proofs.Tryz.underlying168
 a75 := Go.Proofs.Tryz.isAgg168
 z75 := Go.Proofs.Tryz.sizeOf168
 v75 := Go.Proofs.Tryz.zeroValue168
 t164 := Go.Proofs.Tryz.underlying268
 a164 := Go.Proofs.Tryz.isAgg268
 z164 := Go.Proofs.Tryz.sizeOf268
 v164 := Go.Proofs.Tryz.zeroValue268 }
def layWB_ren : Go.Shelf.Ren := ⟨fun | 167 => 82 | 240 => 124 | 276 => 163 | n => n, fun | 0 => 0 | 4 => 4 | 5 => 5 | 9 => 9 | 20 => 20 | 37 => 121 | 70 => 164 | 72 => 166 | 75 => 168 | 80 => 172 | 164 => 268 | n => n, fun n => n⟩
theorem layWB : Lays.n167 Go.Proofs.Tryz.prog layWB_ren := {
 mixed := by kernel_rfl
 f167 := Go.Proofs.Tryz.func82.trans (congrArg some (by kernel_rfl))
 f240 := Go.Proofs.Tryz.func124.trans (congrArg some (by kernel_rfl))
 f276 := Go.Proofs.Tryz.func163.trans (congrArg some (by kernel_rfl))
 t0 := Go.Proofs.Tryz.underlying0
 a0 := Go.Proofs.Tryz.isAgg0
 z0 := Go.Proofs.Tryz.sizeOf0
 v0 := Go.Proofs.Tryz.zeroValue0
 t4 := Go.Proofs.Tryz.underlying4
 a4 := Go.Proofs.Tryz.isAgg4
 z4 := Go.Proofs.Tryz.sizeOf4
 v4 := Go.Proofs.Tryz.zeroValue4
 t5 := Go.Proofs.Tryz.underlying5
 a5 := Go.Proofs.Tryz.isAgg5
 z5 := Go.Proofs.Tryz.sizeOf5
 v5 := Go.Proofs.Tryz.zeroValue5
 t9 := Go.Proofs.Tryz.underlying9
 a9 := Go.Proofs.Tryz.isAgg9
 z9 := Go.Proofs.Tryz.sizeOf9
 v9 := Go.Proofs.Tryz.zeroValue9
 t20 := Go.Proofs.Tryz.underlying20
 a20 := Go.Proofs.Tryz.isAgg20
 z20 := Go.Proofs.Tryz.sizeOf20
 v20 := Go.Proofs.Tryz.zeroValue20
 t37 := Go.Proofs.Tryz.underlying121
 a37 := Go.Proofs.Tryz.isAgg121
 z37 := Go.Proofs.Tryz.sizeOf121
 v37 := Go.Proofs.Tryz.zeroValue121
 t70 := Go.Proofs.Tryz.underlying164
 a70 := Go.Proofs.Tryz.isAgg164
 z70 := Go.Proofs.Tryz.sizeOf164
 v70 := Go.Proofs.Tryz.zeroValue164
 t72 := Go.Proofs.Tryz.underlying166
 a72 := Go.Proofs.Tryz.isAgg166
 z72 := Go.Proofs.Tryz.sizeOf166
 v72 := Go.Proofs.Tryz.zeroValue166
 t75 := Go.Proofs.Tryz.underlying168
 a75 := Go.Proofs.Tryz.isAgg168
 z75 := Go.Proofs.Tryz.sizeOf168
 v75 := Go.Proofs.Tryz.zeroValue168
 t164 := Go.Proofs.Tryz.underlying268
 a164 := Go.Proofs.Tryz.isAgg268
 z164 := Go.Proofs.Tryz.sizeOf268
 v164 := Go.Proofs.Tryz.zeroValue268 }
def layST_ren : Go.Shelf.Ren := ⟨fun | 169 => 83 | n => n, fun | 0 => 0 | 3 => 3 | 9 => 9 | 37 => 121 | 70 => 164 | 72 => 166 | 127 => 230 | n => n, fun n => n⟩
theorem layST : Lays.n169 Go.Proofs.Tryz.prog layST_ren := {
 mixed := by kernel_rfl
 f169 := Go.Proofs.Tryz.func83.trans (congrArg some (by kernel_rfl))
 t0 := Go.Proofs.Tryz.underlying0
 a0 := Go.Proofs.Tryz.isAgg0
 z0 := Go.Proofs.Tryz.sizeOf0
 v0 := Go.Proofs.Tryz.zeroValue0
 t3 := Go.Proofs.Tryz.underlying3
 a3 := Go.Proofs.Tryz.isAgg3
 z3 := Go.Proofs.Tryz.sizeOf3
 v3 := Go.Proofs.Tryz.zeroValue3
 t9 := Go.Proofs.Tryz.underlying9
 a9 := Go.Proofs.Tryz.isAgg9
 z9 := Go.Proofs.Tryz.sizeOf9
 v9 := Go.Proofs.Tryz.zeroValue9
 t37 := Go.Proofs.Tryz.underlying121
 a37 := Go.Proofs.Tryz.isAgg121
 z37 := Go.Proofs.Tryz.sizeOf121
 v37 := Go.Proofs.Tryz.zeroValue121
 t70 := Go.Proofs.Tryz.underlying164
 a70 := Go.Proofs.Tryz.isAgg164
 z70 := Go.Proofs.Tryz.sizeOf164
 v70 := Go.Proofs.Tryz.zeroValue164
 t72 := Go.Proofs.Tryz.underlying166
 a72 := Go.Proofs.Tryz.isAgg166
 z72 := Go.Proofs.Tryz.sizeOf166
 v72 := Go.Proofs.Tryz.zeroValue166
 t127 := Go.Proofs.Tryz.underlying230
 a127 := Go.Proofs.Tryz.isAgg230
 z127 := Go.Proofs.Tryz.sizeOf230
 v127 := Go.Proofs.Tryz.zeroValue230 }
theorem layWS_x : Builder.Extra Tryz.prog layWS_ren := { sizeBuilder := by kernel_rfl, liesBuilder := by kernel_rfl, t5 := Tryz.underlying5, a5 := Tryz.isAgg5, z5 := Tryz.sizeOf5, v5 := Tryz.zeroValue5, infoByte := by kernel_rfl, cellsByte := by kernel_rfl, sizeByte := by kernel_rfl, neB5 := by decide }
theorem layWB_x : Builder.Extra Tryz.prog layWB_ren := { sizeBuilder := by kernel_rfl, liesBuilder := by kernel_rfl, t5 := Tryz.underlying5, a5 := Tryz.isAgg5, z5 := Tryz.sizeOf5, v5 := Tryz.zeroValue5, infoByte := by kernel_rfl, cellsByte := by kernel_rfl, sizeByte := by kernel_rfl, neB5 := by decide }
theorem layST_x : Builder.Extra Tryz.prog layST_ren := { sizeBuilder := by kernel_rfl, liesBuilder := by kernel_rfl, t5 := Tryz.underlying5, a5 := Tryz.isAgg5, z5 := Tryz.sizeOf5, v5 := Tryz.zeroValue5, infoByte := by kernel_rfl, cellsByte := by kernel_rfl, sizeByte := by kernel_rfl, neB5 := by decide }
def partB (x : ByteArray) : List UInt8 := UInt8.ofNat x.size :: x.data.toList
def partsB (xs : List ByteArray) : List UInt8 := xs.flatMap partB
theorem partsB_succ {xs : List ByteArray} {k : Nat} {x : ByteArray} (h : xs[k]? = some x) : partsB (xs.take (k + 1)) = partsB (xs.take k) ++ partB x := by
 unfold partsB
 rw [List.take_add_one, h, List.flatMap_append]
 simp
theorem partsB_le (xs : List ByteArray) (k : Nat) : (partsB (xs.take k)).length ≤ (partsB xs).length := by
 have e : partsB xs = partsB (xs.take k) ++ partsB (xs.drop k) := by
  unfold partsB
  rw [← List.flatMap_append, List.take_append_drop]
 rw [e, List.length_append]
 omega
set_option maxHeartbeats 4000000 in
theorem join_calls (first : ByteArray) (bk o c : Nat) (xs : List ByteArray) (w : World)
 (hcells : ∀ (j : Nat) x, xs[j]? = some x → w.cell? ⟨bk, o + j, none⟩ = some (.string x))
 (hbk : bk < w.heap.size) (hN : xs.length ≤ 140737488355328) (hlen : (first.data.toList ++ partsB xs).length ≤ 140737488355328) :
 Calls Tryz.prog 47 #[.string first, .slice (some ⟨bk, o, none⟩) xs.length c] w fun e w' => e = .returned (.string ⟨(first.data.toList ++ partsB xs).toArray⟩) ∧ Below w.heap.size w w' := by
 have HC := Any.hidJ hcells
 clear hcells
 have mixed : Tryz.prog.follows .mixedOrders = true := by kernel_rfl
 have t3 := Tryz.underlying3; have a3 := Tryz.isAgg3; have z3 := Tryz.sizeOf3; have v3 := Tryz.zeroValue3; have u3 := run_underlying Tryz.underlying3
 have t4 := Tryz.underlying4; have a4 := Tryz.isAgg4; have z4 := Tryz.sizeOf4; have v4 := Tryz.zeroValue4; have u4 := run_underlying Tryz.underlying4
 have t5 := Tryz.underlying5; have a5 := Tryz.isAgg5; have z5 := Tryz.sizeOf5; have v5 := Tryz.zeroValue5; have u5 := run_underlying Tryz.underlying5
 have t9 := Tryz.underlying9; have a9 := Tryz.isAgg9; have z9 := Tryz.sizeOf9; have v9 := Tryz.zeroValue9; have u9 := run_underlying Tryz.underlying9
 have t121 := Tryz.underlying121; have a121 := Tryz.isAgg121; have z121 := Tryz.sizeOf121; have v121 := Tryz.zeroValue121; have u121 := run_underlying Tryz.underlying121
 have t163 := Tryz.underlying163; have a163 := Tryz.isAgg163; have z163 := Tryz.sizeOf163; have v163 := Tryz.zeroValue163; have u163 := run_underlying Tryz.underlying163
 have t164 := Tryz.underlying164; have a164 := Tryz.isAgg164; have z164 := Tryz.sizeOf164; have v164 := Tryz.zeroValue164; have u164 := run_underlying Tryz.underlying164
 have t166 := Tryz.underlying166; have a166 := Tryz.isAgg166; have z166 := Tryz.sizeOf166; have v166 := Tryz.zeroValue166; have u166 := run_underlying Tryz.underlying166
 have hCle : ∀ k, (first.data.toList ++ partsB (xs.take k)).length ≤ 140737488355328 := fun k => by
  have := partsB_le xs k
  rw [List.length_append] at hlen ⊢
  omega
 have HCle := Any.hidJ hCle
 have Hlen := Any.hidJ hlen
 clear hCle hlen
 have eWS : ∀ args w, (callFunc 81 args).run Tryz.prog w = .ok (.enter 81 args) w := enters_of Tryz.func81 (by kernel_rfl) rfl
 have eWB : ∀ args w, (callFunc 82 args).run Tryz.prog w = .ok (.enter 82 args) w := enters_of Tryz.func82 (by kernel_rfl) rfl
 have eST : ∀ args w, (callFunc 83 args).run Tryz.prog w = .ok (.enter 83 args) w := enters_of Tryz.func83 (by kernel_rfl) rfl
 go_enter Tryz.func47, Tryz.ntmps47
 go_wp2_with fail
 refine (Any.Builder_WriteString layWS layWS_x w.heap.size w.heap.size [] first _ (Lib.fresh_isBuilder _ _ w) (by have := HCle.out 0; simp [partsB] at this ⊢; exact this) (by simp)).mono ?_
 rintro e w2 ⟨rfl, h2', hb2⟩
 have hstart : ([] : List Value) ++ Lib.strCells first = Lib.byteCells (first.data.toList ++ partsB (xs.take 0)) := by
  simp [partsB, Lib.strCells_eq]
 rw [hstart] at h2'
 have H2 := Any.hidJ (Or.inr h2' : Lib.IsBuilder 166 5 w.heap.size w.heap.size _ w2)
 have Hb2 := Any.hidJ (((Below.refl w.heap.size w).alloc (Nat.le_refl _) _).trans hb2)
 clear h2' hb2 hstart
 go_wp2_with fail
 go_loopw [12] (fun i wr => ∃ k : Nat, k ≤ xs.length ∧ i = .int .i64 k ∧ Hid (Lib.IsBuilder 166 5 w.heap.size w.heap.size (Lib.byteCells (first.data.toList ++ partsB (xs.take k))) wr) ∧ Hid (Below w.heap.size w wr)) (fun i _ => xs.length - (intOf i).toNat)
 case atStart => exact ⟨0, Nat.zero_le _, rfl, H2, Hb2⟩
 case round =>
  obtain ⟨k, hk', rfl, HB, HW⟩ := hrel
  by_cases hkr : k < xs.length
  ·
   obtain ⟨y, hy⟩ : ∃ y, xs[k]? = some y := ⟨xs[k], List.getElem?_eq_getElem hkr⟩
   have hcy : wr.cell? ⟨bk, o + k, none⟩ = some (.string y) := by
    rw [HW.out.cell (p := ⟨bk, o + k, none⟩) hbk]
    exact HC.out k y hy
   have hBw : w.heap.size ≤ wr.heap.size := HW.out.size
   have hnext : Lib.byteCells (first.data.toList ++ partsB (xs.take k)) ++ [.int .u8 ((y.size : Int) % 256)] ++ Lib.strCells y = Lib.byteCells (first.data.toList ++ partsB (xs.take (k + 1))) := by
    have e8 : (((UInt8.ofNat y.size).toNat : Nat) : Int) = (y.size : Int) % 256 := by rw [UInt8.toNat_ofNat']; omega
    rw [partsB_succ hy, Lib.strCells_eq, ← e8]
    simp [partB, Lib.byteCells]
   have hl1 := HCle.out (k + 1)
   rw [partsB_succ hy] at hl1
   simp only [List.length_append, partB, List.length_cons, ← Lib.size_eq] at hl1
   have hl0 : (Lib.byteCells (first.data.toList ++ partsB (xs.take k))).length = first.size + (partsB (xs.take k)).length := by
    rw [Lib.byteCells_length, List.length_append, ← Lib.size_eq]
   generalize (partsB (xs.take k)).length = J at hl0 hl1
   have Hn := Any.hidJ hnext
   clear hnext hy
   go_wp2_with fail
   refine (Any.Builder_WriteByte layWB layWB_x w.heap.size w.heap.size _ ((y.size : Int) % 256) wr HB.out (by rw [hl0]; omega) hBw).mono ?_
   rintro e w3 ⟨rfl, h3, hb3⟩
   have hBw3 : w.heap.size ≤ w3.heap.size := Nat.le_trans hBw hb3.size
   have H3 := Any.hidJ h3
   have Hb3 := Any.hidJ hb3
   clear h3 hb3
   go_wp2_with fail
   refine (Any.Builder_WriteString layWS layWS_x w.heap.size w.heap.size _ y w3 (Or.inr H3.out) (by rw [List.length_append, hl0]; simp; omega) hBw3).mono ?_
   rintro e w4 ⟨rfl, h4, hb4⟩
   rw [Hn.out] at h4
   have H4 := Any.hidJ (Or.inr h4 : Lib.IsBuilder 166 5 w.heap.size w.heap.size _ w4)
   have Hb4 := Any.hidJ ((HW.out.trans Hb3.out).trans hb4)
   clear h4 hb4
   go_wp2
   exact ⟨⟨k + 1, by omega, by go_num, H4, Hb4⟩, by simp [intOf]; omega⟩
  ·
   have hke : k = xs.length := by omega
   subst hke
   have hB' := HB.out
   rw [List.take_length] at hB'
   have hBw : w.heap.size ≤ wr.heap.size := HW.out.size
   go_wp2_with fail
   refine (Any.Builder_String_any layST layST_x w.heap.size w.heap.size _ wr hB' hBw).mono ?_
   rintro e w5 ⟨rfl, hb5⟩
   have Hb5 := Any.hidJ (HW.out.trans hb5)
   clear hb5 hB'
   go_wp2
   go_ret
   exact ⟨rfl, Hb5.out⟩
def headN (o : Bool) (n : Int) : List Int := [if o then 111 else 119, n / 256 % 256, n % 256]
def putB (f t : ByteArray) (n : Int) (o : Bool) : ByteArray := ⟨((strOfNums (headN o n)).data.toList ++ partsB [f, t]).toArray⟩
theorem parts2 (f t : ByteArray) : (partsB [f, t]).length = f.size + t.size + 2 := by
 simp [partsB, partB, ← Lib.size_eq]
 omega
theorem cell_a1 (w : World) (A : Obj) (C : Array Value) (T : TypeId) (i : Nat) (v : Value) (h : C[i]? = some v) : ((w.alloc A).alloc (.cells C T)).cell? ⟨w.heap.size + 1, 0 + i, none⟩ = some v := by
 have e : (w.alloc A).heap.size = w.heap.size + 1 := by simp
 have g := heap_alloc_new (w.alloc A) (.cells C T)
 rw [e] at g
 rw [Lib.cell_of_heap g, Nat.zero_add]
 exact h
theorem cell_a2 (w : World) (A B : Obj) (C : Array Value) (T : TypeId) (i : Nat) (v : Value) (h : C[i]? = some v) : (((w.alloc A).alloc B).alloc (.cells C T)).cell? ⟨w.heap.size + 1 + 1, 0 + i, none⟩ = some v := by
 have e : (w.alloc A).heap.size = w.heap.size + 1 := by simp
 have g := cell_a1 (w.alloc A) B C T i v h
 rw [e] at g
 exact g
set_option maxHeartbeats 4000000 in
theorem put_calls (f t : ByteArray) (n : Int) (o : Bool) (w : World) (hf : f.size ≤ 1000000000) (ht : t.size ≤ 1000000000) :
 Calls Tryz.prog 28 #[.agg #[.string f, .string t, .int .i64 n, .bool o]] w fun e w' => e = .returned (.string (putB f t n o)) ∧ Below w.heap.size w w' := by
 have mixed : Tryz.prog.follows .mixedOrders = true := by kernel_rfl
 have t3 := Tryz.underlying3; have a3 := Tryz.isAgg3; have z3 := Tryz.sizeOf3; have v3 := Tryz.zeroValue3; have u3 := run_underlying Tryz.underlying3
 have t4 := Tryz.underlying4; have a4 := Tryz.isAgg4; have z4 := Tryz.sizeOf4; have v4 := Tryz.zeroValue4; have u4 := run_underlying Tryz.underlying4
 have t5 := Tryz.underlying5; have a5 := Tryz.isAgg5; have z5 := Tryz.sizeOf5; have v5 := Tryz.zeroValue5; have u5 := run_underlying Tryz.underlying5
 have t9 := Tryz.underlying9; have a9 := Tryz.isAgg9; have z9 := Tryz.sizeOf9; have v9 := Tryz.zeroValue9; have u9 := run_underlying Tryz.underlying9
 have t120 := Tryz.underlying120; have a120 := Tryz.isAgg120; have z120 := Tryz.sizeOf120; have v120 := Tryz.zeroValue120; have u120 := run_underlying Tryz.underlying120
 have t121 := Tryz.underlying121; have a121 := Tryz.isAgg121; have z121 := Tryz.sizeOf121; have v121 := Tryz.zeroValue121; have u121 := run_underlying Tryz.underlying121
 have t163 := Tryz.underlying163; have a163 := Tryz.isAgg163; have z163 := Tryz.sizeOf163; have v163 := Tryz.zeroValue163; have u163 := run_underlying Tryz.underlying163
 have t85 := Tryz.underlying85; have a85 := Tryz.isAgg85; have z85 := Tryz.sizeOf85; have v85 := Tryz.zeroValue85; have u85 := run_underlying Tryz.underlying85
 have t23 := Tryz.underlying23; have a23 := Tryz.isAgg23; have z23 := Tryz.sizeOf23; have v23 := Tryz.zeroValue23; have u23 := run_underlying Tryz.underlying23
 have eJO : ∀ args w, (callFunc 47 args).run Tryz.prog w = .ok (.enter 47 args) w := enters_of Tryz.func47 (by kernel_rfl) rfl
 have hp := parts2 f t
 have h3 : ∀ k : Int, (strOfNums [k, n / 256 % 256, n % 256]).data.toList.length = 3 := fun k => by simp [strOfNums_data]
 have hj := h3 111
 have hj2 := h3 119
 clear h3
 cases o with
 | true =>
  go_enter Tryz.func28, Tryz.ntmps28
  go_wp2_with fail
  rw [run_convert_bytes_arg (P := Tryz.prog) _ 121 5 t121 t5 (w.heap.size + 1) 0 3 3 [111, n / 256 % 256, n % 256] rfl (fun i hi => by
   match i, hi with
   | 0, _ => exact cell_a1 _ _ _ _ _ _ rfl
   | 1, _ => exact cell_a1 _ _ _ _ _ _ rfl
   | 2, _ => exact cell_a1 _ _ _ _ _ _ rfl) 9 t9]
  simp only [Result.andThen]
  rw [Oper.upon_value]
  go_wp2_with fail
  refine (join_calls (strOfNums [111, n / 256 % 256, n % 256]) (w.heap.size + 1 + 1) 0 2 [f, t] _ (fun j x hx => by
   match j, hx with
   | 0, hx => cases hx; exact cell_a2 _ _ _ _ _ _ _ rfl
   | 1, hx => cases hx; exact cell_a2 _ _ _ _ _ _ _ rfl
   | j + 2, hx => simp at hx) (by simp) (by simp) (by rw [List.length_append, hj, hp]; omega)).mono ?_
  rintro e w5 ⟨rfl, hb⟩
  have Hb := Any.hidJ ((((Below.refl w.heap.size w).alloc (Nat.le_refl _) _).alloc (by simp) _).alloc (by simp; omega) _ |>.trans (hb.mono (B' := w.heap.size) (by simp; omega)))
  clear hb
  go_wp2
  go_ret
  exact ⟨rfl, Hb.out⟩
 | false =>
  go_enter Tryz.func28, Tryz.ntmps28
  go_wp2_with fail
  rw [run_convert_bytes_arg (P := Tryz.prog) _ 121 5 t121 t5 (w.heap.size + 1) 0 3 3 [119, n / 256 % 256, n % 256] rfl (fun i hi => by
   match i, hi with
   | 0, _ => exact cell_a1 _ _ _ _ _ _ rfl
   | 1, _ => exact cell_a1 _ _ _ _ _ _ rfl
   | 2, _ => exact cell_a1 _ _ _ _ _ _ rfl) 9 t9]
  simp only [Result.andThen]
  rw [Oper.upon_value]
  go_wp2_with fail
  refine (join_calls (strOfNums [119, n / 256 % 256, n % 256]) (w.heap.size + 1 + 1) 0 2 [f, t] _ (fun j x hx => by
   match j, hx with
   | 0, hx => cases hx; exact cell_a2 _ _ _ _ _ _ _ rfl
   | 1, hx => cases hx; exact cell_a2 _ _ _ _ _ _ _ rfl
   | j + 2, hx => simp at hx) (by simp) (by simp) (by rw [List.length_append, hj2, hp]; omega)).mono ?_
  rintro e w5 ⟨rfl, hb⟩
  have Hb := Any.hidJ ((((Below.refl w.heap.size w).alloc (Nat.le_refl _) _).alloc (by simp) _).alloc (by simp; omega) _ |>.trans (hb.mono (B' := w.heap.size) (by simp; omega)))
  clear hb
  go_wp2
  go_ret
  exact ⟨rfl, Hb.out⟩
end Go.Proofs.YtokfjifeofpkkaaGreat
