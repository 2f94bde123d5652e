/- What a law of this seat is given.
   Conditions: what each theorem says of its arguments and of the heap. -/
import Derived.Test.YtadfhabapgipbaaTa
import Derived.WalkKit
import Derived.ProofKit
import Derived.OpenShut
import Derived.ShutString
import Derived.ChangeOld
import Derived.Below
import Derived.SizedLaws
namespace Go.Proofs.Ytadfhabapgipbaa.V
open Go
set_option maxRecDepth 100000
set_option maxHeartbeats 4000000
set_option linter.unusedVariables false
set_option linter.unusedSimpArgs false
theorem wf_lo {n : Int} (h : (Lit.int .i64 n).wf = true) : -9223372036854775808 ≤ n ∧ n ≤ 9223372036854775807 := by
  simp [Lit.wf, IntKind.min, IntKind.max, IntKind.signed, IntKind.bits] at h
  omega
theorem flagS_slice (a : Option Addr) (l c : Nat) : ∃ a', flagS (.slice a l c) = .slice a' l c ∧ ∀ x, a' = some x → x.spot ≠ some 0 := by
  cases a with
  | none => exact ⟨none, rfl, fun x h => by cases h⟩
  | some a =>
    refine ⟨some (flagA a), rfl, fun x h => ?_⟩
    cases h
    obtain ⟨b, o, s⟩ := a
    cases s <;> simp [flagA]
section
variable {H : Type} {enc : TypeId × Value → H} {W : World} {spare : Nat → Bool} {held : Bool}
theorem u_3 : Try.prog.underlying 3 = some (.int .i64) := by kernel_rfl
theorem co_3 : Try.prog.cellsOf 3 = 1 := by kernel_rfl
theorem u_9 : Try.prog.underlying 9 = some (.string) := by kernel_rfl
theorem co_9 : Try.prog.cellsOf 9 = 1 := by kernel_rfl
theorem u_23 : Try.prog.underlying 23 = some (.struct (Try.prog.fieldsOf 23)) := by kernel_rfl
theorem co_23 : Try.prog.cellsOf 23 = 2 := by kernel_rfl
theorem op_23 {fuel : Nat} {cs : List Value} {x : DataW H × List MemPlace} (h : DataW.trod enc Try.prog W 0 spare held fuel 23 cs = some x) :
    ∃ (x0 : ByteArray) (x1 : ByteArray), cs = [.string x0, .string x1] ∧ x0.size ≤ maxLen ∧ x1.size ≤ maxLen := by
  obtain ⟨xs, n, rfl, rfl, hl, hxl, hf⟩ := DataW.trod_struct u_23 h
  rw [co_23] at hl
  obtain ⟨c0, c1, rfl⟩ : ∃ c0 c1, cs = [c0, c1] := by
    match cs, hl with
    | [c0, c1], _ => exact ⟨c0, c1, rfl⟩
  have hxl : xs.length = 2 := hxl
  have g0 : DataW.trod enc Try.prog W 0 spare held n 9 [c0] = some (xs[0]) := by
    have g := hf 0 _ rfl
    rw [List.getElem?_eq_getElem (show 0 < xs.length by omega)] at g
    exact g
  obtain ⟨x0, e0, _, w0⟩ := DataW.trod_string u_9 g0
  obtain rfl : c0 = .string x0 := by simpa using e0
  have g1 : DataW.trod enc Try.prog W 0 spare held n 9 [c1] = some (xs[1]) := by
    have g := hf 1 _ rfl
    rw [List.getElem?_eq_getElem (show 1 < xs.length by omega)] at g
    exact g
  obtain ⟨x1, e1, _, w1⟩ := DataW.trod_string u_9 g1
  obtain rfl : c1 = .string x1 := by simpa using e1
  exact ⟨x0, x1, rfl, w0, w1⟩
theorem u_24 : Try.prog.underlying 24 = some (.slice 65) := by kernel_rfl
theorem co_24 : Try.prog.cellsOf 24 = 1 := by kernel_rfl
theorem u_25 : Try.prog.underlying 25 = some (.slice 69) := by kernel_rfl
theorem co_25 : Try.prog.cellsOf 25 = 1 := by kernel_rfl
theorem u_27 : Try.prog.underlying 27 = some (.struct (Try.prog.fieldsOf 27)) := by kernel_rfl
theorem co_27 : Try.prog.cellsOf 27 = 7 := by kernel_rfl
theorem op_27 {fuel : Nat} {cs : List Value} {x : DataW H × List MemPlace} (h : DataW.trod enc Try.prog W 0 spare held fuel 27 cs = some x) :
    ∃ (x0 : Int) (x1 : ByteArray) (x2 : ByteArray) (x3 : Int) (x4 : Value) (x5 : Value) (x6 : Value), cs = [.int .i64 x0, .string x1, .string x2, .int .i64 x3, x4, x5, x6] ∧ (Lit.int .i64 x0).wf = true ∧ x1.size ≤ maxLen ∧ x2.size ≤ maxLen ∧ (Lit.int .i64 x3).wf = true ∧ (okC x4 = true ∧ ∃ n y, DataW.trod enc Try.prog W 0 spare held n 24 [x4] = some y) ∧ (okC x5 = true ∧ ∃ n y, DataW.trod enc Try.prog W 0 spare held n 25 [x5] = some y) ∧ (okC x6 = true ∧ ∃ n y, DataW.trod enc Try.prog W 0 spare held n 25 [x6] = some y) := by
  obtain ⟨xs, n, rfl, rfl, hl, hxl, hf⟩ := DataW.trod_struct u_27 h
  rw [co_27] at hl
  obtain ⟨c0, c1, c2, c3, c4, c5, c6, rfl⟩ : ∃ c0 c1 c2 c3 c4 c5 c6, cs = [c0, c1, c2, c3, c4, c5, c6] := by
    match cs, hl with
    | [c0, c1, c2, c3, c4, c5, c6], _ => exact ⟨c0, c1, c2, c3, c4, c5, c6, rfl⟩
  have hxl : xs.length = 6 := hxl
  have g0 : DataW.trod enc Try.prog W 0 spare held n 3 [c0] = some (xs[0]) := by
    have g := hf 0 _ rfl
    rw [List.getElem?_eq_getElem (show 0 < xs.length by omega)] at g
    exact g
  obtain ⟨x0, e0, _, w0⟩ := DataW.trod_int u_3 g0
  obtain rfl : c0 = .int .i64 x0 := by simpa using e0
  have g1 : DataW.trod enc Try.prog W 0 spare held n 23 [c1, c2] = some (xs[1]) := by
    have g := hf 1 _ rfl
    rw [List.getElem?_eq_getElem (show 1 < xs.length by omega)] at g
    exact g
  obtain ⟨y1_0, y1_1, e1, w1_0, w1_1⟩ := op_23 g1
  simp only [List.cons.injEq, and_true] at e1
  obtain ⟨rfl, rfl⟩ := e1
  have g2 : DataW.trod enc Try.prog W 0 spare held n 3 [c3] = some (xs[2]) := by
    have g := hf 2 _ rfl
    rw [List.getElem?_eq_getElem (show 2 < xs.length by omega)] at g
    exact g
  obtain ⟨x3, e2, _, w2⟩ := DataW.trod_int u_3 g2
  obtain rfl : c3 = .int .i64 x3 := by simpa using e2
  have g3 : DataW.trod enc Try.prog W 0 spare held n 24 [c4] = some (xs[3]) := by
    have g := hf 3 _ rfl
    rw [List.getElem?_eq_getElem (show 3 < xs.length by omega)] at g
    exact g
  have w3 : okC c4 = true := by
    rcases DataW.trod_slice u_24 g3 with ⟨e, _⟩ | ⟨a, l, c, _, _, _, _, e, _⟩
    · obtain rfl : c4 = .slice none 0 0 := by simpa using e
      rfl
    · obtain rfl : c4 = .slice (some a) l c := by simpa using e
      rfl
  have g4 : DataW.trod enc Try.prog W 0 spare held n 25 [c5] = some (xs[4]) := by
    have g := hf 4 _ rfl
    rw [List.getElem?_eq_getElem (show 4 < xs.length by omega)] at g
    exact g
  have w4 : okC c5 = true := by
    rcases DataW.trod_slice u_25 g4 with ⟨e, _⟩ | ⟨a, l, c, _, _, _, _, e, _⟩
    · obtain rfl : c5 = .slice none 0 0 := by simpa using e
      rfl
    · obtain rfl : c5 = .slice (some a) l c := by simpa using e
      rfl
  have g5 : DataW.trod enc Try.prog W 0 spare held n 25 [c6] = some (xs[5]) := by
    have g := hf 5 _ rfl
    rw [List.getElem?_eq_getElem (show 5 < xs.length by omega)] at g
    exact g
  have w5 : okC c6 = true := by
    rcases DataW.trod_slice u_25 g5 with ⟨e, _⟩ | ⟨a, l, c, _, _, _, _, e, _⟩
    · obtain rfl : c6 = .slice none 0 0 := by simpa using e
      rfl
    · obtain rfl : c6 = .slice (some a) l c := by simpa using e
      rfl
  exact ⟨x0, y1_0, y1_1, x3, c4, c5, c6, rfl, w0, w1_0, w1_1, w2, ⟨w3, n, _, g3⟩, ⟨w4, n, _, g4⟩, ⟨w5, n, _, g5⟩⟩
theorem u_30 : Try.prog.underlying 30 = some (.struct (Try.prog.fieldsOf 30)) := by kernel_rfl
theorem co_30 : Try.prog.cellsOf 30 = 3 := by kernel_rfl
theorem op_30 {fuel : Nat} {cs : List Value} {x : DataW H × List MemPlace} (h : DataW.trod enc Try.prog W 0 spare held fuel 30 cs = some x) :
    ∃ (x0 : Int) (x1 : Int) (x2 : Int), cs = [.int .i64 x0, .int .i64 x1, .int .i64 x2] ∧ (Lit.int .i64 x0).wf = true ∧ (Lit.int .i64 x1).wf = true ∧ (Lit.int .i64 x2).wf = true := by
  obtain ⟨xs, n, rfl, rfl, hl, hxl, hf⟩ := DataW.trod_struct u_30 h
  rw [co_30] at hl
  obtain ⟨c0, c1, c2, rfl⟩ : ∃ c0 c1 c2, cs = [c0, c1, c2] := by
    match cs, hl with
    | [c0, c1, c2], _ => exact ⟨c0, c1, c2, rfl⟩
  have hxl : xs.length = 3 := hxl
  have g0 : DataW.trod enc Try.prog W 0 spare held n 3 [c0] = some (xs[0]) := by
    have g := hf 0 _ rfl
    rw [List.getElem?_eq_getElem (show 0 < xs.length by omega)] at g
    exact g
  obtain ⟨x0, e0, _, w0⟩ := DataW.trod_int u_3 g0
  obtain rfl : c0 = .int .i64 x0 := by simpa using e0
  have g1 : DataW.trod enc Try.prog W 0 spare held n 3 [c1] = some (xs[1]) := by
    have g := hf 1 _ rfl
    rw [List.getElem?_eq_getElem (show 1 < xs.length by omega)] at g
    exact g
  obtain ⟨x1, e1, _, w1⟩ := DataW.trod_int u_3 g1
  obtain rfl : c1 = .int .i64 x1 := by simpa using e1
  have g2 : DataW.trod enc Try.prog W 0 spare held n 3 [c2] = some (xs[2]) := by
    have g := hf 2 _ rfl
    rw [List.getElem?_eq_getElem (show 2 < xs.length by omega)] at g
    exact g
  obtain ⟨x2, e2, _, w2⟩ := DataW.trod_int u_3 g2
  obtain rfl : c2 = .int .i64 x2 := by simpa using e2
  exact ⟨x0, x1, x2, rfl, w0, w1, w2⟩
theorem u_52 : Try.prog.underlying 52 = some (.struct (Try.prog.fieldsOf 52)) := by kernel_rfl
theorem co_52 : Try.prog.cellsOf 52 = 3 := by kernel_rfl
theorem op_52 {fuel : Nat} {cs : List Value} {x : DataW H × List MemPlace} (h : DataW.trod enc Try.prog W 0 spare held fuel 52 cs = some x) :
    ∃ (x0 : ByteArray) (x1 : ByteArray) (x2 : Int), cs = [.string x0, .string x1, .int .i64 x2] ∧ x0.size ≤ maxLen ∧ x1.size ≤ maxLen ∧ (Lit.int .i64 x2).wf = true := by
  obtain ⟨xs, n, rfl, rfl, hl, hxl, hf⟩ := DataW.trod_struct u_52 h
  rw [co_52] at hl
  obtain ⟨c0, c1, c2, rfl⟩ : ∃ c0 c1 c2, cs = [c0, c1, c2] := by
    match cs, hl with
    | [c0, c1, c2], _ => exact ⟨c0, c1, c2, rfl⟩
  have hxl : xs.length = 3 := hxl
  have g0 : DataW.trod enc Try.prog W 0 spare held n 9 [c0] = some (xs[0]) := by
    have g := hf 0 _ rfl
    rw [List.getElem?_eq_getElem (show 0 < xs.length by omega)] at g
    exact g
  obtain ⟨x0, e0, _, w0⟩ := DataW.trod_string u_9 g0
  obtain rfl : c0 = .string x0 := by simpa using e0
  have g1 : DataW.trod enc Try.prog W 0 spare held n 9 [c1] = some (xs[1]) := by
    have g := hf 1 _ rfl
    rw [List.getElem?_eq_getElem (show 1 < xs.length by omega)] at g
    exact g
  obtain ⟨x1, e1, _, w1⟩ := DataW.trod_string u_9 g1
  obtain rfl : c1 = .string x1 := by simpa using e1
  have g2 : DataW.trod enc Try.prog W 0 spare held n 3 [c2] = some (xs[2]) := by
    have g := hf 2 _ rfl
    rw [List.getElem?_eq_getElem (show 2 < xs.length by omega)] at g
    exact g
  obtain ⟨x2, e2, _, w2⟩ := DataW.trod_int u_3 g2
  obtain rfl : c2 = .int .i64 x2 := by simpa using e2
  exact ⟨x0, x1, x2, rfl, w0, w1, w2⟩
theorem u_65 : Try.prog.underlying 65 = some (.struct (Try.prog.fieldsOf 65)) := by kernel_rfl
theorem co_65 : Try.prog.cellsOf 65 = 4 := by kernel_rfl
theorem op_65 {fuel : Nat} {cs : List Value} {x : DataW H × List MemPlace} (h : DataW.trod enc Try.prog W 0 spare held fuel 65 cs = some x) :
    ∃ (x0 : Int) (x1 : ByteArray) (x2 : ByteArray) (x3 : Int), cs = [.int .i64 x0, .string x1, .string x2, .int .i64 x3] ∧ (Lit.int .i64 x0).wf = true ∧ x1.size ≤ maxLen ∧ x2.size ≤ maxLen ∧ (Lit.int .i64 x3).wf = true := by
  obtain ⟨xs, n, rfl, rfl, hl, hxl, hf⟩ := DataW.trod_struct u_65 h
  rw [co_65] at hl
  obtain ⟨c0, c1, c2, c3, rfl⟩ : ∃ c0 c1 c2 c3, cs = [c0, c1, c2, c3] := by
    match cs, hl with
    | [c0, c1, c2, c3], _ => exact ⟨c0, c1, c2, c3, rfl⟩
  have hxl : xs.length = 4 := hxl
  have g0 : DataW.trod enc Try.prog W 0 spare held n 3 [c0] = some (xs[0]) := by
    have g := hf 0 _ rfl
    rw [List.getElem?_eq_getElem (show 0 < xs.length by omega)] at g
    exact g
  obtain ⟨x0, e0, _, w0⟩ := DataW.trod_int u_3 g0
  obtain rfl : c0 = .int .i64 x0 := by simpa using e0
  have g1 : DataW.trod enc Try.prog W 0 spare held n 9 [c1] = some (xs[1]) := by
    have g := hf 1 _ rfl
    rw [List.getElem?_eq_getElem (show 1 < xs.length by omega)] at g
    exact g
  obtain ⟨x1, e1, _, w1⟩ := DataW.trod_string u_9 g1
  obtain rfl : c1 = .string x1 := by simpa using e1
  have g2 : DataW.trod enc Try.prog W 0 spare held n 9 [c2] = some (xs[2]) := by
    have g := hf 2 _ rfl
    rw [List.getElem?_eq_getElem (show 2 < xs.length by omega)] at g
    exact g
  obtain ⟨x2, e2, _, w2⟩ := DataW.trod_string u_9 g2
  obtain rfl : c2 = .string x2 := by simpa using e2
  have g3 : DataW.trod enc Try.prog W 0 spare held n 3 [c3] = some (xs[3]) := by
    have g := hf 3 _ rfl
    rw [List.getElem?_eq_getElem (show 3 < xs.length by omega)] at g
    exact g
  obtain ⟨x3, e3, _, w3⟩ := DataW.trod_int u_3 g3
  obtain rfl : c3 = .int .i64 x3 := by simpa using e3
  exact ⟨x0, x1, x2, x3, rfl, w0, w1, w2, w3⟩
theorem u_4 : Try.prog.underlying 4 = some (.bool) := by kernel_rfl
theorem co_4 : Try.prog.cellsOf 4 = 1 := by kernel_rfl
theorem u_69 : Try.prog.underlying 69 = some (.struct (Try.prog.fieldsOf 69)) := by kernel_rfl
theorem co_69 : Try.prog.cellsOf 69 = 3 := by kernel_rfl
theorem op_69 {fuel : Nat} {cs : List Value} {x : DataW H × List MemPlace} (h : DataW.trod enc Try.prog W 0 spare held fuel 69 cs = some x) :
    ∃ (x0 : ByteArray) (x1 : ByteArray) (x2 : Bool), cs = [.string x0, .string x1, .bool x2] ∧ x0.size ≤ maxLen ∧ x1.size ≤ maxLen := by
  obtain ⟨xs, n, rfl, rfl, hl, hxl, hf⟩ := DataW.trod_struct u_69 h
  rw [co_69] at hl
  obtain ⟨c0, c1, c2, rfl⟩ : ∃ c0 c1 c2, cs = [c0, c1, c2] := by
    match cs, hl with
    | [c0, c1, c2], _ => exact ⟨c0, c1, c2, rfl⟩
  have hxl : xs.length = 3 := hxl
  have g0 : DataW.trod enc Try.prog W 0 spare held n 9 [c0] = some (xs[0]) := by
    have g := hf 0 _ rfl
    rw [List.getElem?_eq_getElem (show 0 < xs.length by omega)] at g
    exact g
  obtain ⟨x0, e0, _, w0⟩ := DataW.trod_string u_9 g0
  obtain rfl : c0 = .string x0 := by simpa using e0
  have g1 : DataW.trod enc Try.prog W 0 spare held n 9 [c1] = some (xs[1]) := by
    have g := hf 1 _ rfl
    rw [List.getElem?_eq_getElem (show 1 < xs.length by omega)] at g
    exact g
  obtain ⟨x1, e1, _, w1⟩ := DataW.trod_string u_9 g1
  obtain rfl : c1 = .string x1 := by simpa using e1
  have g2 : DataW.trod enc Try.prog W 0 spare held n 4 [c2] = some (xs[2]) := by
    have g := hf 2 _ rfl
    rw [List.getElem?_eq_getElem (show 2 < xs.length by omega)] at g
    exact g
  obtain ⟨x2, e2, _⟩ := DataW.trod_bool u_4 g2
  obtain rfl : c2 = .bool x2 := by simpa using e2
  exact ⟨x0, x1, x2, rfl, w0, w1⟩
theorem u_28 : Try.prog.underlying 28 = some (.slice 52) := by kernel_rfl
theorem co_28 : Try.prog.cellsOf 28 = 1 := by kernel_rfl
theorem open_kvs {fuel : Nat} {v : Value} {x : DataW H × List MemPlace} {h : Heap} (hb : h.base = baseOf W) (hd : DataW.trod enc Try.prog W 0 spare held fuel 28 [v] = some x) :
    ∃ l : List KV, SLv h 3 (flagS v) (l.map KV.c) ∧ (∀ a ∈ l, (Lit.int .i64 a.rev).wf = true) ∧ l.length ≤ maxLen ∧ okC v = true := by
  refine open_rows hb u_28 co_52 (by decide) KV.c (fun a => (Lit.int .i64 a.rev).wf = true) ?_ hd
  intro fuel cs y hy
  obtain ⟨a, b, c, rfl, _, _, w⟩ := op_52 hy
  exact ⟨⟨a, b, c⟩, rfl, rfl, w⟩
theorem open_cmps {fuel : Nat} {v : Value} {x : DataW H × List MemPlace} {h : Heap} (hb : h.base = baseOf W) (hd : DataW.trod enc Try.prog W 0 spare held fuel 24 [v] = some x) :
    ∃ l : List Cmp, SLv h 4 (flagS v) (l.map Cmp.c) ∧ (∀ a ∈ l, (Lit.int .i64 a.kind).wf = true ∧ (Lit.int .i64 a.rev).wf = true) ∧ l.length ≤ maxLen ∧ okC v = true := by
  refine open_rows hb u_24 co_65 (by decide) Cmp.c (fun a => (Lit.int .i64 a.kind).wf = true ∧ (Lit.int .i64 a.rev).wf = true) ?_ hd
  intro fuel cs y hy
  obtain ⟨a, b, c, d, rfl, w1, _, _, w2⟩ := op_65 hy
  exact ⟨⟨a, b, c, d⟩, rfl, rfl, ⟨w1, w2⟩⟩
theorem open_ops {fuel : Nat} {v : Value} {x : DataW H × List MemPlace} {h : Heap} (hb : h.base = baseOf W) (hd : DataW.trod enc Try.prog W 0 spare held fuel 25 [v] = some x) :
    ∃ l : List OpX, SLv h 3 (flagS v) (l.map OpX.c) ∧ (∀ a ∈ l, True) ∧ l.length ≤ maxLen ∧ okC v = true := by
  refine open_rows hb u_25 co_69 (by decide) OpX.c (fun a => True) ?_ hd
  intro fuel cs y hy
  obtain ⟨a, b, c, rfl, _⟩ := op_69 hy
  exact ⟨⟨a, b, c⟩, rfl, rfl, trivial⟩
theorem trod_cap {t e : Nat} {fuel : Nat} {a : Option Addr} {l c : Nat} {x : DataW H × List MemPlace} (ht : Try.prog.underlying t = some (.slice e)) (h : DataW.trod enc Try.prog W 0 spare held fuel t [.slice a l c] = some x) : l ≤ c := by
  rcases DataW.trod_slice ht h with ⟨h0, _⟩ | ⟨a', len, cap, _, _, _, _, h0, _, _, hl, _⟩
  · cases h0; exact Nat.le_refl _
  · cases h0; exact hl
end
end Go.Proofs.Ytadfhabapgipbaa.V
