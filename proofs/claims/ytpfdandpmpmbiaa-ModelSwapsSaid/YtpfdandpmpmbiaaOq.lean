/- What the laws of this seat are given.
   No condition: these are laws of this program. -/
import Derived.Test.YtpfdandpmpmbiaaPT
import Derived.WalkKit
import Derived.ProofKit
import Derived.OpenShut
import Derived.ShutString
import Derived.ChangeOld
import Derived.Below
import Derived.SizedLaws
namespace Go.Proofs.Ytpfdandpmpmbiaa.V
open Go
set_option linter.unusedVariables false
set_option linter.unusedSimpArgs false
set_option maxRecDepth 100000
theorem u_3 : Try.prog.underlying 3 = some (.int .i64) := by kernel_rfl
theorem co_3 : Try.prog.cellsOf 3 = 1 := by kernel_rfl
theorem u_9 : Try.prog.underlying 9 = some (.string) := by kernel_rfl
theorem co_9 : Try.prog.cellsOf 9 = 1 := by kernel_rfl
theorem u_4 : Try.prog.underlying 4 = some (.bool) := by kernel_rfl
theorem co_4 : Try.prog.cellsOf 4 = 1 := by kernel_rfl
theorem u_45 : Try.prog.underlying 45 = some (.struct (Try.prog.fieldsOf 45)) := by kernel_rfl
theorem co_45 : Try.prog.cellsOf 45 = 3 := by kernel_rfl
theorem u_39 : Try.prog.underlying 39 = some (.slice 45) := by kernel_rfl
theorem co_39 : Try.prog.cellsOf 39 = 1 := by kernel_rfl
theorem u_41 : Try.prog.underlying 41 = some (.struct (Try.prog.fieldsOf 41)) := by kernel_rfl
theorem co_41 : Try.prog.cellsOf 41 = 3 := by kernel_rfl
theorem u_22 : Try.prog.underlying 22 = some (.slice 41) := by kernel_rfl
theorem co_22 : Try.prog.cellsOf 22 = 1 := by kernel_rfl
theorem u_5 : Try.prog.underlying 5 = some (.int .u8) := by kernel_rfl
theorem co_5 : Try.prog.cellsOf 5 = 1 := by kernel_rfl
theorem u_33 : Try.prog.underlying 33 = some (.struct (Try.prog.fieldsOf 33)) := by kernel_rfl
theorem co_33 : Try.prog.cellsOf 33 = 2 := by kernel_rfl
theorem u_133 : Try.prog.underlying 133 = some (.struct (Try.prog.fieldsOf 133)) := by kernel_rfl
theorem co_133 : Try.prog.cellsOf 133 = 4 := by kernel_rfl
theorem u_59 : Try.prog.underlying 59 = some (.slice 133) := by kernel_rfl
theorem co_59 : Try.prog.cellsOf 59 = 1 := by kernel_rfl
theorem u_61 : Try.prog.underlying 61 = some (.struct (Try.prog.fieldsOf 61)) := by kernel_rfl
theorem co_61 : Try.prog.cellsOf 61 = 7 := by kernel_rfl
theorem u_66 : Try.prog.underlying 66 = some (.slice 61) := by kernel_rfl
theorem co_66 : Try.prog.cellsOf 66 = 1 := by kernel_rfl
theorem u_79 : Try.prog.underlying 79 = some (.array 3 5) := by kernel_rfl
theorem co_79 : Try.prog.cellsOf 79 = 3 := by kernel_rfl
section
variable {H : Type} {enc : TypeId × Value → H} {W : World} {spare : Nat → Bool} {held : Bool}
theorem og_45 : OpenT enc Try.prog W spare held 45 R_TOp W_TOp := by
  intro fuel cs x h
  obtain ⟨xs, n, rfl, rfl, hl, hxl, hf⟩ := DataW.trod_struct u_45 h
  rw [co_45] at hl
  obtain ⟨c0, c1, c2, rfl⟩ : ∃ c0 c1 c2, cs = [c0, c1, c2] := by
    match cs, hl with
    | [c0, c1, c2], _ => exact ⟨c0, c1, c2, rfl⟩
  have hxl : xs.length = 3 := hxl
  have g0 : DataW.trod enc Try.prog W 0 spare held n 9 [c0] = some (xs[0]) := by
    have g := hf 0 _ rfl
    rw [List.getElem?_eq_getElem (show 0 < xs.length by omega)] at g
    exact g
  obtain ⟨v0, r0, o0, w0⟩ := (open_str (T := 0) u_9) _ _ _ g0
  have p0 : okC c0 = true := by simpa using o0
  have e0 : flagS c0 = .string v0 := by simpa [RS_, Rep.flat] using r0
  have g1 : DataW.trod enc Try.prog W 0 spare held n 9 [c1] = some (xs[1]) := by
    have g := hf 1 _ rfl
    rw [List.getElem?_eq_getElem (show 1 < xs.length by omega)] at g
    exact g
  obtain ⟨v1, r1, o1, w1⟩ := (open_str (T := 0) u_9) _ _ _ g1
  have p1 : okC c1 = true := by simpa using o1
  have e1 : flagS c1 = .string v1 := by simpa [RS_, Rep.flat] using r1
  have g2 : DataW.trod enc Try.prog W 0 spare held n 4 [c2] = some (xs[2]) := by
    have g := hf 2 _ rfl
    rw [List.getElem?_eq_getElem (show 2 < xs.length by omega)] at g
    exact g
  obtain ⟨v2, r2, o2, w2⟩ := (open_bool (T := 0) u_4) _ _ _ g2
  have p2 : okC c2 = true := by simpa using o2
  have e2 : flagS c2 = .bool v2 := by simpa [RB_, Rep.flat] using r2
  exact ⟨⟨v0, v1, v2⟩, by show List.map flagS [c0, c1, c2] = c_TOp ⟨v0, v1, v2⟩; simp only [List.map_cons, List.map_nil, e0, e1, e2]; rfl, by simp [p0, p1, p2], ⟨w0, w1, w2⟩⟩
theorem og_41 : OpenT enc Try.prog W spare held 41 R_Timpostlaw06_Deed W_Timpostlaw06_Deed := by
  intro fuel cs x h
  obtain ⟨xs, n, rfl, rfl, hl, hxl, hf⟩ := DataW.trod_struct u_41 h
  rw [co_41] at hl
  obtain ⟨c0, c1, c2, rfl⟩ : ∃ c0 c1 c2, cs = [c0, c1, c2] := by
    match cs, hl with
    | [c0, c1, c2], _ => exact ⟨c0, c1, c2, rfl⟩
  have hxl : xs.length = 3 := hxl
  have g0 : DataW.trod enc Try.prog W 0 spare held n 3 [c0] = some (xs[0]) := by
    have g := hf 0 _ rfl
    rw [List.getElem?_eq_getElem (show 0 < xs.length by omega)] at g
    exact g
  obtain ⟨v0, r0, o0, w0⟩ := (open_int (T := 0) u_3) _ _ _ g0
  have p0 : okC c0 = true := by simpa using o0
  have e0 : flagS c0 = .int .i64 v0 := by simpa [RI_, Rep.flat] using r0
  have g1 : DataW.trod enc Try.prog W 0 spare held n 39 [c1] = some (xs[1]) := by
    have g := hf 1 _ rfl
    rw [List.getElem?_eq_getElem (show 1 < xs.length by omega)] at g
    exact g
  obtain ⟨v1, r1, o1, w1⟩ := (open_RL (T := 0) u_39 co_45 (by decide) og_45) _ _ _ g1
  have p1 : okC c1 = true := by simpa using o1
  obtain ⟨a1_, q1, e1, f1⟩ := r1
  have e1 : flagS c1 = .slice a1_ v1.length q1 := by simpa using e1
  have g2 : DataW.trod enc Try.prog W 0 spare held n 3 [c2] = some (xs[2]) := by
    have g := hf 2 _ rfl
    rw [List.getElem?_eq_getElem (show 2 < xs.length by omega)] at g
    exact g
  obtain ⟨v2, r2, o2, w2⟩ := (open_int (T := 0) u_3) _ _ _ g2
  have p2 : okC c2 = true := by simpa using o2
  have e2 : flagS c2 = .int .i64 v2 := by simpa [RI_, Rep.flat] using r2
  exact ⟨⟨v0, v1, v2⟩, ⟨a1_, q1, by simp only [List.map_cons, List.map_nil, e0, e1, e2], f1⟩, by simp [p0, p1, p2], ⟨w0, w1, w2⟩⟩
theorem og_33 : OpenT enc Try.prog W spare held 33 R_TRange W_TRange := by
  intro fuel cs x h
  obtain ⟨xs, n, rfl, rfl, hl, hxl, hf⟩ := DataW.trod_struct u_33 h
  rw [co_33] at hl
  obtain ⟨c0, c1, rfl⟩ : ∃ c0 c1, cs = [c0, c1] := by
    match cs, hl with
    | [c0, c1], _ => exact ⟨c0, c1, rfl⟩
  have hxl : xs.length = 2 := hxl
  have g0 : DataW.trod enc Try.prog W 0 spare held n 9 [c0] = some (xs[0]) := by
    have g := hf 0 _ rfl
    rw [List.getElem?_eq_getElem (show 0 < xs.length by omega)] at g
    exact g
  obtain ⟨v0, r0, o0, w0⟩ := (open_str (T := 0) u_9) _ _ _ g0
  have p0 : okC c0 = true := by simpa using o0
  have e0 : flagS c0 = .string v0 := by simpa [RS_, Rep.flat] using r0
  have g1 : DataW.trod enc Try.prog W 0 spare held n 9 [c1] = some (xs[1]) := by
    have g := hf 1 _ rfl
    rw [List.getElem?_eq_getElem (show 1 < xs.length by omega)] at g
    exact g
  obtain ⟨v1, r1, o1, w1⟩ := (open_str (T := 0) u_9) _ _ _ g1
  have p1 : okC c1 = true := by simpa using o1
  have e1 : flagS c1 = .string v1 := by simpa [RS_, Rep.flat] using r1
  exact ⟨⟨v0, v1⟩, by show List.map flagS [c0, c1] = c_TRange ⟨v0, v1⟩; simp only [List.map_cons, List.map_nil, e0, e1]; rfl, by simp [p0, p1], ⟨w0, w1⟩⟩
theorem og_133 : OpenT enc Try.prog W spare held 133 R_TCmp W_TCmp := by
  intro fuel cs x h
  obtain ⟨xs, n, rfl, rfl, hl, hxl, hf⟩ := DataW.trod_struct u_133 h
  rw [co_133] at hl
  obtain ⟨c0, c1, c2, c3, rfl⟩ : ∃ c0 c1 c2 c3, cs = [c0, c1, c2, c3] := by
    match cs, hl with
    | [c0, c1, c2, c3], _ => exact ⟨c0, c1, c2, c3, rfl⟩
  have hxl : xs.length = 4 := hxl
  have g0 : DataW.trod enc Try.prog W 0 spare held n 3 [c0] = some (xs[0]) := by
    have g := hf 0 _ rfl
    rw [List.getElem?_eq_getElem (show 0 < xs.length by omega)] at g
    exact g
  obtain ⟨v0, r0, o0, w0⟩ := (open_int (T := 0) u_3) _ _ _ g0
  have p0 : okC c0 = true := by simpa using o0
  have e0 : flagS c0 = .int .i64 v0 := by simpa [RI_, Rep.flat] using r0
  have g1 : DataW.trod enc Try.prog W 0 spare held n 9 [c1] = some (xs[1]) := by
    have g := hf 1 _ rfl
    rw [List.getElem?_eq_getElem (show 1 < xs.length by omega)] at g
    exact g
  obtain ⟨v1, r1, o1, w1⟩ := (open_str (T := 0) u_9) _ _ _ g1
  have p1 : okC c1 = true := by simpa using o1
  have e1 : flagS c1 = .string v1 := by simpa [RS_, Rep.flat] using r1
  have g2 : DataW.trod enc Try.prog W 0 spare held n 9 [c2] = some (xs[2]) := by
    have g := hf 2 _ rfl
    rw [List.getElem?_eq_getElem (show 2 < xs.length by omega)] at g
    exact g
  obtain ⟨v2, r2, o2, w2⟩ := (open_str (T := 0) u_9) _ _ _ g2
  have p2 : okC c2 = true := by simpa using o2
  have e2 : flagS c2 = .string v2 := by simpa [RS_, Rep.flat] using r2
  have g3 : DataW.trod enc Try.prog W 0 spare held n 3 [c3] = some (xs[3]) := by
    have g := hf 3 _ rfl
    rw [List.getElem?_eq_getElem (show 3 < xs.length by omega)] at g
    exact g
  obtain ⟨v3, r3, o3, w3⟩ := (open_int (T := 0) u_3) _ _ _ g3
  have p3 : okC c3 = true := by simpa using o3
  have e3 : flagS c3 = .int .i64 v3 := by simpa [RI_, Rep.flat] using r3
  exact ⟨⟨v0, v1, v2, v3⟩, by show List.map flagS [c0, c1, c2, c3] = c_TCmp ⟨v0, v1, v2, v3⟩; simp only [List.map_cons, List.map_nil, e0, e1, e2, e3]; rfl, by simp [p0, p1, p2, p3], ⟨w0, w1, w2, w3⟩⟩
theorem og_61 : OpenT enc Try.prog W spare held 61 R_TReq W_TReq := by
  intro fuel cs x h
  obtain ⟨xs, n, rfl, rfl, hl, hxl, hf⟩ := DataW.trod_struct u_61 h
  rw [co_61] at hl
  obtain ⟨c0, c1, c2, c3, c4, c5, c6, rfl⟩ : ∃ c0 c1 c2 c3 c4 c5 c6, cs = [c0, c1, c2, c3, c4, c5, c6] := by
    match cs, hl with
    | [c0, c1, c2, c3, c4, c5, c6], _ => exact ⟨c0, c1, c2, c3, c4, c5, c6, rfl⟩
  have hxl : xs.length = 6 := hxl
  have g0 : DataW.trod enc Try.prog W 0 spare held n 3 [c0] = some (xs[0]) := by
    have g := hf 0 _ rfl
    rw [List.getElem?_eq_getElem (show 0 < xs.length by omega)] at g
    exact g
  obtain ⟨v0, r0, o0, w0⟩ := (open_int (T := 0) u_3) _ _ _ g0
  have p0 : okC c0 = true := by simpa using o0
  have e0 : flagS c0 = .int .i64 v0 := by simpa [RI_, Rep.flat] using r0
  have g1 : DataW.trod enc Try.prog W 0 spare held n 33 [c1, c2] = some (xs[1]) := by
    have g := hf 1 _ rfl
    rw [List.getElem?_eq_getElem (show 1 < xs.length by omega)] at g
    exact g
  obtain ⟨v1, r1, o1, w1⟩ := og_33 _ _ _ g1
  obtain ⟨p1, p2⟩ : okC c1 = true ∧ okC c2 = true := by simpa using o1
  have e1 : [flagS c1, flagS c2] = c_TRange v1 := r1
  simp only [c_TRange, List.cons.injEq, and_true] at e1
  obtain ⟨e1_0, e1_1⟩ := e1
  have g2 : DataW.trod enc Try.prog W 0 spare held n 3 [c3] = some (xs[2]) := by
    have g := hf 2 _ rfl
    rw [List.getElem?_eq_getElem (show 2 < xs.length by omega)] at g
    exact g
  obtain ⟨v2, r2, o2, w2⟩ := (open_int (T := 0) u_3) _ _ _ g2
  have p3 : okC c3 = true := by simpa using o2
  have e2 : flagS c3 = .int .i64 v2 := by simpa [RI_, Rep.flat] using r2
  have g3 : DataW.trod enc Try.prog W 0 spare held n 59 [c4] = some (xs[3]) := by
    have g := hf 3 _ rfl
    rw [List.getElem?_eq_getElem (show 3 < xs.length by omega)] at g
    exact g
  obtain ⟨v3, r3, o3, w3⟩ := (open_RL (T := 0) u_59 co_133 (by decide) og_133) _ _ _ g3
  have p4 : okC c4 = true := by simpa using o3
  obtain ⟨a3_, q3, e3, f3⟩ := r3
  have e3 : flagS c4 = .slice a3_ v3.length q3 := by simpa using e3
  have g4 : DataW.trod enc Try.prog W 0 spare held n 39 [c5] = some (xs[4]) := by
    have g := hf 4 _ rfl
    rw [List.getElem?_eq_getElem (show 4 < xs.length by omega)] at g
    exact g
  obtain ⟨v4, r4, o4, w4⟩ := (open_RL (T := 0) u_39 co_45 (by decide) og_45) _ _ _ g4
  have p5 : okC c5 = true := by simpa using o4
  obtain ⟨a4_, q4, e4, f4⟩ := r4
  have e4 : flagS c5 = .slice a4_ v4.length q4 := by simpa using e4
  have g5 : DataW.trod enc Try.prog W 0 spare held n 39 [c6] = some (xs[5]) := by
    have g := hf 5 _ rfl
    rw [List.getElem?_eq_getElem (show 5 < xs.length by omega)] at g
    exact g
  obtain ⟨v5, r5, o5, w5⟩ := (open_RL (T := 0) u_39 co_45 (by decide) og_45) _ _ _ g5
  have p6 : okC c6 = true := by simpa using o5
  obtain ⟨a5_, q5, e5, f5⟩ := r5
  have e5 : flagS c6 = .slice a5_ v5.length q5 := by simpa using e5
  exact ⟨⟨v0, v1, v2, v3, v4, v5⟩, ⟨a3_, q3, a4_, q4, a5_, q5, by simp only [List.map_cons, List.map_nil, e0, e1_0, e1_1, e2, e3, e4, e5], f3, f4, f5⟩, by simp [p0, p1, p2, p3, p4, p5, p6], ⟨w0, w1, w2, w3, w4, w5⟩⟩
theorem og_79 : OpenT enc Try.prog W spare held 79 R_A3_Int W_A3_Int := by
  intro fuel cs x h
  obtain ⟨xs, n, rfl, rfl, hl, hxl, hf⟩ := DataW.trod_array u_79 h
  rw [co_79] at hl
  obtain ⟨c0, c1, c2, rfl⟩ : ∃ c0 c1 c2, cs = [c0, c1, c2] := by
    match cs, hl with
    | [c0, c1, c2], _ => exact ⟨c0, c1, c2, rfl⟩
  have hxl : xs.length = 3 := hxl
  have g0 : DataW.trod enc Try.prog W 0 spare held n 5 [c0] = some (xs[0]) := by
    have g := hf 0 (by decide)
    rw [List.getElem?_eq_getElem (show 0 < xs.length by omega)] at g
    rw [co_5] at g
    exact g
  obtain ⟨v0, r0, o0, w0⟩ := (open_int (T := 0) u_5) _ _ _ g0
  have p0 : okC c0 = true := by simpa using o0
  have e0 : flagS c0 = .int .u8 v0 := by simpa [RI_, Rep.flat] using r0
  have g1 : DataW.trod enc Try.prog W 0 spare held n 5 [c1] = some (xs[1]) := by
    have g := hf 1 (by decide)
    rw [List.getElem?_eq_getElem (show 1 < xs.length by omega)] at g
    rw [co_5] at g
    exact g
  obtain ⟨v1, r1, o1, w1⟩ := (open_int (T := 0) u_5) _ _ _ g1
  have p1 : okC c1 = true := by simpa using o1
  have e1 : flagS c1 = .int .u8 v1 := by simpa [RI_, Rep.flat] using r1
  have g2 : DataW.trod enc Try.prog W 0 spare held n 5 [c2] = some (xs[2]) := by
    have g := hf 2 (by decide)
    rw [List.getElem?_eq_getElem (show 2 < xs.length by omega)] at g
    rw [co_5] at g
    exact g
  obtain ⟨v2, r2, o2, w2⟩ := (open_int (T := 0) u_5) _ _ _ g2
  have p2 : okC c2 = true := by simpa using o2
  have e2 : flagS c2 = .int .u8 v2 := by simpa [RI_, Rep.flat] using r2
  exact ⟨⟨v0, v1, v2⟩, by show List.map flagS [c0, c1, c2] = c_A3_Int ⟨v0, v1, v2⟩; simp only [List.map_cons, List.map_nil, e0, e1, e2]; rfl, by simp [p0, p1, p2], ⟨w0, w1, w2⟩⟩
end
end Go.Proofs.Ytpfdandpmpmbiaa.V
