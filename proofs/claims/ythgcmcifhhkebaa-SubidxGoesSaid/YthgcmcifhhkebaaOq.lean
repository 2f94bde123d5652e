/- What the laws of this seat are given.
   No condition: these are laws of this program. -/
import Derived.Test.YthgcmcifhhkebaaPT
import Derived.WalkKit
import Derived.ProofKit
import Derived.OpenShut
import Derived.ShutString
import Derived.ChangeOld
import Derived.Below
import Derived.SizedLaws
namespace Go.Proofs.Ythgcmcifhhkebaa.V
open Go
set_option linter.unusedVariables false
set_option linter.unusedSimpArgs false
set_option maxRecDepth 100000
theorem u_3 : Try.prog.underlying 3 = some (.int .i64) := by kernel_rfl
theorem co_3 : Try.prog.cellsOf 3 = 1 := by kernel_rfl
theorem u_9 : Try.prog.underlying 9 = some (.string) := by kernel_rfl
theorem co_9 : Try.prog.cellsOf 9 = 1 := by kernel_rfl
theorem u_25 : Try.prog.underlying 25 = some (.struct (Try.prog.fieldsOf 25)) := by kernel_rfl
theorem co_25 : Try.prog.cellsOf 25 = 2 := by kernel_rfl
theorem u_27 : Try.prog.underlying 27 = some (.struct (Try.prog.fieldsOf 27)) := by kernel_rfl
theorem co_27 : Try.prog.cellsOf 27 = 4 := by kernel_rfl
theorem u_45 : Try.prog.underlying 45 = some (.struct (Try.prog.fieldsOf 45)) := by kernel_rfl
theorem co_45 : Try.prog.cellsOf 45 = 5 := by kernel_rfl
theorem u_41 : Try.prog.underlying 41 = some (.slice 45) := by kernel_rfl
theorem co_41 : Try.prog.cellsOf 41 = 1 := by kernel_rfl
theorem u_4 : Try.prog.underlying 4 = some (.bool) := by kernel_rfl
theorem co_4 : Try.prog.cellsOf 4 = 1 := by kernel_rfl
theorem u_22 : Try.prog.underlying 22 = some (.slice 27) := by kernel_rfl
theorem co_22 : Try.prog.cellsOf 22 = 1 := by kernel_rfl
theorem u_5 : Try.prog.underlying 5 = some (.int .u8) := by kernel_rfl
theorem co_5 : Try.prog.cellsOf 5 = 1 := by kernel_rfl
section
variable {H : Type} {enc : TypeId × Value → H} {W : World} {spare : Nat → Bool} {held : Bool}
theorem og_25 : OpenT enc Try.prog W spare held 25 R_TRange W_TRange := by
  intro fuel cs x h
  obtain ⟨xs, n, rfl, rfl, hl, hxl, hf⟩ := DataW.trod_struct u_25 h
  rw [co_25] at hl
  obtain ⟨c0, c1, rfl⟩ : ∃ c0 c1, cs = [c0, c1] := by
    match cs, hl with
    | [c0, c1], _ => exact ⟨c0, c1, rfl⟩
  have hxl : xs.length = 2 := hxl
  have g0 : DataW.trod enc Try.prog W 0 spare held n 9 [c0] = some (xs[0]) := by
    have g := hf 0 _ rfl
    rw [List.getElem?_eq_getElem (show 0 < xs.length by omega)] at g
    exact g
  obtain ⟨v0, r0, o0, w0⟩ := (open_str (T := 0) u_9) _ _ _ g0
  have p0 : okC c0 = true := by simpa using o0
  have e0 : flagS c0 = .string v0 := by simpa [RS_, Rep.flat] using r0
  have g1 : DataW.trod enc Try.prog W 0 spare held n 9 [c1] = some (xs[1]) := by
    have g := hf 1 _ rfl
    rw [List.getElem?_eq_getElem (show 1 < xs.length by omega)] at g
    exact g
  obtain ⟨v1, r1, o1, w1⟩ := (open_str (T := 0) u_9) _ _ _ g1
  have p1 : okC c1 = true := by simpa using o1
  have e1 : flagS c1 = .string v1 := by simpa [RS_, Rep.flat] using r1
  exact ⟨⟨v0, v1⟩, by show List.map flagS [c0, c1] = c_TRange ⟨v0, v1⟩; simp only [List.map_cons, List.map_nil, e0, e1]; rfl, by simp [p0, p1], ⟨w0, w1⟩⟩
theorem og_27 : OpenT enc Try.prog W spare held 27 R_Timpostref11_Sub W_Timpostref11_Sub := by
  intro fuel cs x h
  obtain ⟨xs, n, rfl, rfl, hl, hxl, hf⟩ := DataW.trod_struct u_27 h
  rw [co_27] at hl
  obtain ⟨c0, c1, c2, c3, rfl⟩ : ∃ c0 c1 c2 c3, cs = [c0, c1, c2, c3] := by
    match cs, hl with
    | [c0, c1, c2, c3], _ => exact ⟨c0, c1, c2, c3, rfl⟩
  have hxl : xs.length = 3 := hxl
  have g0 : DataW.trod enc Try.prog W 0 spare held n 3 [c0] = some (xs[0]) := by
    have g := hf 0 _ rfl
    rw [List.getElem?_eq_getElem (show 0 < xs.length by omega)] at g
    exact g
  obtain ⟨v0, r0, o0, w0⟩ := (open_int (T := 0) u_3) _ _ _ g0
  have p0 : okC c0 = true := by simpa using o0
  have e0 : flagS c0 = .int .i64 v0 := by simpa [RI_, Rep.flat] using r0
  have g1 : DataW.trod enc Try.prog W 0 spare held n 3 [c1] = some (xs[1]) := by
    have g := hf 1 _ rfl
    rw [List.getElem?_eq_getElem (show 1 < xs.length by omega)] at g
    exact g
  obtain ⟨v1, r1, o1, w1⟩ := (open_int (T := 0) u_3) _ _ _ g1
  have p1 : okC c1 = true := by simpa using o1
  have e1 : flagS c1 = .int .i64 v1 := by simpa [RI_, Rep.flat] using r1
  have g2 : DataW.trod enc Try.prog W 0 spare held n 25 [c2, c3] = some (xs[2]) := by
    have g := hf 2 _ rfl
    rw [List.getElem?_eq_getElem (show 2 < xs.length by omega)] at g
    exact g
  obtain ⟨v2, r2, o2, w2⟩ := og_25 _ _ _ g2
  obtain ⟨p2, p3⟩ : okC c2 = true ∧ okC c3 = true := by simpa using o2
  have e2 : [flagS c2, flagS c3] = c_TRange v2 := r2
  simp only [c_TRange, List.cons.injEq, and_true] at e2
  obtain ⟨e2_0, e2_1⟩ := e2
  exact ⟨⟨v0, v1, v2⟩, by show List.map flagS [c0, c1, c2, c3] = c_Timpostref11_Sub ⟨v0, v1, v2⟩; simp only [List.map_cons, List.map_nil, e0, e1, e2_0, e2_1]; rfl, by simp [p0, p1, p2, p3], ⟨w0, w1, w2⟩⟩
theorem og_45 : OpenT enc Try.prog W spare held 45 R_Timpostlaw11_Deed W_Timpostlaw11_Deed := by
  intro fuel cs x h
  obtain ⟨xs, n, rfl, rfl, hl, hxl, hf⟩ := DataW.trod_struct u_45 h
  rw [co_45] at hl
  obtain ⟨c0, c1, c2, c3, c4, rfl⟩ : ∃ c0 c1 c2 c3 c4, cs = [c0, c1, c2, c3, c4] := by
    match cs, hl with
    | [c0, c1, c2, c3, c4], _ => exact ⟨c0, c1, c2, c3, c4, rfl⟩
  have hxl : xs.length = 2 := hxl
  have g0 : DataW.trod enc Try.prog W 0 spare held n 3 [c0] = some (xs[0]) := by
    have g := hf 0 _ rfl
    rw [List.getElem?_eq_getElem (show 0 < xs.length by omega)] at g
    exact g
  obtain ⟨v0, r0, o0, w0⟩ := (open_int (T := 0) u_3) _ _ _ g0
  have p0 : okC c0 = true := by simpa using o0
  have e0 : flagS c0 = .int .i64 v0 := by simpa [RI_, Rep.flat] using r0
  have g1 : DataW.trod enc Try.prog W 0 spare held n 27 [c1, c2, c3, c4] = some (xs[1]) := by
    have g := hf 1 _ rfl
    rw [List.getElem?_eq_getElem (show 1 < xs.length by omega)] at g
    exact g
  obtain ⟨v1, r1, o1, w1⟩ := og_27 _ _ _ g1
  obtain ⟨p1, p2, p3, p4⟩ : okC c1 = true ∧ okC c2 = true ∧ okC c3 = true ∧ okC c4 = true := by simpa using o1
  have e1 : [flagS c1, flagS c2, flagS c3, flagS c4] = c_Timpostref11_Sub v1 := r1
  simp only [c_Timpostref11_Sub, List.cons.injEq, and_true] at e1
  obtain ⟨e1_0, e1_1, e1_2, e1_3⟩ := e1
  exact ⟨⟨v0, v1⟩, by show List.map flagS [c0, c1, c2, c3, c4] = c_Timpostlaw11_Deed ⟨v0, v1⟩; simp only [List.map_cons, List.map_nil, e0, e1_0, e1_1, e1_2, e1_3]; rfl, by simp [p0, p1, p2, p3, p4], ⟨w0, w1⟩⟩
end
end Go.Proofs.Ythgcmcifhhkebaa.V
