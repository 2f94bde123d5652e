/- What the laws of this seat are given.
   No condition: these are laws of this program. -/
import Derived.Test.YtndhbaidibioeaaPT
import Derived.WalkKit
import Derived.ProofKit
import Derived.OpenShut
import Derived.ShutString
import Derived.ChangeOld
import Derived.Below
import Derived.SizedLaws
namespace Go.Proofs.Ytndhbaidibioeaa.V
open Go
set_option linter.unusedVariables false
set_option linter.unusedSimpArgs false
set_option maxRecDepth 100000
theorem u_3 : Try.prog.underlying 3 = some (.int .i64) := by kernel_rfl
theorem u_9 : Try.prog.underlying 9 = some (.string) := by kernel_rfl
theorem u_29 : Try.prog.underlying 29 = some (.int .u64) := by kernel_rfl
theorem u_37 : Try.prog.underlying 37 = some (.struct (Try.prog.fieldsOf 37)) := by kernel_rfl
theorem co_37 : Try.prog.cellsOf 37 = 3 := by kernel_rfl
theorem u_22 : Try.prog.underlying 22 = some (.slice 37) := by kernel_rfl
theorem u_4 : Try.prog.underlying 4 = some (.bool) := by kernel_rfl
theorem co_4 : Try.prog.cellsOf 4 = 1 := by kernel_rfl
theorem u_54 : Try.prog.underlying 54 = some (.array 2 37) := by kernel_rfl
theorem co_54 : Try.prog.cellsOf 54 = 6 := by kernel_rfl
theorem u_55 : Try.prog.underlying 55 = some (.slice 4) := by kernel_rfl
section
variable {H : Type} {enc : TypeId × Value → H} {W : World} {spare : Nat → Bool} {held : Bool}
theorem og_37 : OpenT enc Try.prog W spare held 37 R_Timpostlaw15_Deed W_Timpostlaw15_Deed := by
  intro fuel cs x h
  obtain ⟨xs, n, rfl, rfl, hl, hxl, hf⟩ := DataW.trod_struct u_37 h
  rw [co_37] at hl
  obtain ⟨c0, c1, c2, rfl⟩ : ∃ c0 c1 c2, cs = [c0, c1, c2] := by
    match cs, hl with
    | [c0, c1, c2], _ => exact ⟨c0, c1, c2, rfl⟩
  have hxl : xs.length = 3 := hxl
  have g0 : DataW.trod enc Try.prog W 0 spare held n 3 [c0] = some (xs[0]) := by
    have g := hf 0 _ rfl
    rw [List.getElem?_eq_getElem (show 0 < xs.length by omega)] at g
    exact g
  obtain ⟨v0, r0, o0, w0⟩ := (open_int (T := 0) u_3) _ _ _ g0
  have p0 : okC c0 = true := by simpa using o0
  have e0 : flagS c0 = .int .i64 v0 := by simpa [RI_, Rep.flat] using r0
  have g1 : DataW.trod enc Try.prog W 0 spare held n 9 [c1] = some (xs[1]) := by
    have g := hf 1 _ rfl
    rw [List.getElem?_eq_getElem (show 1 < xs.length by omega)] at g
    exact g
  obtain ⟨v1, r1, o1, w1⟩ := (open_str (T := 0) u_9) _ _ _ g1
  have p1 : okC c1 = true := by simpa using o1
  have e1 : flagS c1 = .string v1 := by simpa [RS_, Rep.flat] using r1
  have g2 : DataW.trod enc Try.prog W 0 spare held n 29 [c2] = some (xs[2]) := by
    have g := hf 2 _ rfl
    rw [List.getElem?_eq_getElem (show 2 < xs.length by omega)] at g
    exact g
  obtain ⟨v2, r2, o2, w2⟩ := (open_int (T := 0) u_29) _ _ _ g2
  have p2 : okC c2 = true := by simpa using o2
  have e2 : flagS c2 = .int .u64 v2 := by simpa [RI_, Rep.flat] using r2
  exact ⟨⟨v0, v1, v2⟩, by show List.map flagS [c0, c1, c2] = c_Timpostlaw15_Deed ⟨v0, v1, v2⟩; simp only [List.map_cons, List.map_nil, e0, e1, e2]; rfl, by simp [p0, p1, p2], ⟨w0, w1, w2⟩⟩
theorem og_54 : OpenT enc Try.prog W spare held 54 R_A2_Timpostlaw15_Deed W_A2_Timpostlaw15_Deed := by
  intro fuel cs x h
  obtain ⟨xs, n, rfl, rfl, hl, hxl, hf⟩ := DataW.trod_array u_54 h
  rw [co_54] at hl
  obtain ⟨c0, c1, c2, c3, c4, c5, rfl⟩ : ∃ c0 c1 c2 c3 c4 c5, cs = [c0, c1, c2, c3, c4, c5] := by
    match cs, hl with
    | [c0, c1, c2, c3, c4, c5], _ => exact ⟨c0, c1, c2, c3, c4, c5, rfl⟩
  have hxl : xs.length = 2 := hxl
  have g0 : DataW.trod enc Try.prog W 0 spare held n 37 [c0, c1, c2] = some (xs[0]) := by
    have g := hf 0 (by decide)
    rw [List.getElem?_eq_getElem (show 0 < xs.length by omega)] at g
    rw [co_37] at g
    exact g
  obtain ⟨v0, r0, o0, w0⟩ := og_37 _ _ _ g0
  obtain ⟨p0, p1, p2⟩ : okC c0 = true ∧ okC c1 = true ∧ okC c2 = true := by simpa using o0
  have e0 : [flagS c0, flagS c1, flagS c2] = c_Timpostlaw15_Deed v0 := r0
  simp only [c_Timpostlaw15_Deed, List.cons.injEq, and_true] at e0
  obtain ⟨e0_0, e0_1, e0_2⟩ := e0
  have g1 : DataW.trod enc Try.prog W 0 spare held n 37 [c3, c4, c5] = some (xs[1]) := by
    have g := hf 1 (by decide)
    rw [List.getElem?_eq_getElem (show 1 < xs.length by omega)] at g
    rw [co_37] at g
    exact g
  obtain ⟨v1, r1, o1, w1⟩ := og_37 _ _ _ g1
  obtain ⟨p3, p4, p5⟩ : okC c3 = true ∧ okC c4 = true ∧ okC c5 = true := by simpa using o1
  have e1 : [flagS c3, flagS c4, flagS c5] = c_Timpostlaw15_Deed v1 := r1
  simp only [c_Timpostlaw15_Deed, List.cons.injEq, and_true] at e1
  obtain ⟨e1_0, e1_1, e1_2⟩ := e1
  exact ⟨⟨v0, v1⟩, by show List.map flagS [c0, c1, c2, c3, c4, c5] = c_A2_Timpostlaw15_Deed ⟨v0, v1⟩; simp only [List.map_cons, List.map_nil, e0_0, e0_1, e0_2, e1_0, e1_1, e1_2]; rfl, by simp [p0, p1, p2, p3, p4, p5], ⟨w0, w1⟩⟩
end
end Go.Proofs.Ytndhbaidibioeaa.V
