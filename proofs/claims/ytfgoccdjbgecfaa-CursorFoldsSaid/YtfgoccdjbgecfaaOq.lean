/- What the laws of this seat are given.
   No condition: these are laws of this program. -/
import Derived.Test.YtfgoccdjbgecfaaPT
import Derived.WalkKit
import Derived.ProofKit
import Derived.OpenShut
import Derived.ShutString
import Derived.ChangeOld
import Derived.Below
import Derived.SizedLaws
namespace Go.Proofs.Ytfgoccdjbgecfaa.V
open Go
set_option linter.unusedVariables false
set_option linter.unusedSimpArgs false
set_option maxRecDepth 100000
theorem u_9 : Try.prog.underlying 9 = some (.string) := by kernel_rfl
theorem u_23 : Try.prog.underlying 23 = some (.struct (Try.prog.fieldsOf 23)) := by kernel_rfl
theorem co_23 : Try.prog.cellsOf 23 = 2 := by kernel_rfl
theorem u_3 : Try.prog.underlying 3 = some (.int .i64) := by kernel_rfl
theorem u_4 : Try.prog.underlying 4 = some (.bool) := by kernel_rfl
theorem u_25 : Try.prog.underlying 25 = some (.struct (Try.prog.fieldsOf 25)) := by kernel_rfl
theorem co_25 : Try.prog.cellsOf 25 = 5 := by kernel_rfl
theorem u_92 : Try.prog.underlying 92 = some (.struct (Try.prog.fieldsOf 92)) := by kernel_rfl
theorem co_92 : Try.prog.cellsOf 92 = 3 := by kernel_rfl
theorem u_54 : Try.prog.underlying 54 = some (.slice 92) := by kernel_rfl
theorem u_56 : Try.prog.underlying 56 = some (.struct (Try.prog.fieldsOf 56)) := by kernel_rfl
theorem co_56 : Try.prog.cellsOf 56 = 3 := by kernel_rfl
theorem u_48 : Try.prog.underlying 48 = some (.slice 56) := by kernel_rfl
theorem co_48 : Try.prog.cellsOf 48 = 1 := by kernel_rfl
theorem u_49 : Try.prog.underlying 49 = some (.array 2 48) := by kernel_rfl
theorem co_49 : Try.prog.cellsOf 49 = 2 := by kernel_rfl
theorem u_5 : Try.prog.underlying 5 = some (.int .u8) := by kernel_rfl
section
variable {H : Type} {enc : TypeId × Value → H} {W : World} {spare : Nat → Bool} {held : Bool}
theorem og_23 : OpenT enc Try.prog W spare held 23 R_TRange W_TRange := by
  intro fuel cs x h
  obtain ⟨xs, n, rfl, rfl, hl, hxl, hf⟩ := DataW.trod_struct u_23 h
  rw [co_23] at hl
  obtain ⟨c0, c1, rfl⟩ : ∃ c0 c1, cs = [c0, c1] := by
    match cs, hl with
    | [c0, c1], _ => exact ⟨c0, c1, rfl⟩
  have hxl : xs.length = 2 := hxl
  have g0 : DataW.trod enc Try.prog W 0 spare held n 9 [c0] = some (xs[0]) := by
    have g := hf 0 _ rfl
    rw [List.getElem?_eq_getElem (show 0 < xs.length by omega)] at g
    exact g
  obtain ⟨v0, r0, o0, w0⟩ := (open_str (T := 0) u_9) _ _ _ g0
  have p0 : okC c0 = true := by simpa using o0
  have e0 : flagS c0 = .string v0 := by simpa [RS_, Rep.flat] using r0
  have g1 : DataW.trod enc Try.prog W 0 spare held n 9 [c1] = some (xs[1]) := by
    have g := hf 1 _ rfl
    rw [List.getElem?_eq_getElem (show 1 < xs.length by omega)] at g
    exact g
  obtain ⟨v1, r1, o1, w1⟩ := (open_str (T := 0) u_9) _ _ _ g1
  have p1 : okC c1 = true := by simpa using o1
  have e1 : flagS c1 = .string v1 := by simpa [RS_, Rep.flat] using r1
  exact ⟨⟨v0, v1⟩, by show List.map flagS [c0, c1] = c_TRange ⟨v0, v1⟩; simp only [List.map_cons, List.map_nil, e0, e1]; rfl, by simp [p0, p1], ⟨w0, w1⟩⟩
theorem og_25 : OpenT enc Try.prog W spare held 25 R_Timpostref10_Cursor W_Timpostref10_Cursor := by
  intro fuel cs x h
  obtain ⟨xs, n, rfl, rfl, hl, hxl, hf⟩ := DataW.trod_struct u_25 h
  rw [co_25] at hl
  obtain ⟨c0, c1, c2, c3, c4, rfl⟩ : ∃ c0 c1 c2 c3 c4, cs = [c0, c1, c2, c3, c4] := by
    match cs, hl with
    | [c0, c1, c2, c3, c4], _ => exact ⟨c0, c1, c2, c3, c4, rfl⟩
  have hxl : xs.length = 4 := hxl
  have g0 : DataW.trod enc Try.prog W 0 spare held n 23 [c0, c1] = some (xs[0]) := by
    have g := hf 0 _ rfl
    rw [List.getElem?_eq_getElem (show 0 < xs.length by omega)] at g
    exact g
  obtain ⟨v0, r0, o0, w0⟩ := og_23 _ _ _ g0
  obtain ⟨p0, p1⟩ : okC c0 = true ∧ okC c1 = true := by simpa using o0
  have e0 : [flagS c0, flagS c1] = c_TRange v0 := r0
  simp only [c_TRange, List.cons.injEq, and_true] at e0
  obtain ⟨e0_0, e0_1⟩ := e0
  have g1 : DataW.trod enc Try.prog W 0 spare held n 3 [c2] = some (xs[1]) := by
    have g := hf 1 _ rfl
    rw [List.getElem?_eq_getElem (show 1 < xs.length by omega)] at g
    exact g
  obtain ⟨v1, r1, o1, w1⟩ := (open_int (T := 0) u_3) _ _ _ g1
  have p2 : okC c2 = true := by simpa using o1
  have e1 : flagS c2 = .int .i64 v1 := by simpa [RI_, Rep.flat] using r1
  have g2 : DataW.trod enc Try.prog W 0 spare held n 4 [c3] = some (xs[2]) := by
    have g := hf 2 _ rfl
    rw [List.getElem?_eq_getElem (show 2 < xs.length by omega)] at g
    exact g
  obtain ⟨v2, r2, o2, w2⟩ := (open_bool (T := 0) u_4) _ _ _ g2
  have p3 : okC c3 = true := by simpa using o2
  have e2 : flagS c3 = .bool v2 := by simpa [RB_, Rep.flat] using r2
  have g3 : DataW.trod enc Try.prog W 0 spare held n 4 [c4] = some (xs[3]) := by
    have g := hf 3 _ rfl
    rw [List.getElem?_eq_getElem (show 3 < xs.length by omega)] at g
    exact g
  obtain ⟨v3, r3, o3, w3⟩ := (open_bool (T := 0) u_4) _ _ _ g3
  have p4 : okC c4 = true := by simpa using o3
  have e3 : flagS c4 = .bool v3 := by simpa [RB_, Rep.flat] using r3
  exact ⟨⟨v0, v1, v2, v3⟩, by show List.map flagS [c0, c1, c2, c3, c4] = c_Timpostref10_Cursor ⟨v0, v1, v2, v3⟩; simp only [List.map_cons, List.map_nil, e0_0, e0_1, e1, e2, e3]; rfl, by simp [p0, p1, p2, p3, p4], ⟨w0, w1, w2, w3⟩⟩
theorem og_92 : OpenT enc Try.prog W spare held 92 R_TOp W_TOp := by
  intro fuel cs x h
  obtain ⟨xs, n, rfl, rfl, hl, hxl, hf⟩ := DataW.trod_struct u_92 h
  rw [co_92] at hl
  obtain ⟨c0, c1, c2, rfl⟩ : ∃ c0 c1 c2, cs = [c0, c1, c2] := by
    match cs, hl with
    | [c0, c1, c2], _ => exact ⟨c0, c1, c2, rfl⟩
  have hxl : xs.length = 3 := hxl
  have g0 : DataW.trod enc Try.prog W 0 spare held n 9 [c0] = some (xs[0]) := by
    have g := hf 0 _ rfl
    rw [List.getElem?_eq_getElem (show 0 < xs.length by omega)] at g
    exact g
  obtain ⟨v0, r0, o0, w0⟩ := (open_str (T := 0) u_9) _ _ _ g0
  have p0 : okC c0 = true := by simpa using o0
  have e0 : flagS c0 = .string v0 := by simpa [RS_, Rep.flat] using r0
  have g1 : DataW.trod enc Try.prog W 0 spare held n 9 [c1] = some (xs[1]) := by
    have g := hf 1 _ rfl
    rw [List.getElem?_eq_getElem (show 1 < xs.length by omega)] at g
    exact g
  obtain ⟨v1, r1, o1, w1⟩ := (open_str (T := 0) u_9) _ _ _ g1
  have p1 : okC c1 = true := by simpa using o1
  have e1 : flagS c1 = .string v1 := by simpa [RS_, Rep.flat] using r1
  have g2 : DataW.trod enc Try.prog W 0 spare held n 4 [c2] = some (xs[2]) := by
    have g := hf 2 _ rfl
    rw [List.getElem?_eq_getElem (show 2 < xs.length by omega)] at g
    exact g
  obtain ⟨v2, r2, o2, w2⟩ := (open_bool (T := 0) u_4) _ _ _ g2
  have p2 : okC c2 = true := by simpa using o2
  have e2 : flagS c2 = .bool v2 := by simpa [RB_, Rep.flat] using r2
  exact ⟨⟨v0, v1, v2⟩, by show List.map flagS [c0, c1, c2] = c_TOp ⟨v0, v1, v2⟩; simp only [List.map_cons, List.map_nil, e0, e1, e2]; rfl, by simp [p0, p1, p2], ⟨w0, w1, w2⟩⟩
theorem og_56 : OpenT enc Try.prog W spare held 56 R_Timpostlaw10_Deed W_Timpostlaw10_Deed := by
  intro fuel cs x h
  obtain ⟨xs, n, rfl, rfl, hl, hxl, hf⟩ := DataW.trod_struct u_56 h
  rw [co_56] at hl
  obtain ⟨c0, c1, c2, rfl⟩ : ∃ c0 c1 c2, cs = [c0, c1, c2] := by
    match cs, hl with
    | [c0, c1, c2], _ => exact ⟨c0, c1, c2, rfl⟩
  have hxl : xs.length = 3 := hxl
  have g0 : DataW.trod enc Try.prog W 0 spare held n 3 [c0] = some (xs[0]) := by
    have g := hf 0 _ rfl
    rw [List.getElem?_eq_getElem (show 0 < xs.length by omega)] at g
    exact g
  obtain ⟨v0, r0, o0, w0⟩ := (open_int (T := 0) u_3) _ _ _ g0
  have p0 : okC c0 = true := by simpa using o0
  have e0 : flagS c0 = .int .i64 v0 := by simpa [RI_, Rep.flat] using r0
  have g1 : DataW.trod enc Try.prog W 0 spare held n 54 [c1] = some (xs[1]) := by
    have g := hf 1 _ rfl
    rw [List.getElem?_eq_getElem (show 1 < xs.length by omega)] at g
    exact g
  obtain ⟨v1, r1, o1, w1⟩ := (open_RL (T := 0) u_54 co_92 (by decide) og_92) _ _ _ g1
  have p1 : okC c1 = true := by simpa using o1
  obtain ⟨a1_, q1, e1, f1⟩ := r1
  have e1 : flagS c1 = .slice a1_ v1.length q1 := by simpa using e1
  have g2 : DataW.trod enc Try.prog W 0 spare held n 3 [c2] = some (xs[2]) := by
    have g := hf 2 _ rfl
    rw [List.getElem?_eq_getElem (show 2 < xs.length by omega)] at g
    exact g
  obtain ⟨v2, r2, o2, w2⟩ := (open_int (T := 0) u_3) _ _ _ g2
  have p2 : okC c2 = true := by simpa using o2
  have e2 : flagS c2 = .int .i64 v2 := by simpa [RI_, Rep.flat] using r2
  exact ⟨⟨v0, v1, v2⟩, ⟨a1_, q1, by simp only [List.map_cons, List.map_nil, e0, e1, e2], f1⟩, by simp [p0, p1, p2], ⟨w0, w1, w2⟩⟩
theorem og_49 : OpenT enc Try.prog W spare held 49 R_A2_ListTimpostlaw10_Deed W_A2_ListTimpostlaw10_Deed := by
  intro fuel cs x h
  obtain ⟨xs, n, rfl, rfl, hl, hxl, hf⟩ := DataW.trod_array u_49 h
  rw [co_49] at hl
  obtain ⟨c0, c1, rfl⟩ : ∃ c0 c1, cs = [c0, c1] := by
    match cs, hl with
    | [c0, c1], _ => exact ⟨c0, c1, rfl⟩
  have hxl : xs.length = 2 := hxl
  have g0 : DataW.trod enc Try.prog W 0 spare held n 48 [c0] = some (xs[0]) := by
    have g := hf 0 (by decide)
    rw [List.getElem?_eq_getElem (show 0 < xs.length by omega)] at g
    rw [co_48] at g
    exact g
  obtain ⟨v0, r0, o0, w0⟩ := (open_RL (T := 0) u_48 co_56 (by decide) og_56) _ _ _ g0
  have p0 : okC c0 = true := by simpa using o0
  obtain ⟨a0_, q0, e0, f0⟩ := r0
  have e0 : flagS c0 = .slice a0_ v0.length q0 := by simpa using e0
  have g1 : DataW.trod enc Try.prog W 0 spare held n 48 [c1] = some (xs[1]) := by
    have g := hf 1 (by decide)
    rw [List.getElem?_eq_getElem (show 1 < xs.length by omega)] at g
    rw [co_48] at g
    exact g
  obtain ⟨v1, r1, o1, w1⟩ := (open_RL (T := 0) u_48 co_56 (by decide) og_56) _ _ _ g1
  have p1 : okC c1 = true := by simpa using o1
  obtain ⟨a1_, q1, e1, f1⟩ := r1
  have e1 : flagS c1 = .slice a1_ v1.length q1 := by simpa using e1
  exact ⟨⟨v0, v1⟩, ⟨a0_, q0, a1_, q1, by simp only [List.map_cons, List.map_nil, e0, e1], f0, f1⟩, by simp [p0, p1], ⟨w0, w1⟩⟩
end
end Go.Proofs.Ytfgoccdjbgecfaa.V
