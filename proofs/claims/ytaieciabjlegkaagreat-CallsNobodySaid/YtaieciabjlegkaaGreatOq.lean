/- What the laws of this seat are given.
   No condition: these are laws of this program. -/
import Derived.Test.YtaieciabjlegkaaGreatPT
import Derived.WalkKit
import Derived.ProofKit
import Derived.OpenShut
import Derived.ShutString
import Derived.ChangeOld
import Derived.Below
import Derived.SizedLaws
namespace Go.Proofs.YtaieciabjlegkaaGreat.V
open Go
set_option linter.unusedVariables false
set_option linter.unusedSimpArgs false
set_option maxRecDepth 100000
theorem u_3 : Tryz.prog.underlying 3 = some (.int .i64) := by kernel_rfl
theorem co_3 : Tryz.prog.cellsOf 3 = 1 := by kernel_rfl
theorem u_9 : Tryz.prog.underlying 9 = some (.string) := by kernel_rfl
theorem co_9 : Tryz.prog.cellsOf 9 = 1 := by kernel_rfl
theorem u_42 : Tryz.prog.underlying 42 = some (.struct (Tryz.prog.fieldsOf 42)) := by kernel_rfl
theorem co_42 : Tryz.prog.cellsOf 42 = 2 := by kernel_rfl
theorem u_248 : Tryz.prog.underlying 248 = some (.struct (Tryz.prog.fieldsOf 248)) := by kernel_rfl
theorem co_248 : Tryz.prog.cellsOf 248 = 4 := by kernel_rfl
theorem u_43 : Tryz.prog.underlying 43 = some (.slice 248) := by kernel_rfl
theorem co_43 : Tryz.prog.cellsOf 43 = 1 := by kernel_rfl
theorem u_4 : Tryz.prog.underlying 4 = some (.bool) := by kernel_rfl
theorem co_4 : Tryz.prog.cellsOf 4 = 1 := by kernel_rfl
theorem u_185 : Tryz.prog.underlying 185 = some (.struct (Tryz.prog.fieldsOf 185)) := by kernel_rfl
theorem co_185 : Tryz.prog.cellsOf 185 = 3 := by kernel_rfl
theorem u_44 : Tryz.prog.underlying 44 = some (.slice 185) := by kernel_rfl
theorem co_44 : Tryz.prog.cellsOf 44 = 1 := by kernel_rfl
theorem u_46 : Tryz.prog.underlying 46 = some (.struct (Tryz.prog.fieldsOf 46)) := by kernel_rfl
theorem co_46 : Tryz.prog.cellsOf 46 = 7 := by kernel_rfl
section
variable {H : Type} {enc : TypeId × Value → H} {W : World} {spare : Nat → Bool} {held : Bool}
theorem og_42 : OpenT enc Tryz.prog W spare held 42 R_TRange W_TRange := by
  intro fuel cs x h
  obtain ⟨xs, n, rfl, rfl, hl, hxl, hf⟩ := DataW.trod_struct u_42 h
  rw [co_42] at hl
  obtain ⟨c0, c1, rfl⟩ : ∃ c0 c1, cs = [c0, c1] := by
    match cs, hl with
    | [c0, c1], _ => exact ⟨c0, c1, rfl⟩
  have hxl : xs.length = 2 := hxl
  have g0 : DataW.trod enc Tryz.prog W 0 spare held n 9 [c0] = some (xs[0]) := by
    have g := hf 0 _ rfl
    rw [List.getElem?_eq_getElem (show 0 < xs.length by omega)] at g
    exact g
  obtain ⟨v0, r0, o0, w0⟩ := (open_str (T := 0) u_9) _ _ _ g0
  have p0 : okC c0 = true := by simpa using o0
  have e0 : flagS c0 = .string v0 := by simpa [RS_, Rep.flat] using r0
  have g1 : DataW.trod enc Tryz.prog W 0 spare held n 9 [c1] = some (xs[1]) := by
    have g := hf 1 _ rfl
    rw [List.getElem?_eq_getElem (show 1 < xs.length by omega)] at g
    exact g
  obtain ⟨v1, r1, o1, w1⟩ := (open_str (T := 0) u_9) _ _ _ g1
  have p1 : okC c1 = true := by simpa using o1
  have e1 : flagS c1 = .string v1 := by simpa [RS_, Rep.flat] using r1
  exact ⟨⟨v0, v1⟩, by show List.map flagS [c0, c1] = c_TRange ⟨v0, v1⟩; simp only [List.map_cons, List.map_nil, e0, e1]; rfl, by simp [p0, p1], ⟨w0, w1⟩⟩
theorem og_248 : OpenT enc Tryz.prog W spare held 248 R_TCmp W_TCmp := by
  intro fuel cs x h
  obtain ⟨xs, n, rfl, rfl, hl, hxl, hf⟩ := DataW.trod_struct u_248 h
  rw [co_248] at hl
  obtain ⟨c0, c1, c2, c3, rfl⟩ : ∃ c0 c1 c2 c3, cs = [c0, c1, c2, c3] := by
    match cs, hl with
    | [c0, c1, c2, c3], _ => exact ⟨c0, c1, c2, c3, rfl⟩
  have hxl : xs.length = 4 := hxl
  have g0 : DataW.trod enc Tryz.prog W 0 spare held n 3 [c0] = some (xs[0]) := by
    have g := hf 0 _ rfl
    rw [List.getElem?_eq_getElem (show 0 < xs.length by omega)] at g
    exact g
  obtain ⟨v0, r0, o0, w0⟩ := (open_int (T := 0) u_3) _ _ _ g0
  have p0 : okC c0 = true := by simpa using o0
  have e0 : flagS c0 = .int .i64 v0 := by simpa [RI_, Rep.flat] using r0
  have g1 : DataW.trod enc Tryz.prog W 0 spare held n 9 [c1] = some (xs[1]) := by
    have g := hf 1 _ rfl
    rw [List.getElem?_eq_getElem (show 1 < xs.length by omega)] at g
    exact g
  obtain ⟨v1, r1, o1, w1⟩ := (open_str (T := 0) u_9) _ _ _ g1
  have p1 : okC c1 = true := by simpa using o1
  have e1 : flagS c1 = .string v1 := by simpa [RS_, Rep.flat] using r1
  have g2 : DataW.trod enc Tryz.prog W 0 spare held n 9 [c2] = some (xs[2]) := by
    have g := hf 2 _ rfl
    rw [List.getElem?_eq_getElem (show 2 < xs.length by omega)] at g
    exact g
  obtain ⟨v2, r2, o2, w2⟩ := (open_str (T := 0) u_9) _ _ _ g2
  have p2 : okC c2 = true := by simpa using o2
  have e2 : flagS c2 = .string v2 := by simpa [RS_, Rep.flat] using r2
  have g3 : DataW.trod enc Tryz.prog W 0 spare held n 3 [c3] = some (xs[3]) := by
    have g := hf 3 _ rfl
    rw [List.getElem?_eq_getElem (show 3 < xs.length by omega)] at g
    exact g
  obtain ⟨v3, r3, o3, w3⟩ := (open_int (T := 0) u_3) _ _ _ g3
  have p3 : okC c3 = true := by simpa using o3
  have e3 : flagS c3 = .int .i64 v3 := by simpa [RI_, Rep.flat] using r3
  exact ⟨⟨v0, v1, v2, v3⟩, by show List.map flagS [c0, c1, c2, c3] = c_TCmp ⟨v0, v1, v2, v3⟩; simp only [List.map_cons, List.map_nil, e0, e1, e2, e3]; rfl, by simp [p0, p1, p2, p3], ⟨w0, w1, w2, w3⟩⟩
theorem og_185 : OpenT enc Tryz.prog W spare held 185 R_TOp W_TOp := by
  intro fuel cs x h
  obtain ⟨xs, n, rfl, rfl, hl, hxl, hf⟩ := DataW.trod_struct u_185 h
  rw [co_185] at hl
  obtain ⟨c0, c1, c2, rfl⟩ : ∃ c0 c1 c2, cs = [c0, c1, c2] := by
    match cs, hl with
    | [c0, c1, c2], _ => exact ⟨c0, c1, c2, rfl⟩
  have hxl : xs.length = 3 := hxl
  have g0 : DataW.trod enc Tryz.prog W 0 spare held n 9 [c0] = some (xs[0]) := by
    have g := hf 0 _ rfl
    rw [List.getElem?_eq_getElem (show 0 < xs.length by omega)] at g
    exact g
  obtain ⟨v0, r0, o0, w0⟩ := (open_str (T := 0) u_9) _ _ _ g0
  have p0 : okC c0 = true := by simpa using o0
  have e0 : flagS c0 = .string v0 := by simpa [RS_, Rep.flat] using r0
  have g1 : DataW.trod enc Tryz.prog W 0 spare held n 9 [c1] = some (xs[1]) := by
    have g := hf 1 _ rfl
    rw [List.getElem?_eq_getElem (show 1 < xs.length by omega)] at g
    exact g
  obtain ⟨v1, r1, o1, w1⟩ := (open_str (T := 0) u_9) _ _ _ g1
  have p1 : okC c1 = true := by simpa using o1
  have e1 : flagS c1 = .string v1 := by simpa [RS_, Rep.flat] using r1
  have g2 : DataW.trod enc Tryz.prog W 0 spare held n 4 [c2] = some (xs[2]) := by
    have g := hf 2 _ rfl
    rw [List.getElem?_eq_getElem (show 2 < xs.length by omega)] at g
    exact g
  obtain ⟨v2, r2, o2, w2⟩ := (open_bool (T := 0) u_4) _ _ _ g2
  have p2 : okC c2 = true := by simpa using o2
  have e2 : flagS c2 = .bool v2 := by simpa [RB_, Rep.flat] using r2
  exact ⟨⟨v0, v1, v2⟩, by show List.map flagS [c0, c1, c2] = c_TOp ⟨v0, v1, v2⟩; simp only [List.map_cons, List.map_nil, e0, e1, e2]; rfl, by simp [p0, p1, p2], ⟨w0, w1, w2⟩⟩
theorem og_46 : OpenT enc Tryz.prog W spare held 46 R_TReq W_TReq := by
  intro fuel cs x h
  obtain ⟨xs, n, rfl, rfl, hl, hxl, hf⟩ := DataW.trod_struct u_46 h
  rw [co_46] at hl
  obtain ⟨c0, c1, c2, c3, c4, c5, c6, rfl⟩ : ∃ c0 c1 c2 c3 c4 c5 c6, cs = [c0, c1, c2, c3, c4, c5, c6] := by
    match cs, hl with
    | [c0, c1, c2, c3, c4, c5, c6], _ => exact ⟨c0, c1, c2, c3, c4, c5, c6, rfl⟩
  have hxl : xs.length = 6 := hxl
  have g0 : DataW.trod enc Tryz.prog W 0 spare held n 3 [c0] = some (xs[0]) := by
    have g := hf 0 _ rfl
    rw [List.getElem?_eq_getElem (show 0 < xs.length by omega)] at g
    exact g
  obtain ⟨v0, r0, o0, w0⟩ := (open_int (T := 0) u_3) _ _ _ g0
  have p0 : okC c0 = true := by simpa using o0
  have e0 : flagS c0 = .int .i64 v0 := by simpa [RI_, Rep.flat] using r0
  have g1 : DataW.trod enc Tryz.prog W 0 spare held n 42 [c1, c2] = some (xs[1]) := by
    have g := hf 1 _ rfl
    rw [List.getElem?_eq_getElem (show 1 < xs.length by omega)] at g
    exact g
  obtain ⟨v1, r1, o1, w1⟩ := og_42 _ _ _ g1
  obtain ⟨p1, p2⟩ : okC c1 = true ∧ okC c2 = true := by simpa using o1
  have e1 : [flagS c1, flagS c2] = c_TRange v1 := r1
  simp only [c_TRange, List.cons.injEq, and_true] at e1
  obtain ⟨e1_0, e1_1⟩ := e1
  have g2 : DataW.trod enc Tryz.prog W 0 spare held n 3 [c3] = some (xs[2]) := by
    have g := hf 2 _ rfl
    rw [List.getElem?_eq_getElem (show 2 < xs.length by omega)] at g
    exact g
  obtain ⟨v2, r2, o2, w2⟩ := (open_int (T := 0) u_3) _ _ _ g2
  have p3 : okC c3 = true := by simpa using o2
  have e2 : flagS c3 = .int .i64 v2 := by simpa [RI_, Rep.flat] using r2
  have g3 : DataW.trod enc Tryz.prog W 0 spare held n 43 [c4] = some (xs[3]) := by
    have g := hf 3 _ rfl
    rw [List.getElem?_eq_getElem (show 3 < xs.length by omega)] at g
    exact g
  obtain ⟨v3, r3, o3, w3⟩ := (open_RL (T := 0) u_43 co_248 (by decide) og_248) _ _ _ g3
  have p4 : okC c4 = true := by simpa using o3
  obtain ⟨a3_, q3, e3, f3⟩ := r3
  have e3 : flagS c4 = .slice a3_ v3.length q3 := by simpa using e3
  have g4 : DataW.trod enc Tryz.prog W 0 spare held n 44 [c5] = some (xs[4]) := by
    have g := hf 4 _ rfl
    rw [List.getElem?_eq_getElem (show 4 < xs.length by omega)] at g
    exact g
  obtain ⟨v4, r4, o4, w4⟩ := (open_RL (T := 0) u_44 co_185 (by decide) og_185) _ _ _ g4
  have p5 : okC c5 = true := by simpa using o4
  obtain ⟨a4_, q4, e4, f4⟩ := r4
  have e4 : flagS c5 = .slice a4_ v4.length q4 := by simpa using e4
  have g5 : DataW.trod enc Tryz.prog W 0 spare held n 44 [c6] = some (xs[5]) := by
    have g := hf 5 _ rfl
    rw [List.getElem?_eq_getElem (show 5 < xs.length by omega)] at g
    exact g
  obtain ⟨v5, r5, o5, w5⟩ := (open_RL (T := 0) u_44 co_185 (by decide) og_185) _ _ _ g5
  have p6 : okC c6 = true := by simpa using o5
  obtain ⟨a5_, q5, e5, f5⟩ := r5
  have e5 : flagS c6 = .slice a5_ v5.length q5 := by simpa using e5
  exact ⟨⟨v0, v1, v2, v3, v4, v5⟩, ⟨a3_, q3, a4_, q4, a5_, q5, by simp only [List.map_cons, List.map_nil, e0, e1_0, e1_1, e2, e3, e4, e5], f3, f4, f5⟩, by simp [p0, p1, p2, p3, p4, p5, p6], ⟨w0, w1, w2, w3, w4, w5⟩⟩
end
end Go.Proofs.YtaieciabjlegkaaGreat.V
