/- What the laws of this seat are given.
   No condition: these are laws of this program. -/
import Derived.Test.YtmogkmckjgeoiaaGreatPT
import Derived.WalkKit
import Derived.ProofKit
import Derived.OpenShut
import Derived.ShutString
import Derived.ChangeOld
import Derived.Below
import Derived.SizedLaws
namespace Go.Proofs.YtmogkmckjgeoiaaGreat.V
open Go
set_option linter.unusedVariables false
set_option linter.unusedSimpArgs false
set_option maxRecDepth 100000
theorem u_3 : Tryz.prog.underlying 3 = some (.int .i64) := by kernel_rfl
theorem u_9 : Tryz.prog.underlying 9 = some (.string) := by kernel_rfl
theorem u_23 : Tryz.prog.underlying 23 = some (.struct (Tryz.prog.fieldsOf 23)) := by kernel_rfl
theorem co_23 : Tryz.prog.cellsOf 23 = 2 := by kernel_rfl
theorem u_86 : Tryz.prog.underlying 86 = some (.struct (Tryz.prog.fieldsOf 86)) := by kernel_rfl
theorem co_86 : Tryz.prog.cellsOf 86 = 4 := by kernel_rfl
theorem u_24 : Tryz.prog.underlying 24 = some (.slice 86) := by kernel_rfl
theorem u_4 : Tryz.prog.underlying 4 = some (.bool) := by kernel_rfl
theorem u_84 : Tryz.prog.underlying 84 = some (.struct (Tryz.prog.fieldsOf 84)) := by kernel_rfl
theorem co_84 : Tryz.prog.cellsOf 84 = 3 := by kernel_rfl
theorem u_25 : Tryz.prog.underlying 25 = some (.slice 84) := by kernel_rfl
theorem u_27 : Tryz.prog.underlying 27 = some (.struct (Tryz.prog.fieldsOf 27)) := by kernel_rfl
theorem co_27 : Tryz.prog.cellsOf 27 = 7 := by kernel_rfl
theorem u_29 : Tryz.prog.underlying 29 = some (.struct (Tryz.prog.fieldsOf 29)) := by kernel_rfl
theorem co_29 : Tryz.prog.cellsOf 29 = 5 := by kernel_rfl
section
variable {H : Type} {enc : TypeId × Value → H} {W : World} {spare : Nat → Bool} {held : Bool}
theorem og_23 : OpenT enc Tryz.prog W spare held 23 R_TRange W_TRange := by
 intro fuel cs x h
 obtain ⟨xs, n, rfl, rfl, hl, hxl, hf⟩ := DataW.trod_struct u_23 h
 rw [co_23] at hl
 obtain ⟨c0, c1, rfl⟩ : ∃ c0 c1, cs = [c0, c1] := by
  match cs, hl with
  | [c0, c1], _ => exact ⟨c0, c1, rfl⟩
 have hxl : xs.length = 2 := hxl
 have g0 : DataW.trod enc Tryz.prog W 0 spare held n 9 [c0] = some (xs[0]) := by
  have g := hf 0 _ rfl
  rw [List.getElem?_eq_getElem (show 0 < xs.length by omega)] at g
  exact g
 obtain ⟨v0, r0, o0, w0⟩ := (open_str (T := 0) u_9) _ _ _ g0
 have p0 : okC c0 = true := by simpa using o0
 have e0 : flagS c0 = .string v0 := by simpa [RS_, Rep.flat] using r0
 have g1 : DataW.trod enc Tryz.prog W 0 spare held n 9 [c1] = some (xs[1]) := by
  have g := hf 1 _ rfl
  rw [List.getElem?_eq_getElem (show 1 < xs.length by omega)] at g
  exact g
 obtain ⟨v1, r1, o1, w1⟩ := (open_str (T := 0) u_9) _ _ _ g1
 have p1 : okC c1 = true := by simpa using o1
 have e1 : flagS c1 = .string v1 := by simpa [RS_, Rep.flat] using r1
 exact ⟨⟨v0, v1⟩, by show List.map flagS [c0, c1] = c_TRange ⟨v0, v1⟩; simp only [List.map_cons, List.map_nil, e0, e1]; rfl, by simp [p0, p1], ⟨w0, w1⟩⟩
theorem og_86 : OpenT enc Tryz.prog W spare held 86 R_TCmp W_TCmp := by
 intro fuel cs x h
 obtain ⟨xs, n, rfl, rfl, hl, hxl, hf⟩ := DataW.trod_struct u_86 h
 rw [co_86] at hl
 obtain ⟨c0, c1, c2, c3, rfl⟩ : ∃ c0 c1 c2 c3, cs = [c0, c1, c2, c3] := by
  match cs, hl with
  | [c0, c1, c2, c3], _ => exact ⟨c0, c1, c2, c3, rfl⟩
 have hxl : xs.length = 4 := hxl
 have g0 : DataW.trod enc Tryz.prog W 0 spare held n 3 [c0] = some (xs[0]) := by
  have g := hf 0 _ rfl
  rw [List.getElem?_eq_getElem (show 0 < xs.length by omega)] at g
  exact g
 obtain ⟨v0, r0, o0, w0⟩ := (open_int (T := 0) u_3) _ _ _ g0
 have p0 : okC c0 = true := by simpa using o0
 have e0 : flagS c0 = .int .i64 v0 := by simpa [RI_, Rep.flat] using r0
 have g1 : DataW.trod enc Tryz.prog W 0 spare held n 9 [c1] = some (xs[1]) := by
  have g := hf 1 _ rfl
  rw [List.getElem?_eq_getElem (show 1 < xs.length by omega)] at g
  exact g
 obtain ⟨v1, r1, o1, w1⟩ := (open_str (T := 0) u_9) _ _ _ g1
 have p1 : okC c1 = true := by simpa using o1
 have e1 : flagS c1 = .string v1 := by simpa [RS_, Rep.flat] using r1
 have g2 : DataW.trod enc Tryz.prog W 0 spare held n 9 [c2] = some (xs[2]) := by
  have g := hf 2 _ rfl
  rw [List.getElem?_eq_getElem (show 2 < xs.length by omega)] at g
  exact g
 obtain ⟨v2, r2, o2, w2⟩ := (open_str (T := 0) u_9) _ _ _ g2
 have p2 : okC c2 = true := by simpa using o2
 have e2 : flagS c2 = .string v2 := by simpa [RS_, Rep.flat] using r2
 have g3 : DataW.trod enc Tryz.prog W 0 spare held n 3 [c3] = some (xs[3]) := by
  have g := hf 3 _ rfl
  rw [List.getElem?_eq_getElem (show 3 < xs.length by omega)] at g
  exact g
 obtain ⟨v3, r3, o3, w3⟩ := (open_int (T := 0) u_3) _ _ _ g3
 have p3 : okC c3 = true := by simpa using o3
 have e3 : flagS c3 = .int .i64 v3 := by simpa [RI_, Rep.flat] using r3
 exact ⟨⟨v0, v1, v2, v3⟩, by show List.map flagS [c0, c1, c2, c3] = c_TCmp ⟨v0, v1, v2, v3⟩; simp only [List.map_cons, List.map_nil, e0, e1, e2, e3]; rfl, by simp [p0, p1, p2, p3], ⟨w0, w1, w2, w3⟩⟩
theorem og_84 : OpenT enc Tryz.prog W spare held 84 R_TOp W_TOp := by
 intro fuel cs x h
 obtain ⟨xs, n, rfl, rfl, hl, hxl, hf⟩ := DataW.trod_struct u_84 h
 rw [co_84] at hl
 obtain ⟨c0, c1, c2, rfl⟩ : ∃ c0 c1 c2, cs = [c0, c1, c2] := by
  match cs, hl with
  | [c0, c1, c2], _ => exact ⟨c0, c1, c2, rfl⟩
 have hxl : xs.length = 3 := hxl
 have g0 : DataW.trod enc Tryz.prog W 0 spare held n 9 [c0] = some (xs[0]) := by
  have g := hf 0 _ rfl
  rw [List.getElem?_eq_getElem (show 0 < xs.length by omega)] at g
  exact g
 obtain ⟨v0, r0, o0, w0⟩ := (open_str (T := 0) u_9) _ _ _ g0
 have p0 : okC c0 = true := by simpa using o0
 have e0 : flagS c0 = .string v0 := by simpa [RS_, Rep.flat] using r0
 have g1 : DataW.trod enc Tryz.prog W 0 spare held n 9 [c1] = some (xs[1]) := by
  have g := hf 1 _ rfl
  rw [List.getElem?_eq_getElem (show 1 < xs.length by omega)] at g
  exact g
 obtain ⟨v1, r1, o1, w1⟩ := (open_str (T := 0) u_9) _ _ _ g1
 have p1 : okC c1 = true := by simpa using o1
 have e1 : flagS c1 = .string v1 := by simpa [RS_, Rep.flat] using r1
 have g2 : DataW.trod enc Tryz.prog W 0 spare held n 4 [c2] = some (xs[2]) := by
  have g := hf 2 _ rfl
  rw [List.getElem?_eq_getElem (show 2 < xs.length by omega)] at g
  exact g
 obtain ⟨v2, r2, o2, w2⟩ := (open_bool (T := 0) u_4) _ _ _ g2
 have p2 : okC c2 = true := by simpa using o2
 have e2 : flagS c2 = .bool v2 := by simpa [RB_, Rep.flat] using r2
 exact ⟨⟨v0, v1, v2⟩, by show List.map flagS [c0, c1, c2] = c_TOp ⟨v0, v1, v2⟩; simp only [List.map_cons, List.map_nil, e0, e1, e2]; rfl, by simp [p0, p1, p2], ⟨w0, w1, w2⟩⟩
theorem og_27 : OpenT enc Tryz.prog W spare held 27 R_TReq W_TReq := by
 intro fuel cs x h
 obtain ⟨xs, n, rfl, rfl, hl, hxl, hf⟩ := DataW.trod_struct u_27 h
 rw [co_27] at hl
 obtain ⟨c0, c1, c2, c3, c4, c5, c6, rfl⟩ : ∃ c0 c1 c2 c3 c4 c5 c6, cs = [c0, c1, c2, c3, c4, c5, c6] := by
  match cs, hl with
  | [c0, c1, c2, c3, c4, c5, c6], _ => exact ⟨c0, c1, c2, c3, c4, c5, c6, rfl⟩
 have hxl : xs.length = 6 := hxl
 have g0 : DataW.trod enc Tryz.prog W 0 spare held n 3 [c0] = some (xs[0]) := by
  have g := hf 0 _ rfl
  rw [List.getElem?_eq_getElem (show 0 < xs.length by omega)] at g
  exact g
 obtain ⟨v0, r0, o0, w0⟩ := (open_int (T := 0) u_3) _ _ _ g0
 have p0 : okC c0 = true := by simpa using o0
 have e0 : flagS c0 = .int .i64 v0 := by simpa [RI_, Rep.flat] using r0
 have g1 : DataW.trod enc Tryz.prog W 0 spare held n 23 [c1, c2] = some (xs[1]) := by
  have g := hf 1 _ rfl
  rw [List.getElem?_eq_getElem (show 1 < xs.length by omega)] at g
  exact g
 obtain ⟨v1, r1, o1, w1⟩ := og_23 _ _ _ g1
 obtain ⟨p1, p2⟩ : okC c1 = true ∧ okC c2 = true := by simpa using o1
 have e1 : [flagS c1, flagS c2] = c_TRange v1 := r1
 simp only [c_TRange, List.cons.injEq, and_true] at e1
 obtain ⟨e1_0, e1_1⟩ := e1
 have g2 : DataW.trod enc Tryz.prog W 0 spare held n 3 [c3] = some (xs[2]) := by
  have g := hf 2 _ rfl
  rw [List.getElem?_eq_getElem (show 2 < xs.length by omega)] at g
  exact g
 obtain ⟨v2, r2, o2, w2⟩ := (open_int (T := 0) u_3) _ _ _ g2
 have p3 : okC c3 = true := by simpa using o2
 have e2 : flagS c3 = .int .i64 v2 := by simpa [RI_, Rep.flat] using r2
 have g3 : DataW.trod enc Tryz.prog W 0 spare held n 24 [c4] = some (xs[3]) := by
  have g := hf 3 _ rfl
  rw [List.getElem?_eq_getElem (show 3 < xs.length by omega)] at g
  exact g
 obtain ⟨v3, r3, o3, w3⟩ := (open_RL (T := 0) u_24 co_86 (by decide) og_86) _ _ _ g3
 have p4 : okC c4 = true := by simpa using o3
 obtain ⟨a3_, q3, e3, f3⟩ := r3
 have e3 : flagS c4 = .slice a3_ v3.length q3 := by simpa using e3
 have g4 : DataW.trod enc Tryz.prog W 0 spare held n 25 [c5] = some (xs[4]) := by
  have g := hf 4 _ rfl
  rw [List.getElem?_eq_getElem (show 4 < xs.length by omega)] at g
  exact g
 obtain ⟨v4, r4, o4, w4⟩ := (open_RL (T := 0) u_25 co_84 (by decide) og_84) _ _ _ g4
 have p5 : okC c5 = true := by simpa using o4
 obtain ⟨a4_, q4, e4, f4⟩ := r4
 have e4 : flagS c5 = .slice a4_ v4.length q4 := by simpa using e4
 have g5 : DataW.trod enc Tryz.prog W 0 spare held n 25 [c6] = some (xs[5]) := by
  have g := hf 5 _ rfl
  rw [List.getElem?_eq_getElem (show 5 < xs.length by omega)] at g
  exact g
 obtain ⟨v5, r5, o5, w5⟩ := (open_RL (T := 0) u_25 co_84 (by decide) og_84) _ _ _ g5
 have p6 : okC c6 = true := by simpa using o5
 obtain ⟨a5_, q5, e5, f5⟩ := r5
 have e5 : flagS c6 = .slice a5_ v5.length q5 := by simpa using e5
 exact ⟨⟨v0, v1, v2, v3, v4, v5⟩, ⟨a3_, q3, a4_, q4, a5_, q5, by simp only [List.map_cons, List.map_nil, e0, e1_0, e1_1, e2, e3, e4, e5], f3, f4, f5⟩, by simp [p0, p1, p2, p3, p4, p5, p6], ⟨w0, w1, w2, w3, w4, w5⟩⟩
theorem og_29 : OpenT enc Tryz.prog W spare held 29 R_Timpostref10_Cursor W_Timpostref10_Cursor := by
 intro fuel cs x h
 obtain ⟨xs, n, rfl, rfl, hl, hxl, hf⟩ := DataW.trod_struct u_29 h
 rw [co_29] at hl
 obtain ⟨c0, c1, c2, c3, c4, rfl⟩ : ∃ c0 c1 c2 c3 c4, cs = [c0, c1, c2, c3, c4] := by
  match cs, hl with
  | [c0, c1, c2, c3, c4], _ => exact ⟨c0, c1, c2, c3, c4, rfl⟩
 have hxl : xs.length = 4 := hxl
 have g0 : DataW.trod enc Tryz.prog W 0 spare held n 23 [c0, c1] = some (xs[0]) := by
  have g := hf 0 _ rfl
  rw [List.getElem?_eq_getElem (show 0 < xs.length by omega)] at g
  exact g
 obtain ⟨v0, r0, o0, w0⟩ := og_23 _ _ _ g0
 obtain ⟨p0, p1⟩ : okC c0 = true ∧ okC c1 = true := by simpa using o0
 have e0 : [flagS c0, flagS c1] = c_TRange v0 := r0
 simp only [c_TRange, List.cons.injEq, and_true] at e0
 obtain ⟨e0_0, e0_1⟩ := e0
 have g1 : DataW.trod enc Tryz.prog W 0 spare held n 3 [c2] = some (xs[1]) := by
  have g := hf 1 _ rfl
  rw [List.getElem?_eq_getElem (show 1 < xs.length by omega)] at g
  exact g
 obtain ⟨v1, r1, o1, w1⟩ := (open_int (T := 0) u_3) _ _ _ g1
 have p2 : okC c2 = true := by simpa using o1
 have e1 : flagS c2 = .int .i64 v1 := by simpa [RI_, Rep.flat] using r1
 have g2 : DataW.trod enc Tryz.prog W 0 spare held n 4 [c3] = some (xs[2]) := by
  have g := hf 2 _ rfl
  rw [List.getElem?_eq_getElem (show 2 < xs.length by omega)] at g
  exact g
 obtain ⟨v2, r2, o2, w2⟩ := (open_bool (T := 0) u_4) _ _ _ g2
 have p3 : okC c3 = true := by simpa using o2
 have e2 : flagS c3 = .bool v2 := by simpa [RB_, Rep.flat] using r2
 have g3 : DataW.trod enc Tryz.prog W 0 spare held n 4 [c4] = some (xs[3]) := by
  have g := hf 3 _ rfl
  rw [List.getElem?_eq_getElem (show 3 < xs.length by omega)] at g
  exact g
 obtain ⟨v3, r3, o3, w3⟩ := (open_bool (T := 0) u_4) _ _ _ g3
 have p4 : okC c4 = true := by simpa using o3
 have e3 : flagS c4 = .bool v3 := by simpa [RB_, Rep.flat] using r3
 exact ⟨⟨v0, v1, v2, v3⟩, by show List.map flagS [c0, c1, c2, c3, c4] = c_Timpostref10_Cursor ⟨v0, v1, v2, v3⟩; simp only [List.map_cons, List.map_nil, e0_0, e0_1, e1, e2, e3]; rfl, by simp [p0, p1, p2, p3, p4], ⟨w0, w1, w2, w3⟩⟩
end
end Go.Proofs.YtmogkmckjgeoiaaGreat.V
