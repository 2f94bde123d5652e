/- What the laws of this seat are given.
   No condition: these are laws of this program. -/
import Derived.Test.YtndhbaidibioeaaGreatPQ
import Derived.Test.YtndhbaidibioeaaGreatVw
import Derived.WalkKit
import Derived.ProofKit
import Derived.OpenShut
import Derived.ShutString
import Derived.ChangeOld
import Derived.Below
import Derived.SizedLaws
namespace Go.Proofs.YtndhbaidibioeaaGreat.V
open Go
set_option linter.unusedVariables false
set_option linter.unusedSimpArgs false
set_option maxRecDepth 100000
theorem u_3 : Tryz.prog.underlying 3 = some (.int .i64) := by kernel_rfl
theorem u_9 : Tryz.prog.underlying 9 = some (.string) := by kernel_rfl
theorem u_4 : Tryz.prog.underlying 4 = some (.bool) := by kernel_rfl
theorem co_4 : Tryz.prog.cellsOf 4 = 1 := by kernel_rfl
theorem u_36 : Tryz.prog.underlying 36 = some (.struct (Tryz.prog.fieldsOf 36)) := by kernel_rfl
theorem co_36 : Tryz.prog.cellsOf 36 = 4 := by kernel_rfl
theorem u_22 : Tryz.prog.underlying 22 = some (.slice 36) := by kernel_rfl
theorem u_5 : Tryz.prog.underlying 5 = some (.int .u8) := by kernel_rfl
theorem u_49 : Tryz.prog.underlying 49 = some (.slice 4) := by kernel_rfl
section
variable {H : Type} {enc : TypeId × Value → H} {W : World} {spare : Nat → Bool} {held : Bool}
theorem ow_36 : OpenW enc Tryz.prog W spare held 36 R_TEvent S_TEvent := by
 intro fuel cs x h hw
 obtain ⟨xs, n, rfl, rfl, hl, hxl, hf⟩ := DataW.trod_struct u_36 h
 dsimp only at hw
 rw [co_36] at hl
 obtain ⟨c0, c1, c2, c3, rfl⟩ : ∃ c0 c1 c2 c3, cs = [c0, c1, c2, c3] := by
  match cs, hl with
  | [c0, c1, c2, c3], _ => exact ⟨c0, c1, c2, c3, rfl⟩
 have hxl : xs.length = 4 := hxl
 have g0 : DataW.trod enc Tryz.prog W 0 spare held n 3 [c0] = some (xs[0]) := by
  have g := hf 0 _ rfl
  rw [List.getElem?_eq_getElem (show 0 < xs.length by omega)] at g
  exact g
 obtain ⟨v0, r0, o0, w0⟩ := (open_int (T := 0) u_3) _ _ _ g0
 have p0 : okC c0 = true := by simpa using o0
 have e0 : flagS c0 = .int .i64 v0 := by simpa [RI_, Rep.flat] using r0
 have g1 : DataW.trod enc Tryz.prog W 0 spare held n 9 [c1] = some (xs[1]) := by
  have g := hf 1 _ rfl
  rw [List.getElem?_eq_getElem (show 1 < xs.length by omega)] at g
  exact g
 obtain ⟨v1, r1, o1, w1⟩ := (open_strW (T := 0) u_9) _ _ _ g1 (wpart u_36 hw (i := 1) rfl (List.getElem?_eq_getElem (show 1 < xs.length by omega)))
 have p1 : okC c1 = true := by simpa using o1
 have e1 : flagS c1 = .string v1 := by simpa [RS_, Rep.flat] using r1
 have g2 : DataW.trod enc Tryz.prog W 0 spare held n 9 [c2] = some (xs[2]) := by
  have g := hf 2 _ rfl
  rw [List.getElem?_eq_getElem (show 2 < xs.length by omega)] at g
  exact g
 obtain ⟨v2, r2, o2, w2⟩ := (open_strW (T := 0) u_9) _ _ _ g2 (wpart u_36 hw (i := 2) rfl (List.getElem?_eq_getElem (show 2 < xs.length by omega)))
 have p2 : okC c2 = true := by simpa using o2
 have e2 : flagS c2 = .string v2 := by simpa [RS_, Rep.flat] using r2
 have g3 : DataW.trod enc Tryz.prog W 0 spare held n 4 [c3] = some (xs[3]) := by
  have g := hf 3 _ rfl
  rw [List.getElem?_eq_getElem (show 3 < xs.length by omega)] at g
  exact g
 obtain ⟨v3, r3, o3, w3⟩ := (open_bool (T := 0) u_4) _ _ _ g3
 have p3 : okC c3 = true := by simpa using o3
 have e3 : flagS c3 = .bool v3 := by simpa [RB_, Rep.flat] using r3
 exact ⟨⟨v0, v1, v2, v3⟩, by show List.map flagS [c0, c1, c2, c3] = c_TEvent ⟨v0, v1, v2, v3⟩; simp only [List.map_cons, List.map_nil, e0, e1, e2, e3]; rfl, by simp [p0, p1, p2, p3], ⟨w0, w1, w2, trivial⟩⟩
end
end Go.Proofs.YtndhbaidibioeaaGreat.V
