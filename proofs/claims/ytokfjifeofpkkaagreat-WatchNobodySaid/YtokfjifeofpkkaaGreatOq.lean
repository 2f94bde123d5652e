/- What the laws of this seat are given.
   No condition: these are laws of this program. -/
import Derived.Test.YtokfjifeofpkkaaGreatPT
import Derived.WalkKit
import Derived.ProofKit
import Derived.OpenShut
import Derived.ShutString
import Derived.ChangeOld
import Derived.Below
import Derived.SizedLaws
namespace Go.Proofs.YtokfjifeofpkkaaGreat.V
open Go
set_option linter.unusedVariables false
set_option linter.unusedSimpArgs false
set_option maxRecDepth 100000
theorem u_9 : Tryz.prog.underlying 9 = some (.string) := by kernel_rfl
theorem u_23 : Tryz.prog.underlying 23 = some (.struct (Tryz.prog.fieldsOf 23)) := by kernel_rfl
theorem co_23 : Tryz.prog.cellsOf 23 = 2 := by kernel_rfl
theorem u_3 : Tryz.prog.underlying 3 = some (.int .i64) := by kernel_rfl
theorem u_4 : Tryz.prog.underlying 4 = some (.bool) := by kernel_rfl
section
variable {H : Type} {enc : TypeId × Value → H} {W : World} {spare : Nat → Bool} {held : Bool}
theorem ow_23 : OpenW enc Tryz.prog W spare held 23 R_TRange S_TRange := by
 intro fuel cs x h hw
 obtain ⟨xs, n, rfl, rfl, hl, hxl, hf⟩ := DataW.trod_struct u_23 h
 dsimp only at hw
 rw [co_23] at hl
 obtain ⟨c0, c1, rfl⟩ : ∃ c0 c1, cs = [c0, c1] := by
  match cs, hl with
  | [c0, c1], _ => exact ⟨c0, c1, rfl⟩
 have hxl : xs.length = 2 := hxl
 have g0 : DataW.trod enc Tryz.prog W 0 spare held n 9 [c0] = some (xs[0]) := by
  have g := hf 0 _ rfl
  rw [List.getElem?_eq_getElem (show 0 < xs.length by omega)] at g
  exact g
 obtain ⟨v0, r0, o0, w0⟩ := (open_strW (T := 0) u_9) _ _ _ g0 (wpart u_23 hw (i := 0) rfl (List.getElem?_eq_getElem (show 0 < xs.length by omega)))
 have p0 : okC c0 = true := by simpa using o0
 have e0 : flagS c0 = .string v0 := by simpa [RS_, Rep.flat] using r0
 have g1 : DataW.trod enc Tryz.prog W 0 spare held n 9 [c1] = some (xs[1]) := by
  have g := hf 1 _ rfl
  rw [List.getElem?_eq_getElem (show 1 < xs.length by omega)] at g
  exact g
 obtain ⟨v1, r1, o1, w1⟩ := (open_strW (T := 0) u_9) _ _ _ g1 (wpart u_23 hw (i := 1) rfl (List.getElem?_eq_getElem (show 1 < xs.length by omega)))
 have p1 : okC c1 = true := by simpa using o1
 have e1 : flagS c1 = .string v1 := by simpa [RS_, Rep.flat] using r1
 exact ⟨⟨v0, v1⟩, by show List.map flagS [c0, c1] = c_TRange ⟨v0, v1⟩; simp only [List.map_cons, List.map_nil, e0, e1]; rfl, by simp [p0, p1], ⟨w0, w1⟩⟩
end
end Go.Proofs.YtokfjifeofpkkaaGreat.V
