/- Walks.
   No condition: these are laws of the clean machine and of this program. -/
import Derived.Test.YtndhbaidibioeaaGreatIa
namespace Go.Proofs.YtndhbaidibioeaaGreat.V
open Go
set_option linter.unusedVariables false
set_option linter.unusedSimpArgs false
set_option maxRecDepth 100000
set_option maxHeartbeats 4000000
theorem F_istep_ok : ∀ n, RCiok (F_istep n)
 | 0 => by
  intro hw p0 p0o0 p0o1 p1 bp0 bp0_1 bp0_2 bp0_3 z0 bp1 z1 y0 y1 x a v seg co r hx
  cases hx
 | n + 1 => by
  intro hw p0 p0o0 p0o1 p1 bp0 bp0_1 bp0_2 bp0_3 z0 bp1 z1 y0 y1 x a v seg co r hx
  cases co with
  | c_end  =>
   cases a with
   | u => exact ⟨46, _, rfl, hb_46, s_index_end (F_istep_ok n) hw p0 p0o0 p0o1 p1   y0 y1  hx⟩
  | c_Index_Put_1_1 g0 g1 g2 =>
   cases a with
   | u => exact ⟨55, _, rfl, hb_55, s_index_Index_Put_1_1 (F_istep_ok n) hw p0 p0o0 p0o1 p1  _ y0 y1 g0 g1 g2 hx⟩
  | c_after_1 g0 g1 k1 g2 z =>
   cases a with
   | u => exact ⟨77, _, rfl, hb_77, s_index_after_1 n (F_istep_ok n) hw p0 p0o0 p0o1 p1  _ _ y0 y1 z g0 g1 k1 g2 hx⟩
  | c_after_1_v1 g0 g1 k1 g2 z =>
   cases a with
   | u => exact ⟨77, _, rfl, hb_77, s_index_after_1_ (F_istep_ok n) hw p0 p0o0 p0o1 p1  _ _ y0 y1 z g0 g1 k1 g2 hx⟩
  | c_Work_look_1 g0 g1 g2 g3 k3 =>
   cases a with
   | u => exact ⟨78, _, rfl, hb_78, s_index_Work_look_1 n (F_istep_ok n) hw p0 p0o0 p0o1 p1  _ _ _ y0 y1 g0 g1 g2 g3 k3 hx⟩
  | c_Work_walk_1_1 g0 g1 g2 g3 =>
   cases a with
   | u => exact ⟨84, _, rfl, hb_84, s_index_Work_walk_1_1 n (F_istep_ok n) hw p0 p0o0 p0o1 p1  _ _ _ y0 y1 g0 g1 g2 g3 hx⟩
  | w146 k z =>
   cases a with
   | u =>
    cases k with
    | c_Index_Get_1_1 g0 g1 g2 => exact ⟨43, _, rfl, hb_43, s_index_Index_Get_1_1 (F_istep_ok n) hw p0 p0o0 p0o1 p1 _ _ y0 y1 z g0 g1 g2 hx⟩
    | c_Work_walk_1 g0 g1 g2 g3 => exact ⟨82, _, rfl, hb_82, s_index_Work_walk_1 (F_istep_ok n) hw p0 p0o0 p0o1 p1 _ _ _ y0 y1 z g0 g1 g2 g3 hx⟩
    | c_Work_ensure_1 g0 g1 g2 k2 g3 => exact ⟨86, _, rfl, hb_86, s_index_Work_ensure_1 n (F_istep_ok n) hw p0 p0o0 p0o1 p1 _ _ _ y0 y1 z g0 g1 g2 k2 g3 hx⟩
    | c_Work_ensure_1_1 g0 g1 g2 k2 => exact ⟨88, _, rfl, hb_88, s_index_Work_ensure_1_1 (F_istep_ok n) hw p0 p0o0 p0o1 p1 _ _ y0 y1 z g0 g1 g2 k2 hx⟩
end Go.Proofs.YtndhbaidibioeaaGreat.V
