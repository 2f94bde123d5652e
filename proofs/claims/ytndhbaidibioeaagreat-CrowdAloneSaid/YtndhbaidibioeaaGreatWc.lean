/- Walks.
   No condition: these are laws of the clean machine and of this program. -/
import Derived.Test.YtndhbaidibioeaaGreatWb
namespace Go.Proofs.YtndhbaidibioeaaGreat.V
open Go
set_option linter.unusedVariables false
set_option linter.unusedSimpArgs false
set_option maxRecDepth 100000
set_option maxHeartbeats 4000000
theorem F_step_ok : ∀ n, RCok (F_step n)
 | 0 => by
  intro hw p0 p0o0 p1 bp0 bp0_1 z0 bp1 z1 y0 y1 x a v seg co r hx
  cases hx
 | n + 1 => by
  intro hw p0 p0o0 p1 bp0 bp0_1 z0 bp1 z1 y0 y1 x a v seg co r hx
  cases co with
  | c_Find_1_1 g0 g1 g2 =>
   cases a with
   | u => exact nomatch (show (none : Option (_)) = some r from hx)
   | s z => exact ⟨74, _, rfl, hb_74, s_bst_Tree_Find_1_1 (F_step_ok n) hw p0 p0o0 p1 z _ y0 y1 g0 g1 g2 hx⟩
   | b z => exact nomatch (show (none : Option (_)) = some r from hx)
   | w z => exact nomatch (show (none : Option (_)) = some r from hx)
  | c_insert_1 g0 g1 g2 =>
   cases a with
   | u => exact ⟨117, _, rfl, hb_117, s_bst_Tree_insert_1 (F_step_ok n) hw p0 p0o0 p1  _ y0 y1 g0 g1 g2 hx⟩
   | s z => exact nomatch (show (none : Option (_)) = some r from hx)
   | b z => exact nomatch (show (none : Option (_)) = some r from hx)
   | w z => exact nomatch (show (none : Option (_)) = some r from hx)
  | c_insert_2 g0 g1 g2 g3 k3 =>
   cases a with
   | u => exact nomatch (show (none : Option (_)) = some r from hx)
   | s z => exact ⟨118, _, rfl, hb_118, s_bst_Tree_insert_2 (F_step_ok n) hw p0 p0o0 p1 z _ _ y0 y1 g0 g1 g2 g3 k3 hx⟩
   | b z => exact nomatch (show (none : Option (_)) = some r from hx)
   | w z => exact nomatch (show (none : Option (_)) = some r from hx)
  | c_remove_1 g0 g1 g2 =>
   cases a with
   | u => exact ⟨126, _, rfl, hb_126, s_bst_Tree_remove_1 (F_step_ok n) hw p0 p0o0 p1  _ y0 y1 g0 g1 g2 hx⟩
   | s z => exact nomatch (show (none : Option (_)) = some r from hx)
   | b z => exact nomatch (show (none : Option (_)) = some r from hx)
   | w z => exact nomatch (show (none : Option (_)) = some r from hx)
  | c_remove_2 g0 g1 g2 g3 k3 =>
   cases a with
   | u => exact nomatch (show (none : Option (_)) = some r from hx)
   | s z => exact ⟨127, _, rfl, hb_127, s_bst_Tree_remove_2 (F_step_ok n) hw p0 p0o0 p1 z _ _ y0 y1 g0 g1 g2 g3 k3 hx⟩
   | b z => exact nomatch (show (none : Option (_)) = some r from hx)
   | w z => exact nomatch (show (none : Option (_)) = some r from hx)
  | c_remove_2_1 g0 g1 g2 g3 k3 g4 g5 =>
   cases a with
   | u => exact ⟨128, _, rfl, hb_128, s_bst_Tree_remove_2_1 (F_step_ok n) hw p0 p0o0 p1  _ _ _ _ y0 y1 g0 g1 g2 g3 k3 g4 g5 hx⟩
   | s z => exact nomatch (show (none : Option (_)) = some r from hx)
   | b z => exact nomatch (show (none : Option (_)) = some r from hx)
   | w z => exact nomatch (show (none : Option (_)) = some r from hx)
  | c_remove_2_1_1 g0 k0 g1 g2 =>
   cases a with
   | u => exact nomatch (show (none : Option (_)) = some r from hx)
   | s z => exact nomatch (show (none : Option (_)) = some r from hx)
   | b z => exact ⟨132, _, rfl, hb_132, s_bst_Tree_remove_2_1_1 (F_step_ok n) hw p0 p0o0 p1 z _ _ y0 y1 g0 k0 g1 g2 hx⟩
   | w z => exact nomatch (show (none : Option (_)) = some r from hx)
  | c_down_1 g0 g2 g3 k3 =>
   cases a with
   | u => exact ⟨133, _, rfl, hb_133, s_bst_Tree_down_1 (F_step_ok n) hw p0 p0o0 p1  _ _ _ y0 y1 g0 g2 g3 k3 hx⟩
   | s z => exact nomatch (show (none : Option (_)) = some r from hx)
   | b z => exact nomatch (show (none : Option (_)) = some r from hx)
   | w z => exact nomatch (show (none : Option (_)) = some r from hx)
  | c_down_1_1 g0 g2 g3 k3 =>
   cases a with
   | u => exact ⟨134, _, rfl, hb_134, s_bst_Tree_down_1_1 (F_step_ok n) hw p0 p0o0 p1  _ _ _ y0 y1 g0 g2 g3 k3 hx⟩
   | s z => exact nomatch (show (none : Option (_)) = some r from hx)
   | b z => exact nomatch (show (none : Option (_)) = some r from hx)
   | w z => exact nomatch (show (none : Option (_)) = some r from hx)
  | c_help_1 g0 k0 =>
   cases a with
   | u => exact nomatch (show (none : Option (_)) = some r from hx)
   | s z => exact nomatch (show (none : Option (_)) = some r from hx)
   | b z => exact ⟨141, _, rfl, hb_141, s_bst_Tree_help_1 (F_step_ok n) hw p0 p0o0 p1 z _ y0 y1 g0 k0 hx⟩
   | w z => exact nomatch (show (none : Option (_)) = some r from hx)
  | c_grow_1 g0 g1 g2 g3 g4 g5 g6 g7 =>
   cases a with
   | u => exact ⟨143, _, rfl, hb_143, s_bst_Tree_grow_1 (F_step_ok n) hw p0 p0o0 p1  _ _ _ _ _ _ y0 y1 g0 g1 g2 g3 g4 g5 g6 g7 hx⟩
   | s z => exact nomatch (show (none : Option (_)) = some r from hx)
   | b z => exact nomatch (show (none : Option (_)) = some r from hx)
   | w z => exact nomatch (show (none : Option (_)) = some r from hx)
  | c_grow_1_1 g0 g1 g2 g3 g4 g5 g6 =>
   cases a with
   | u => exact ⟨144, _, rfl, hb_144, s_bst_Tree_grow_1_1 (F_step_ok n) hw p0 p0o0 p1  _ _ _ _ _ y0 y1 g0 g1 g2 g3 g4 g5 g6 hx⟩
   | s z => exact nomatch (show (none : Option (_)) = some r from hx)
   | b z => exact nomatch (show (none : Option (_)) = some r from hx)
   | w z => exact nomatch (show (none : Option (_)) = some r from hx)
  | c_grow_1_1_1 g0 g1 g2 g3 g4 =>
   cases a with
   | u => exact ⟨145, _, rfl, hb_145, s_bst_Tree_grow_1_1_1 (F_step_ok n) hw p0 p0o0 p1  _ _ _ y0 y1 g0 g1 g2 g3 g4 hx⟩
   | s z => exact nomatch (show (none : Option (_)) = some r from hx)
   | b z => exact nomatch (show (none : Option (_)) = some r from hx)
   | w z => exact nomatch (show (none : Option (_)) = some r from hx)
  | c_grow_1_1_1_1 g0 g1 g2 =>
   cases a with
   | u => exact ⟨146, _, rfl, hb_146, s_bst_Tree_grow_1_1_1_1 (F_step_ok n) hw p0 p0o0 p1  _ y0 y1 g0 g1 g2 hx⟩
   | s z => exact nomatch (show (none : Option (_)) = some r from hx)
   | b z => exact nomatch (show (none : Option (_)) = some r from hx)
   | w z => exact nomatch (show (none : Option (_)) = some r from hx)
  | c_grow_1_1_1_2 g0 g1 =>
   cases a with
   | u => exact ⟨147, _, rfl, hb_147, s_bst_Tree_grow_1_1_1_2 (F_step_ok n) hw p0 p0o0 p1  _ y0 y1 g0 g1 hx⟩
   | s z => exact nomatch (show (none : Option (_)) = some r from hx)
   | b z => exact nomatch (show (none : Option (_)) = some r from hx)
   | w z => exact nomatch (show (none : Option (_)) = some r from hx)
  | c_loses_1 g0 g1 g2 g3 g4 k4 =>
   cases a with
   | u => exact ⟨148, _, rfl, hb_148, s_bst_Tree_loses_1 (F_step_ok n) hw p0 p0o0 p1  _ _ _ _ y0 y1 g0 g1 g2 g3 g4 k4 hx⟩
   | s z => exact nomatch (show (none : Option (_)) = some r from hx)
   | b z => exact nomatch (show (none : Option (_)) = some r from hx)
   | w z => exact nomatch (show (none : Option (_)) = some r from hx)
  | c_loses_1_1 g0 k0 =>
   cases a with
   | u => exact ⟨149, _, rfl, hb_149, s_bst_Tree_loses_1_1 (F_step_ok n) hw p0 p0o0 p1  _ y0 y1 g0 k0 hx⟩
   | s z => exact nomatch (show (none : Option (_)) = some r from hx)
   | b z => exact nomatch (show (none : Option (_)) = some r from hx)
   | w z => exact nomatch (show (none : Option (_)) = some r from hx)
  | c_loses_1_2 g0 g1 g2 g3 k3 =>
   cases a with
   | u => exact ⟨150, _, rfl, hb_150, s_bst_Tree_loses_1_2 (F_step_ok n) hw p0 p0o0 p1  _ _ _ y0 y1 g0 g1 g2 g3 k3 hx⟩
   | s z => exact nomatch (show (none : Option (_)) = some r from hx)
   | b z => exact nomatch (show (none : Option (_)) = some r from hx)
   | w z => exact nomatch (show (none : Option (_)) = some r from hx)
  | c_loses_1_2_1 g0 k0 =>
   cases a with
   | u => exact ⟨152, _, rfl, hb_152, s_bst_Tree_loses_1_2_1 (F_step_ok n) hw p0 p0o0 p1  _ y0 y1 g0 k0 hx⟩
   | s z => exact nomatch (show (none : Option (_)) = some r from hx)
   | b z => exact nomatch (show (none : Option (_)) = some r from hx)
   | w z => exact nomatch (show (none : Option (_)) = some r from hx)
  | c_grows_1 g0 g1 g2 g3 k3 =>
   cases a with
   | u => exact ⟨154, _, rfl, hb_154, s_bst_Tree_grows_1 (F_step_ok n) hw p0 p0o0 p1  _ _ _ y0 y1 g0 g1 g2 g3 k3 hx⟩
   | s z => exact nomatch (show (none : Option (_)) = some r from hx)
   | b z => exact nomatch (show (none : Option (_)) = some r from hx)
   | w z => exact nomatch (show (none : Option (_)) = some r from hx)
  | c_goes_1 g0 g1 g2 g3 k3 =>
   cases a with
   | u => exact nomatch (show (none : Option (_)) = some r from hx)
   | s z => exact nomatch (show (none : Option (_)) = some r from hx)
   | b z => exact nomatch (show (none : Option (_)) = some r from hx)
   | w z => exact ⟨155, _, rfl, hb_155, s_bst_Tree_goes_1 (F_step_ok n) hw p0 p0o0 p1 z _ _ _ y0 y1 g0 g1 g2 g3 k3 hx⟩
  | c_goes_1_1 g0 g1 g2 g3 k3 =>
   cases a with
   | u => exact ⟨156, _, rfl, hb_156, s_bst_Tree_goes_1_1 (F_step_ok n) hw p0 p0o0 p1  _ _ _ y0 y1 g0 g1 g2 g3 k3 hx⟩
   | s z => exact nomatch (show (none : Option (_)) = some r from hx)
   | b z => exact nomatch (show (none : Option (_)) = some r from hx)
   | w z => exact nomatch (show (none : Option (_)) = some r from hx)
  | c_goes_2 g0 g1 g2 k2 =>
   cases a with
   | u => exact ⟨157, _, rfl, hb_157, s_bst_Tree_goes_2 (F_step_ok n) hw p0 p0o0 p1  _ _ y0 y1 g0 g1 g2 k2 hx⟩
   | s z => exact nomatch (show (none : Option (_)) = some r from hx)
   | b z => exact nomatch (show (none : Option (_)) = some r from hx)
   | w z => exact nomatch (show (none : Option (_)) = some r from hx)
  | c_goes_2_1 g0 g1 g2 k2 =>
   cases a with
   | u => exact ⟨158, _, rfl, hb_158, s_bst_Tree_goes_2_1 (F_step_ok n) hw p0 p0o0 p1  _ _ y0 y1 g0 g1 g2 k2 hx⟩
   | s z => exact nomatch (show (none : Option (_)) = some r from hx)
   | b z => exact nomatch (show (none : Option (_)) = some r from hx)
   | w z => exact nomatch (show (none : Option (_)) = some r from hx)
  | c_clean_1 g0 g1 g2 g3 g4 k4 =>
   cases a with
   | u => exact ⟨159, _, rfl, hb_159, s_bst_Tree_clean_1 (F_step_ok n) hw p0 p0o0 p1  _ _ _ _ y0 y1 g0 g1 g2 g3 g4 k4 hx⟩
   | s z => exact nomatch (show (none : Option (_)) = some r from hx)
   | b z => exact nomatch (show (none : Option (_)) = some r from hx)
   | w z => exact nomatch (show (none : Option (_)) = some r from hx)
  | c_turn_1 g0 g1 g2 g3 g4 k4 =>
   cases a with
   | u => exact ⟨160, _, rfl, hb_160, s_bst_Tree_turn_1 (F_step_ok n) hw p0 p0o0 p1  _ _ _ _ y0 y1 g0 g1 g2 g3 g4 k4 hx⟩
   | s z => exact nomatch (show (none : Option (_)) = some r from hx)
   | b z => exact nomatch (show (none : Option (_)) = some r from hx)
   | w z => exact nomatch (show (none : Option (_)) = some r from hx)
end Go.Proofs.YtndhbaidibioeaaGreat.V
