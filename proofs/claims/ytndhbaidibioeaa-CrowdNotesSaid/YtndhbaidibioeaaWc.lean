/- Walks.
   No condition: these are laws of the clean machine and of this program. -/
import Derived.Test.YtndhbaidibioeaaWb
namespace Go.Proofs.Ytndhbaidibioeaa.V
open Go
set_option linter.unusedVariables false
set_option linter.unusedSimpArgs false
set_option maxRecDepth 100000
set_option maxHeartbeats 4000000
theorem F_step_ok : ∀ n, RCok (F_step n)
 | 0 => by
  intro hw p0 p0o0 p1 bp0 bp0_1 z0 bp1 z1 y0 y1 x a v seg co r hx
  cases hx
 | n + 1 => by
  intro hw p0 p0o0 p1 bp0 bp0_1 z0 bp1 z1 y0 y1 x a v seg co r hx
  cases co with
  | c_Seek_1_1 g0 g1 g2 =>
   cases a with
   | u => exact nomatch (show (none : Option (_)) = some r from hx)
   | s z => exact ⟨50, _, rfl, hb_50, s_bst_Tree_Seek_1_1 (F_step_ok n) hw p0 p0o0 p1 z _ y0 y1 g0 g1 g2 hx⟩
   | b z => exact nomatch (show (none : Option (_)) = some r from hx)
   | w z => exact nomatch (show (none : Option (_)) = some r from hx)
  | c_Find_1_1 g0 g1 g2 =>
   cases a with
   | u => exact nomatch (show (none : Option (_)) = some r from hx)
   | s z => exact ⟨60, _, rfl, hb_60, s_bst_Tree_Find_1_1 (F_step_ok n) hw p0 p0o0 p1 z _ y0 y1 g0 g1 g2 hx⟩
   | b z => exact nomatch (show (none : Option (_)) = some r from hx)
   | w z => exact nomatch (show (none : Option (_)) = some r from hx)
  | c_least_1 g0 g1 g2 =>
   cases a with
   | u => exact ⟨72, _, rfl, hb_72, s_bst_Tree_least_1 (F_step_ok n) hw p0 p0o0 p1  _ y0 y1 g0 g1 g2 hx⟩
   | s z => exact nomatch (show (none : Option (_)) = some r from hx)
   | b z => exact nomatch (show (none : Option (_)) = some r from hx)
   | w z => exact nomatch (show (none : Option (_)) = some r from hx)
  | c_insert_1 g0 g1 g2 =>
   cases a with
   | u => exact ⟨74, _, rfl, hb_74, s_bst_Tree_insert_1 (F_step_ok n) hw p0 p0o0 p1  _ y0 y1 g0 g1 g2 hx⟩
   | s z => exact nomatch (show (none : Option (_)) = some r from hx)
   | b z => exact nomatch (show (none : Option (_)) = some r from hx)
   | w z => exact nomatch (show (none : Option (_)) = some r from hx)
  | c_insert_2 g0 g1 g2 g3 k3 =>
   cases a with
   | u => exact nomatch (show (none : Option (_)) = some r from hx)
   | s z => exact ⟨75, _, rfl, hb_75, s_bst_Tree_insert_2 (F_step_ok n) hw p0 p0o0 p1 z _ _ y0 y1 g0 g1 g2 g3 k3 hx⟩
   | b z => exact nomatch (show (none : Option (_)) = some r from hx)
   | w z => exact nomatch (show (none : Option (_)) = some r from hx)
  | c_remove_1 g0 g1 g2 =>
   cases a with
   | u => exact ⟨85, _, rfl, hb_85, s_bst_Tree_remove_1 (F_step_ok n) hw p0 p0o0 p1  _ y0 y1 g0 g1 g2 hx⟩
   | s z => exact nomatch (show (none : Option (_)) = some r from hx)
   | b z => exact nomatch (show (none : Option (_)) = some r from hx)
   | w z => exact nomatch (show (none : Option (_)) = some r from hx)
  | c_remove_2 g0 g1 g2 g3 k3 =>
   cases a with
   | u => exact nomatch (show (none : Option (_)) = some r from hx)
   | s z => exact ⟨86, _, rfl, hb_86, s_bst_Tree_remove_2 (F_step_ok n) hw p0 p0o0 p1 z _ _ y0 y1 g0 g1 g2 g3 k3 hx⟩
   | b z => exact nomatch (show (none : Option (_)) = some r from hx)
   | w z => exact nomatch (show (none : Option (_)) = some r from hx)
  | c_remove_2_1 g0 g1 g2 g3 k3 g4 g5 =>
   cases a with
   | u => exact ⟨87, _, rfl, hb_87, s_bst_Tree_remove_2_1 (F_step_ok n) hw p0 p0o0 p1  _ _ _ _ y0 y1 g0 g1 g2 g3 k3 g4 g5 hx⟩
   | s z => exact nomatch (show (none : Option (_)) = some r from hx)
   | b z => exact nomatch (show (none : Option (_)) = some r from hx)
   | w z => exact nomatch (show (none : Option (_)) = some r from hx)
  | c_remove_2_1_1 g0 k0 g1 g2 =>
   cases a with
   | u => exact nomatch (show (none : Option (_)) = some r from hx)
   | s z => exact nomatch (show (none : Option (_)) = some r from hx)
   | b z => exact ⟨91, _, rfl, hb_91, s_bst_Tree_remove_2_1_1 (F_step_ok n) hw p0 p0o0 p1 z _ _ y0 y1 g0 k0 g1 g2 hx⟩
   | w z => exact nomatch (show (none : Option (_)) = some r from hx)
  | c_down_1 g0 g2 g3 k3 =>
   cases a with
   | u => exact ⟨92, _, rfl, hb_92, s_bst_Tree_down_1 (F_step_ok n) hw p0 p0o0 p1  _ _ _ y0 y1 g0 g2 g3 k3 hx⟩
   | s z => exact nomatch (show (none : Option (_)) = some r from hx)
   | b z => exact nomatch (show (none : Option (_)) = some r from hx)
   | w z => exact nomatch (show (none : Option (_)) = some r from hx)
  | c_down_1_1 g0 g2 g3 k3 =>
   cases a with
   | u => exact ⟨93, _, rfl, hb_93, s_bst_Tree_down_1_1 (F_step_ok n) hw p0 p0o0 p1  _ _ _ y0 y1 g0 g2 g3 k3 hx⟩
   | s z => exact nomatch (show (none : Option (_)) = some r from hx)
   | b z => exact nomatch (show (none : Option (_)) = some r from hx)
   | w z => exact nomatch (show (none : Option (_)) = some r from hx)
  | c_help_1 g0 k0 =>
   cases a with
   | u => exact nomatch (show (none : Option (_)) = some r from hx)
   | s z => exact nomatch (show (none : Option (_)) = some r from hx)
   | b z => exact ⟨97, _, rfl, hb_97, s_bst_Tree_help_1 (F_step_ok n) hw p0 p0o0 p1 z _ y0 y1 g0 k0 hx⟩
   | w z => exact nomatch (show (none : Option (_)) = some r from hx)
  | c_grow_1 g0 g1 g2 g3 g4 g5 g6 g7 =>
   cases a with
   | u => exact ⟨99, _, rfl, hb_99, s_bst_Tree_grow_1 (F_step_ok n) hw p0 p0o0 p1  _ _ _ _ _ _ y0 y1 g0 g1 g2 g3 g4 g5 g6 g7 hx⟩
   | s z => exact nomatch (show (none : Option (_)) = some r from hx)
   | b z => exact nomatch (show (none : Option (_)) = some r from hx)
   | w z => exact nomatch (show (none : Option (_)) = some r from hx)
  | c_grow_1_1 g0 g1 g2 g3 g4 g5 g6 =>
   cases a with
   | u => exact ⟨100, _, rfl, hb_100, s_bst_Tree_grow_1_1 (F_step_ok n) hw p0 p0o0 p1  _ _ _ _ _ y0 y1 g0 g1 g2 g3 g4 g5 g6 hx⟩
   | s z => exact nomatch (show (none : Option (_)) = some r from hx)
   | b z => exact nomatch (show (none : Option (_)) = some r from hx)
   | w z => exact nomatch (show (none : Option (_)) = some r from hx)
  | c_grow_1_1_1 g0 g1 g2 g3 g4 =>
   cases a with
   | u => exact ⟨101, _, rfl, hb_101, s_bst_Tree_grow_1_1_1 (F_step_ok n) hw p0 p0o0 p1  _ _ _ y0 y1 g0 g1 g2 g3 g4 hx⟩
   | s z => exact nomatch (show (none : Option (_)) = some r from hx)
   | b z => exact nomatch (show (none : Option (_)) = some r from hx)
   | w z => exact nomatch (show (none : Option (_)) = some r from hx)
  | c_grow_1_1_1_1 g0 g1 g2 =>
   cases a with
   | u => exact ⟨102, _, rfl, hb_102, s_bst_Tree_grow_1_1_1_1 (F_step_ok n) hw p0 p0o0 p1  _ y0 y1 g0 g1 g2 hx⟩
   | s z => exact nomatch (show (none : Option (_)) = some r from hx)
   | b z => exact nomatch (show (none : Option (_)) = some r from hx)
   | w z => exact nomatch (show (none : Option (_)) = some r from hx)
  | c_grow_1_1_1_2 g0 g1 =>
   cases a with
   | u => exact ⟨103, _, rfl, hb_103, s_bst_Tree_grow_1_1_1_2 (F_step_ok n) hw p0 p0o0 p1  _ y0 y1 g0 g1 hx⟩
   | s z => exact nomatch (show (none : Option (_)) = some r from hx)
   | b z => exact nomatch (show (none : Option (_)) = some r from hx)
   | w z => exact nomatch (show (none : Option (_)) = some r from hx)
  | c_loses_1 g0 g1 g2 g3 g4 k4 =>
   cases a with
   | u => exact ⟨110, _, rfl, hb_110, s_bst_Tree_loses_1 (F_step_ok n) hw p0 p0o0 p1  _ _ _ _ y0 y1 g0 g1 g2 g3 g4 k4 hx⟩
   | s z => exact nomatch (show (none : Option (_)) = some r from hx)
   | b z => exact nomatch (show (none : Option (_)) = some r from hx)
   | w z => exact nomatch (show (none : Option (_)) = some r from hx)
  | c_loses_1_1 g0 k0 =>
   cases a with
   | u => exact ⟨111, _, rfl, hb_111, s_bst_Tree_loses_1_1 (F_step_ok n) hw p0 p0o0 p1  _ y0 y1 g0 k0 hx⟩
   | s z => exact nomatch (show (none : Option (_)) = some r from hx)
   | b z => exact nomatch (show (none : Option (_)) = some r from hx)
   | w z => exact nomatch (show (none : Option (_)) = some r from hx)
  | c_loses_1_2 g0 g1 g2 g3 k3 =>
   cases a with
   | u => exact ⟨112, _, rfl, hb_112, s_bst_Tree_loses_1_2 (F_step_ok n) hw p0 p0o0 p1  _ _ _ y0 y1 g0 g1 g2 g3 k3 hx⟩
   | s z => exact nomatch (show (none : Option (_)) = some r from hx)
   | b z => exact nomatch (show (none : Option (_)) = some r from hx)
   | w z => exact nomatch (show (none : Option (_)) = some r from hx)
  | c_loses_1_2_1 g0 k0 =>
   cases a with
   | u => exact ⟨114, _, rfl, hb_114, s_bst_Tree_loses_1_2_1 (F_step_ok n) hw p0 p0o0 p1  _ y0 y1 g0 k0 hx⟩
   | s z => exact nomatch (show (none : Option (_)) = some r from hx)
   | b z => exact nomatch (show (none : Option (_)) = some r from hx)
   | w z => exact nomatch (show (none : Option (_)) = some r from hx)
  | c_grows_1 g0 g1 g2 g3 k3 =>
   cases a with
   | u => exact ⟨116, _, rfl, hb_116, s_bst_Tree_grows_1 (F_step_ok n) hw p0 p0o0 p1  _ _ _ y0 y1 g0 g1 g2 g3 k3 hx⟩
   | s z => exact nomatch (show (none : Option (_)) = some r from hx)
   | b z => exact nomatch (show (none : Option (_)) = some r from hx)
   | w z => exact nomatch (show (none : Option (_)) = some r from hx)
  | c_goes_1 g0 g1 g2 g3 k3 =>
   cases a with
   | u => exact nomatch (show (none : Option (_)) = some r from hx)
   | s z => exact nomatch (show (none : Option (_)) = some r from hx)
   | b z => exact nomatch (show (none : Option (_)) = some r from hx)
   | w z => exact ⟨117, _, rfl, hb_117, s_bst_Tree_goes_1 (F_step_ok n) hw p0 p0o0 p1 z _ _ _ y0 y1 g0 g1 g2 g3 k3 hx⟩
  | c_goes_1_1 g0 g1 g2 g3 k3 =>
   cases a with
   | u => exact ⟨118, _, rfl, hb_118, s_bst_Tree_goes_1_1 (F_step_ok n) hw p0 p0o0 p1  _ _ _ y0 y1 g0 g1 g2 g3 k3 hx⟩
   | s z => exact nomatch (show (none : Option (_)) = some r from hx)
   | b z => exact nomatch (show (none : Option (_)) = some r from hx)
   | w z => exact nomatch (show (none : Option (_)) = some r from hx)
  | c_goes_2 g0 g1 g2 k2 =>
   cases a with
   | u => exact ⟨119, _, rfl, hb_119, s_bst_Tree_goes_2 (F_step_ok n) hw p0 p0o0 p1  _ _ y0 y1 g0 g1 g2 k2 hx⟩
   | s z => exact nomatch (show (none : Option (_)) = some r from hx)
   | b z => exact nomatch (show (none : Option (_)) = some r from hx)
   | w z => exact nomatch (show (none : Option (_)) = some r from hx)
  | c_goes_2_1 g0 g1 g2 k2 =>
   cases a with
   | u => exact ⟨120, _, rfl, hb_120, s_bst_Tree_goes_2_1 (F_step_ok n) hw p0 p0o0 p1  _ _ y0 y1 g0 g1 g2 k2 hx⟩
   | s z => exact nomatch (show (none : Option (_)) = some r from hx)
   | b z => exact nomatch (show (none : Option (_)) = some r from hx)
   | w z => exact nomatch (show (none : Option (_)) = some r from hx)
  | c_clean_1 g0 g1 g2 g3 g4 k4 =>
   cases a with
   | u => exact ⟨121, _, rfl, hb_121, s_bst_Tree_clean_1 (F_step_ok n) hw p0 p0o0 p1  _ _ _ _ y0 y1 g0 g1 g2 g3 g4 k4 hx⟩
   | s z => exact nomatch (show (none : Option (_)) = some r from hx)
   | b z => exact nomatch (show (none : Option (_)) = some r from hx)
   | w z => exact nomatch (show (none : Option (_)) = some r from hx)
  | c_turn_1 g0 g1 g2 g3 g4 k4 =>
   cases a with
   | u => exact ⟨122, _, rfl, hb_122, s_bst_Tree_turn_1 (F_step_ok n) hw p0 p0o0 p1  _ _ _ _ y0 y1 g0 g1 g2 g3 g4 k4 hx⟩
   | s z => exact nomatch (show (none : Option (_)) = some r from hx)
   | b z => exact nomatch (show (none : Option (_)) = some r from hx)
   | w z => exact nomatch (show (none : Option (_)) = some r from hx)
end Go.Proofs.Ytndhbaidibioeaa.V
