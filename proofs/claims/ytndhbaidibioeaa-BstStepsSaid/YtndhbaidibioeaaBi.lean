/- Calls run to their ends; keys; the document's answer.
   No condition: these are laws of plain functions. -/
import Derived.Test.YtndhbaidibioeaaBh
namespace Go.Proofs.Ytndhbaidibioeaa.V
open Go
set_option linter.unusedVariables false
set_option linter.unusedSimpArgs false
set_option maxRecDepth 100000

/-! ### Runs -/
theorem step_some {n : Nat} {T T2 : Obst_Tree} {M M2 : Omem_Mem} {C C2 : Obst_Call} {x : Clo} {o : Option Clo} (h : F_step n T M C x .u = some (o, T2, M2, C2)) :
    F_bst_Call_Step n T M ⟨C.told_Ok, C.told_Key, C.told_Val, C.told_Err, some x⟩ = some (o.isNone, T2, M2, ⟨C2.told_Ok, C2.told_Key, C2.told_Val, C2.told_Err, o⟩) := by
  unfold F_bst_Call_Step
  rw [if_neg (by simp)]
  simp only [Option.bind_some]
  rw [show (⟨C.told_Ok, C.told_Key, C.told_Val, C.told_Err⟩ : Obst_Call) = C from rfl, h]
  rfl
theorem runL_ok {n : Nat} : ∀ (k m : Nat) (T : Obst_Tree) (M : Omem_Mem) (C : Obst_Call) (x : Clo) (T' : Obst_Tree) (M' : Omem_Mem) (C' : Obst_Call), Rs n k T M C (some x) (T', M', C', none) → k ≤ m →
    F_bst_Run_L1 n m T.nodes T.infos M.cells M.count C.told_Ok C.told_Key C.told_Val C.told_Err (some x) = some (T'.nodes, T'.infos, M'.cells, M'.count, C'.told_Ok, C'.told_Key, C'.told_Val, C'.told_Err, none)
  | 0, _, _, _, _, _, _, _, _, h, _ => by cases h
  | k + 1, 0, _, _, _, _, _, _, _, _, hm => by omega
  | k + 1, m + 1, T, M, C, x, T', M', C', h, hm => by
    cases h with
    | @step _ _ T2 _ M2 _ C2 _ o _ h r =>
      rw [F_bst_Run_L1, show (⟨T.nodes, T.infos⟩ : Obst_Tree) = T from rfl, show (⟨M.cells, M.count⟩ : Omem_Mem) = M from rfl, step_some h]
      simp only [Option.bind_some]
      cases o with
      | none =>
        cases r
        rfl
      | some y =>
        rw [if_pos (by rfl)]
        exact runL_ok k m T2 M2 C2 y T' M' C' r (by omega)
theorem brun_ok {n b : Nat} {T : Obst_Tree} {M : Omem_Mem} {C : Obst_Call} {x : Clo} {P : Cfg → Prop} (h : Outc n (some (some x, T, M, C)) b P) (hb : b ≤ n) (hP : ∀ f, P f → f.2.2.2 = none) :
    ∃ T' M' C', P (T', M', C', none) ∧ F_bst_Run n T M ⟨C.told_Ok, C.told_Key, C.told_Val, C.told_Err, some x⟩ = some (⟨C'.told_Ok, C'.told_Key, C'.told_Val, C'.told_Err⟩, T', M', ⟨C'.told_Ok, C'.told_Key, C'.told_Val, C'.told_Err, none⟩) := by
  obtain ⟨o, T1, M1, C1, k, ⟨T', M', C', o'⟩, h1, h2, h3, h4⟩ := h
  cases h1
  have : o' = none := hP _ h4
  subst this
  refine ⟨T', M', C', h4, ?_⟩
  unfold F_bst_Run
  rw [runL_ok k n T M C x T' M' C' h3 (by omega)]
  rfl

/-! ### Keys -/
def keysT (N : List Tbst_node) (t : BT) : List ByteArray := ((lvs N t).filter (fun x => x.top == 0)).map (·.key)
/-! ### The document's answer -/
end Go.Proofs.Ytndhbaidibioeaa.V
