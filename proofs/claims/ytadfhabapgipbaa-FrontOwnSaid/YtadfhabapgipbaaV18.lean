/- More rounds tell the same.
   No condition: these are laws of the clean machine. -/
import Derived.Test.YtadfhabapgipbaaV16
namespace Go.Proofs.Ytadfhabapgipbaa.V
open Go
set_option linter.unusedVariables false
set_option linter.unusedSimpArgs false

def CLe (c d : FuncId → List Value → Heap → Option (Value × Heap)) : Prop := ∀ g args h r, c g args h = some r → d g args h = some r

section
variable {E : Env} {c d : FuncId → List Value → Heap → Option (Value × Heap)}
theorem opV_le (hc : CLe c d) {fr : Fr} {h : Heap} {op : Op} {r : Value × Heap} (e : opV E c fr h op = some r) : opV E d fr h op = some r := by
  unfold opV at e ⊢
  split at e
  · exact e
  · split at e
    · exact e
    · split at e
      · exact hc _ _ _ _ e
      · cases e
theorem quietV_le (hc : CLe c d) {fr : Fr} {h : Heap} {op : Op} {r : Value} (e : quietV E c fr h op = some r) : quietV E d fr h op = some r := by
  unfold quietV at e ⊢
  split at e
  · exact e
  · split at e
    · split at e
      · rename_i e1; rw [hc _ _ _ _ e1]; exact e
      · cases e
    · cases e
theorem runOps_le (hc : CLe c d) {nt : Nat} {ops : Array Oper} : ∀ (os : List Oper) {fr : Fr} {h : Heap} {r : Fr × Heap}, runOps E nt c ops os fr h = some r → runOps E nt d ops os fr h = some r := by
  intro os
  induction os with
  | nil => intro fr h r e; exact e
  | cons o os ih =>
    intro fr h r e
    unfold runOps at e ⊢
    cases w : wantedV ops fr o with
    | true =>
      rw [w] at e
      simp only [cond_true] at e ⊢
      split at e
      · rename_i e1; rw [opV_le hc e1]; dsimp only
        split at e
        · exact ih e
        · cases e
      · cases e
    | false =>
      rw [w] at e
      simp only [cond_false] at e ⊢
      split at e
      · exact ih e
      · cases e
theorem runQuiet_le (hc : CLe c d) {nt : Nat} {ops : Array Oper} : ∀ (os : List Oper) {fr : Fr} {h : Heap} {r : Fr × Heap}, runQuiet E nt c ops os fr h = some r → runQuiet E nt d ops os fr h = some r := by
  intro os
  induction os with
  | nil => intro fr h r e; exact e
  | cons o os ih =>
    intro fr h r e
    unfold runQuiet at e ⊢
    cases w : wantedV ops fr o with
    | true =>
      rw [w] at e
      simp only [cond_true] at e ⊢
      split at e
      · rename_i e1; rw [quietV_le hc e1]; dsimp only
        split at e
        · exact ih e
        · cases e
      · cases e
    | false =>
      rw [w] at e
      simp only [cond_false] at e ⊢
      split at e
      · exact ih e
      · cases e
theorem opS_le (hc : CLe c d) {sl : List (Nat × Nat)} {i : Nat} {fr : Fr} {h : Heap} {op : Op} {r : Value × Heap} (e : opS E c sl i fr h op = some r) : opS E d sl i fr h op = some r := by
  unfold opS at e ⊢
  cases ha : allocK op with
  | false => rw [ha] at e; exact opV_le hc e
  | true => rw [ha] at e; exact e
theorem runSched_le (hc : CLe c d) {nt : Nat} {ops : Array Oper} {sl : List (Nat × Nat)} : ∀ (os : List (Nat × List Nat)) {fr : Fr} {h : Heap} {r : Fr × Heap}, runSched E nt c ops sl os fr h = some r → runSched E nt d ops sl os fr h = some r := by
  intro os
  induction os with
  | nil => intro fr h r e; exact e
  | cons o os ih =>
    intro fr h r e
    obtain ⟨i, ck⟩ := o
    unfold runSched at e ⊢
    cases ho : ops[i]? with
    | none => rw [ho] at e; cases e
    | some o =>
      rw [ho] at e
      dsimp only at e ⊢
      cases w : wantedV ops fr o with
      | true =>
        rw [w] at e
        simp only [cond_true] at e ⊢
        split at e
        · rename_i e1; rw [opS_le hc e1]; dsimp only
          obtain ⟨q, e⟩ := bif_some e
          rw [q]
          simp only [cond_true]
          split at e
          · exact ih e
          · cases e
        · cases e
      | false =>
        rw [w] at e
        simp only [cond_false] at e ⊢
        split at e
        · exact ih e
        · cases e
def FLe (F G : Fr → Heap → Option (Ex × Fr × Heap)) : Prop := ∀ fr h r, F fr h = some r → G fr h = some r
theorem iter_le {F G : Fr → Heap → Option (Ex × Fr × Heap)} (hF : FLe F G) : ∀ {k l : Nat}, k ≤ l → FLe (iter F k) (iter G l) := by
  intro k
  induction k with
  | zero => intro l _ fr h r e; cases e
  | succ k ih =>
    intro l hl fr h r e
    cases l with
    | zero => omega
    | succ l =>
      unfold iter at e ⊢
      split at e
      · rename_i e1; rw [hF _ _ _ e1]; exact ih (by omega) _ _ _ e
      · rename_i hne
        rw [hF _ _ _ e]
        obtain ⟨x, fr1, h1⟩ := r
        cases x with
        | normal => exact absurd e (hne _ _)
        | exit i => rfl
        | ret => rfl
theorem evalC_le (hc : CLe c d) {nt k l : Nat} (hk : k ≤ l) : ∀ p : Code, FLe (evalC E nt c k p) (evalC E nt d l p) := by
  intro p
  induction p with
  | region id ops draw =>
    intro fr h r e
    unfold evalC at e ⊢
    cases draw with
    | true =>
      simp only [cond_true] at e ⊢
      cases hq : quietR E.P ops with
      | true =>
        rw [hq] at e
        simp only [cond_true] at e ⊢
        split at e
        · rename_i e1; rw [runQuiet_le hc _ e1]; exact e
        · cases e
      | false =>
        rw [hq] at e
        simp only [cond_false] at e ⊢
        split at e
        · rename_i e1; rw [show runDrawn E nt d ops fr h = _ from runSched_le hc _ e1]; exact e
        · cases e
    | false =>
      simp only [cond_false] at e ⊢
      split at e
      · rename_i e1; rw [runOps_le hc _ e1]; exact e
      · cases e
  | seq a b iha ihb =>
    intro fr h r e
    unfold evalC at e ⊢
    split at e
    · rename_i e1; rw [iha _ _ _ e1]; exact ihb _ _ _ e
    · rename_i hne
      rw [iha _ _ _ e]
      obtain ⟨x, fr1, h1⟩ := r
      cases x with
      | normal => exact absurd e (hne _ _)
      | exit i => rfl
      | ret => rfl
  | cond x a b iha ihb =>
    intro fr h r e
    unfold evalC at e ⊢
    split at e
    · exact iha _ _ _ e
    · exact ihb _ _ _ e
    · cases e
  | block id body ih =>
    intro fr h r e
    unfold evalC at e ⊢
    split at e
    · rename_i e1; rw [ih _ _ _ e1]; exact e
    · rename_i hne
      rw [ih _ _ _ e]
      obtain ⟨x, fr1, h1⟩ := r
      cases x with
      | exit i => exact absurd e (hne _ _ _)
      | normal => rfl
      | ret => rfl
  | loop body ih =>
    intro fr h r e
    unfold evalC at e ⊢
    exact iter_le (fun fr h r e => ih fr h r e) hk _ _ _ e
  | scope body ih =>
    intro fr h r e
    unfold evalC at e ⊢
    exact ih _ _ _ e
  | skip => intro fr h r e; exact e
  | label l => intro fr h r e; exact e
  | exit id => intro fr h r e; exact e
  | ret => intro fr h r e; exact e
  | _ => intro fr h r e; simp only [evalC] at e; cases e
end

theorem run_succ {E : Env} : ∀ n, CLe (run E n) (run E (n + 1)) := by
  intro n
  induction n with
  | zero => intro g args h r e; cases e
  | succ n ih =>
    intro g args h r e
    unfold run at e ⊢
    split at e
    · exact e
    · split at e
      · cases e
      · split at e
        · cases e
        · rename_i fn hfn _ cd hb
          cases e0 : Nat.ble args.length fn.ntmps with
          | false => rw [e0] at e; cases e
          | true =>
            rw [e0] at e
            simp only [cond_true] at e ⊢
            split at e
            · cases e
            · rename_i x fr h1 hne e1
              rw [evalC_le ih (Nat.le_succ n) cd _ _ _ e1]
              cases x with
              | exit i => exact (hne _ rfl).elim
              | normal => exact e
              | ret => exact e
            · cases e
theorem run_le {E : Env} {n m : Nat} (h : n ≤ m) : CLe (run E n) (run E m) := by
  induction h with
  | refl => intro g args h r e; exact e
  | step _ ih => intro g args h r e; exact run_succ _ _ _ _ _ (ih _ _ _ _ e)

end Go.Proofs.Ytadfhabapgipbaa.V
