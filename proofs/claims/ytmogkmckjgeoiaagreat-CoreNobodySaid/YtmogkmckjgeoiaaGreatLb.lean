/- CoreNobody, of what is given.
   No condition: this is a law of this program. -/
import Derived.Test.YtmogkmckjgeoiaaGreatLb1
import Derived.Test.YtmogkmckjgeoiaaGreatGm
import Derived.Test.YtmogkmckjgeoiaaGreatWa
namespace Go.Proofs.YtmogkmckjgeoiaaGreat.V
open Go
set_option linter.unusedVariables false
set_option maxRecDepth 100000
theorem core_law {W : World} (x0 : TReq) (x1 : Timpostref10_Cursor) {a0 a1 a2 : Option Addr} {q0 q1 q2 : Nat} (f0 : RL R_TCmp (heap0 W) a0 q0 x0.Cmps) (f1 : RL R_TOp (heap0 W) a1 q1 x0.Then) (f2 : RL R_TOp (heap0 W) a2 q2 x0.Else) (w0 : W_TReq x0)
 {cs : List Value} (o : cs.all okC = true) (e : cs.map flagS = [.int .i64 x0.Kind, .string x0.R.From, .string x0.R.To, .int .i64 x0.Rev, .slice a0 x0.Cmps.length q0, .slice a1 x0.Then.length q1, .slice a2 x0.Else.length q2])
 {args' : Array Value} (ha : ∀ β, VRs β [.agg #[.int .i64 x0.Kind, .string x0.R.From, .string x0.R.To, .int .i64 x0.Rev, .slice a0 x0.Cmps.length q0, .slice a1 x0.Then.length q1, .slice a2 x0.Else.length q2], .agg #[.string x1.R.From, .string x1.R.To, .int .i64 x1.Next, .bool x1.Once, .bool x1.Dead]] args'.toList) : Calls Tryz.prog 3 args' W (fun e w' => e = .returned (.bool true) ∧ RowKit.Below W.heap.size W w') := by
 have rg := rigid_agg o e
 have main : ∀ r : Int, F_txn_May x0 = some r → (∀ m, Parts m (baseOf W) x0.Kind r (.string x0.R.From) (.string x0.R.To) (.int .i64 x0.Rev) (.slice a0 x0.Cmps.length q0) (.slice a1 x0.Then.length q1) (.slice a2 x0.Else.length q2) (.string x1.R.From) (.string x1.R.To) (.int .i64 x1.Next) (.bool x1.Once) (.bool x1.Dead)) → Calls Tryz.prog 3 args' W (fun e w' => e = .returned (.bool true) ∧ RowKit.Below W.heap.size W w') := by
  intro r hF hp
  have may := s_txn_May (heap0_wf W) x0 f0 f1 f2 hF
  have ok : SideOK (EM (toldP (baseOf W) [.agg #[.int .i64 x0.Kind, .string x0.R.From, .string x0.R.To, .int .i64 x0.Rev, .slice a0 x0.Cmps.length q0, .slice a1 x0.Then.length q1, .slice a2 x0.Else.length q2]] (.int .i64 r))) := envM_ok EE_ok (toldP_framed _ _ _) (told_ok EE_ok rfl rg may)
  exact law_run ok ha (joined (hp _) (fun h e => toldP_eq e))
 rcases may_tot x0 w0 with h | ⟨h, hk⟩
 ·
  exact main 1 h (fun m => parts_no _ _ _ _ _ _ _ _ _ _ _ _ _ _)
 ·
  refine main 0 h (fun m => ?_)
  rcases hk with hk | hk | hk
  ·
   rw [hk]; exact parts_k1 _ _ _ _ _ _ _ _ _ _ _ _ _
  ·
   rw [hk]; exact parts_k2 _ _ _ _ _ _ _ _ _ _ _ _ _
  ·
   rw [hk]; exact parts_k3 _ _ _ _ _ _ _ _ _ _ _ _ _
end Go.Proofs.YtmogkmckjgeoiaaGreat.V
