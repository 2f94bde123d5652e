/- Plain functions, as the program has them: a law.
   No condition: these are laws of the clean machine and of this program. -/
import Derived.Test.YtpfdandpmpmbiaaPF
namespace Go.Proofs.Ytpfdandpmpmbiaa.V
open Go
set_option linter.unusedVariables false
set_option linter.unusedSimpArgs false
set_option maxRecDepth 100000
def F_law08_ModelNobody (p0 : TReq) (p1 : (List TOp)) : Option (Bool) :=
  (F_model_New ).bind fun x3 => (F_model_Model_Hist (⟨x3.1.seq⟩ : Omodel_Model) (⟨x3.2.bounds_rev, x3.2.bounds_hor, x3.2.keys, x3.2.rows⟩ : Ohist_Hist)).bind fun x4 => (F_hist_Hist_Apply (⟨x4.1.bounds_rev, x4.1.bounds_hor, x4.1.keys, x4.1.rows⟩ : Ohist_Hist) p1).bind fun x5 => (F_model_Model_Serve_nil p0).bind fun x6 => (if (x6.Err == 1) = true then ((F_model_Model_Head_nil ).bind fun x19 => some (eq_THead x19 (⟨0, 0, 0⟩ : THead))) else (some false) : Option (Bool)).bind fun s8 => (if s8 = true then ((F_model_Model_Hist_nil ).bind fun x18 => some true) else (some false) : Option (Bool)).bind fun s10 => (if s10 = true then ((F_model_Model_Head (⟨x4.2.1.seq⟩ : Omodel_Model) (⟨x4.2.2.bounds_rev, x4.2.2.bounds_hor, x4.2.2.keys, x4.2.2.rows⟩ : Ohist_Hist)).bind fun x17 => some ((eq_THead x17.1 (⟨0, 0, 0⟩ : THead)), x17.2.1.seq, x17.2.2.bounds_rev, x17.2.2.bounds_hor, x17.2.2.rows, x17.2.2.keys)) else (some (false, x4.2.1.seq, x4.2.2.bounds_rev, x4.2.2.bounds_hor, x4.2.2.rows, x4.2.2.keys)) : Option (Bool × Int × Int × Int × (List (List TEvent)) × (List (ByteArray × (List TEvent))))).bind fun s12 => (if s12.1 = true then ((F_model_Model_Hist (⟨s12.2.1⟩ : Omodel_Model) (⟨s12.2.2.1, s12.2.2.2.1, s12.2.2.2.2.2, s12.2.2.2.2.1⟩ : Ohist_Hist)).bind fun x15 => (F_hist_Hist_Rev (⟨x15.1.bounds_rev, x15.1.bounds_hor, x15.1.keys, x15.1.rows⟩ : Ohist_Hist)).bind fun x16 => some ((x16.1 == 0), x15.2.1.seq, x15.2.2.bounds_rev, x15.2.2.bounds_hor, x15.2.2.rows, x15.2.2.keys)) else (some (false, s12.2.1, s12.2.2.1, s12.2.2.2.1, s12.2.2.2.2.1, s12.2.2.2.2.2)) : Option (Bool × Int × Int × Int × (List (List TEvent)) × (List (ByteArray × (List TEvent))))).bind fun s14 => some s14.1
end Go.Proofs.Ytpfdandpmpmbiaa.V
