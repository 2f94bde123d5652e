/- What the types of this seat are.
   No condition: these are laws of the clean machine and of this program. -/
import Derived.Test.YtokfjifeofpkkaaGreatSa
import Derived.Test.YtokfjifeofpkkaaGreatPF
namespace Go.Proofs.YtokfjifeofpkkaaGreat.V
open Go
set_option linter.unusedVariables false
set_option linter.unusedSimpArgs false
set_option maxRecDepth 100000
theorem ag_23 : isAggT EE.P 23 = some true := by kernel_rfl
theorem ag_3 : isAggT EE.P 3 = some false := by kernel_rfl
theorem ag_85 : isAggT EE.P 85 = some true := by kernel_rfl
theorem ag_9 : isAggT EE.P 9 = some false := by kernel_rfl
theorem at_138 : EE.P.funcs[138]? = some Tryz.f138 := by kernel_rfl
theorem at_169 : EE.P.funcs[169]? = some Tryz.f169 := by kernel_rfl
theorem at_30 : EE.P.funcs[30]? = some Tryz.f30 := by kernel_rfl
theorem at_48 : EE.P.funcs[48]? = some Tryz.f48 := by kernel_rfl
theorem at_58 : EE.P.funcs[58]? = some Tryz.f58 := by kernel_rfl
theorem at_77 : EE.P.funcs[77]? = some Tryz.f77 := by kernel_rfl
theorem at_94 : EE.P.funcs[94]? = some Tryz.f94 := by kernel_rfl
theorem bq_23 {x0 y0 : ByteArray} {x1 y1 : ByteArray} : binV EE .eql 23 (.agg #[.string x0, .string x1]) (.agg #[.string y0, .string y1]) = some (.bool (((x0 == y0) && ((x1 == y1) && (true))))) := by kernel_rfl
theorem fa_23_0 (b o : Nat) : fieldAddrV EE 23 (.pointer (some ⟨b, o, none⟩)) 0 = some (.pointer (some ⟨b, o, none⟩)) := by kernel_rfl
theorem fa_23_1 (b o : Nat) : fieldAddrV EE 23 (.pointer (some ⟨b, o, none⟩)) 1 = some (.pointer (some ⟨b, o + 1, none⟩)) := by kernel_rfl
theorem fa_85_0 (b o : Nat) : fieldAddrV EE 85 (.pointer (some ⟨b, o, none⟩)) 0 = some (.pointer (some ⟨b, o, none⟩)) := by kernel_rfl
theorem fa_85_1 (b o : Nat) : fieldAddrV EE 85 (.pointer (some ⟨b, o, none⟩)) 1 = some (.pointer (some ⟨b, o + 2, none⟩)) := by kernel_rfl
theorem hb_138 : hasBody EE.P 138 = true := by kernel_rfl
theorem hb_169 : hasBody EE.P 169 = true := by kernel_rfl
theorem hb_28 : hasBody EE.P 28 = true := by kernel_rfl
theorem hb_48 : hasBody EE.P 48 = true := by kernel_rfl
theorem hb_58 : hasBody EE.P 58 = true := by kernel_rfl
theorem hb_77 : hasBody EE.P 77 = true := by kernel_rfl
theorem hb_94 : hasBody EE.P 94 = true := by kernel_rfl
theorem ln_9 {h : Heap} {x : ByteArray} : lenV EE h 9 (.string x) = some (.int .i64 x.size) := by kernel_rfl
theorem sz_23 : sz EE.P 23 = some 2 := by kernel_rfl
theorem sz_85 : sz EE.P 85 = some 4 := by kernel_rfl
theorem zo_85 : zeroOf EE.P 85 = some (Value.agg #[Value.string { data := #[] }, Value.string { data := #[] }, Value.int IntKind.i64 0, Value.bool false]) := by kernel_rfl
end Go.Proofs.YtokfjifeofpkkaaGreat.V
