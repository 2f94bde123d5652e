/- What the types of this seat are.
   Conditions: what each theorem says of its arguments and of the heap. -/
import Derived.Test.YtadfhabapgipbaaSa
import Derived.Test.YtadfhabapgipbaaMo
namespace Go.Proofs.Ytadfhabapgipbaa.V
open Go
set_option maxRecDepth 100000
set_option linter.unusedVariables false
set_option linter.unusedSimpArgs false
theorem ag_27 : isAggT EE.P 27 = some true := by kernel_rfl
theorem ag_28 : isAggT EE.P 28 = some false := by kernel_rfl
theorem ag_3 : isAggT EE.P 3 = some false := by kernel_rfl
theorem ag_30 : isAggT EE.P 30 = some true := by kernel_rfl
theorem ag_35 : isAggT EE.P 35 = some false := by kernel_rfl
theorem ag_4 : isAggT EE.P 4 = some false := by kernel_rfl
theorem ag_46 : isAggT EE.P 46 = some true := by kernel_rfl
theorem ag_52 : isAggT EE.P 52 = some true := by kernel_rfl
theorem at_16 : EE.P.funcs[16]? = some Try.f16 := by kernel_rfl
theorem at_17 : EE.P.funcs[17]? = some Try.f17 := by kernel_rfl
theorem at_18 : EE.P.funcs[18]? = some Try.f18 := by kernel_rfl
theorem at_4 : EE.P.funcs[4]? = some Try.f4 := by kernel_rfl
theorem bn_52 {x0 y0 : ByteArray} {x1 y1 : ByteArray} {x2 y2 : Int} : binV EE .neq 52 (.agg #[.string x0, .string x1, .int .i64 x2]) (.agg #[.string y0, .string y1, .int .i64 y2]) = some (.bool (!((x0 == y0) && ((x1 == y1) && ((x2 == y2) && (true)))))) := by kernel_rfl
theorem bq_30 {x0 y0 : Int} {x1 y1 : Int} {x2 y2 : Int} : binV EE .eql 30 (.agg #[.int .i64 x0, .int .i64 x1, .int .i64 x2]) (.agg #[.int .i64 y0, .int .i64 y1, .int .i64 y2]) = some (.bool (((x0 == y0) && ((x1 == y1) && ((x2 == y2) && (true)))))) := by kernel_rfl
theorem fa_27_2 (b o : Nat) : fieldAddrV EE 27 (.pointer (some ⟨b, o, none⟩)) 2 = some (.pointer (some ⟨b, o + 3, none⟩)) := by kernel_rfl
theorem fa_30_1 (b o : Nat) : fieldAddrV EE 30 (.pointer (some ⟨b, o, none⟩)) 1 = some (.pointer (some ⟨b, o + 1, none⟩)) := by kernel_rfl
theorem fa_30_2 (b o : Nat) : fieldAddrV EE 30 (.pointer (some ⟨b, o, none⟩)) 2 = some (.pointer (some ⟨b, o + 2, none⟩)) := by kernel_rfl
theorem fa_46_0 (b o : Nat) : fieldAddrV EE 46 (.pointer (some ⟨b, o, none⟩)) 0 = some (.pointer (some ⟨b, o, none⟩)) := by kernel_rfl
theorem fa_46_1 (b o : Nat) : fieldAddrV EE 46 (.pointer (some ⟨b, o, none⟩)) 1 = some (.pointer (some ⟨b, o + 3, none⟩)) := by kernel_rfl
theorem fa_46_2 (b o : Nat) : fieldAddrV EE 46 (.pointer (some ⟨b, o, none⟩)) 2 = some (.pointer (some ⟨b, o + 4, none⟩)) := by kernel_rfl
theorem fa_46_3 (b o : Nat) : fieldAddrV EE 46 (.pointer (some ⟨b, o, none⟩)) 3 = some (.pointer (some ⟨b, o + 5, none⟩)) := by kernel_rfl
theorem hb_11 : hasBody EE.P 11 = true := by kernel_rfl
theorem hb_16 : hasBody EE.P 16 = true := by kernel_rfl
theorem hb_17 : hasBody EE.P 17 = true := by kernel_rfl
theorem hb_18 : hasBody EE.P 18 = true := by kernel_rfl
theorem ln_28 {h : Heap} {a : Option Addr} {n c : Nat} : lenV EE h 28 (.slice a n c) = some (.int .i64 n) := by kernel_rfl
theorem sz_27 : sz EE.P 27 = some 7 := by kernel_rfl
theorem sz_30 : sz EE.P 30 = some 3 := by kernel_rfl
theorem sz_46 : sz EE.P 46 = some 6 := by kernel_rfl
theorem sz_52 : sz EE.P 52 = some 3 := by kernel_rfl
theorem ut_28 : EE.P.underlying 28 = some (.slice 52) := by kernel_rfl
theorem zo_46 : zeroOf EE.P 46 = some (Value.agg #[Value.int IntKind.i64 0, Value.int IntKind.i64 0, Value.int IntKind.i64 0, Value.int IntKind.i64 0, Value.bool false, Value.slice none 0 0]) := by kernel_rfl
end Go.Proofs.Ytadfhabapgipbaa.V
