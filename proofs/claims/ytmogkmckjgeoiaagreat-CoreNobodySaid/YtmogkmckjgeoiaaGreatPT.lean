/- What the types of this seat are.
   No condition: these are laws of the clean machine and of this program. -/
import Derived.Test.YtmogkmckjgeoiaaGreatSa
import Derived.Test.YtmogkmckjgeoiaaGreatPF
namespace Go.Proofs.YtmogkmckjgeoiaaGreat.V
open Go
set_option linter.unusedVariables false
set_option linter.unusedSimpArgs false
set_option maxRecDepth 100000
theorem ag_23 : isAggT EE.P 23 = some true := by kernel_rfl
theorem ag_24 : isAggT EE.P 24 = some false := by kernel_rfl
theorem ag_25 : isAggT EE.P 25 = some false := by kernel_rfl
theorem ag_3 : isAggT EE.P 3 = some false := by kernel_rfl
theorem ag_4 : isAggT EE.P 4 = some false := by kernel_rfl
theorem ag_84 : isAggT EE.P 84 = some true := by kernel_rfl
theorem ag_86 : isAggT EE.P 86 = some true := by kernel_rfl
theorem ag_9 : isAggT EE.P 9 = some false := by kernel_rfl
theorem at_103 : EE.P.funcs[103]? = some Tryz.f103 := by kernel_rfl
theorem at_13 : EE.P.funcs[13]? = some Tryz.f13 := by kernel_rfl
theorem at_26 : EE.P.funcs[26]? = some Tryz.f26 := by kernel_rfl
theorem at_27 : EE.P.funcs[27]? = some Tryz.f27 := by kernel_rfl
theorem at_28 : EE.P.funcs[28]? = some Tryz.f28 := by kernel_rfl
theorem at_48 : EE.P.funcs[48]? = some Tryz.f48 := by kernel_rfl
theorem at_49 : EE.P.funcs[49]? = some Tryz.f49 := by kernel_rfl
theorem at_50 : EE.P.funcs[50]? = some Tryz.f50 := by kernel_rfl
theorem at_51 : EE.P.funcs[51]? = some Tryz.f51 := by kernel_rfl
theorem at_52 : EE.P.funcs[52]? = some Tryz.f52 := by kernel_rfl
theorem at_79 : EE.P.funcs[79]? = some Tryz.f79 := by kernel_rfl
theorem at_80 : EE.P.funcs[80]? = some Tryz.f80 := by kernel_rfl
theorem bq_23 {x0 y0 : ByteArray} {x1 y1 : ByteArray} : binV EE .eql 23 (.agg #[.string x0, .string x1]) (.agg #[.string y0, .string y1]) = some (.bool (((x0 == y0) && ((x1 == y1) && (true))))) := by kernel_rfl
theorem fa_23_0 (b o : Nat) : fieldAddrV EE 23 (.pointer (some ⟨b, o, none⟩)) 0 = some (.pointer (some ⟨b, o, none⟩)) := by kernel_rfl
theorem fa_23_1 (b o : Nat) : fieldAddrV EE 23 (.pointer (some ⟨b, o, none⟩)) 1 = some (.pointer (some ⟨b, o + 1, none⟩)) := by kernel_rfl
theorem fa_27_0 (b o : Nat) : fieldAddrV EE 27 (.pointer (some ⟨b, o, none⟩)) 0 = some (.pointer (some ⟨b, o, none⟩)) := by kernel_rfl
theorem fa_27_1 (b o : Nat) : fieldAddrV EE 27 (.pointer (some ⟨b, o, none⟩)) 1 = some (.pointer (some ⟨b, o + 1, none⟩)) := by kernel_rfl
theorem fa_27_2 (b o : Nat) : fieldAddrV EE 27 (.pointer (some ⟨b, o, none⟩)) 2 = some (.pointer (some ⟨b, o + 3, none⟩)) := by kernel_rfl
theorem fa_27_3 (b o : Nat) : fieldAddrV EE 27 (.pointer (some ⟨b, o, none⟩)) 3 = some (.pointer (some ⟨b, o + 4, none⟩)) := by kernel_rfl
theorem fa_27_4 (b o : Nat) : fieldAddrV EE 27 (.pointer (some ⟨b, o, none⟩)) 4 = some (.pointer (some ⟨b, o + 5, none⟩)) := by kernel_rfl
theorem fa_27_5 (b o : Nat) : fieldAddrV EE 27 (.pointer (some ⟨b, o, none⟩)) 5 = some (.pointer (some ⟨b, o + 6, none⟩)) := by kernel_rfl
theorem fa_84_0 (b o : Nat) : fieldAddrV EE 84 (.pointer (some ⟨b, o, none⟩)) 0 = some (.pointer (some ⟨b, o, none⟩)) := by kernel_rfl
theorem fa_84_1 (b o : Nat) : fieldAddrV EE 84 (.pointer (some ⟨b, o, none⟩)) 1 = some (.pointer (some ⟨b, o + 1, none⟩)) := by kernel_rfl
theorem fa_84_2 (b o : Nat) : fieldAddrV EE 84 (.pointer (some ⟨b, o, none⟩)) 2 = some (.pointer (some ⟨b, o + 2, none⟩)) := by kernel_rfl
theorem fa_86_0 (b o : Nat) : fieldAddrV EE 86 (.pointer (some ⟨b, o, none⟩)) 0 = some (.pointer (some ⟨b, o, none⟩)) := by kernel_rfl
theorem fa_86_1 (b o : Nat) : fieldAddrV EE 86 (.pointer (some ⟨b, o, none⟩)) 1 = some (.pointer (some ⟨b, o + 1, none⟩)) := by kernel_rfl
theorem fa_86_2 (b o : Nat) : fieldAddrV EE 86 (.pointer (some ⟨b, o, none⟩)) 2 = some (.pointer (some ⟨b, o + 2, none⟩)) := by kernel_rfl
theorem fa_86_3 (b o : Nat) : fieldAddrV EE 86 (.pointer (some ⟨b, o, none⟩)) 3 = some (.pointer (some ⟨b, o + 3, none⟩)) := by kernel_rfl
theorem hb_103 : hasBody EE.P 103 = true := by kernel_rfl
theorem hb_26 : hasBody EE.P 26 = true := by kernel_rfl
theorem hb_27 : hasBody EE.P 27 = true := by kernel_rfl
theorem hb_28 : hasBody EE.P 28 = true := by kernel_rfl
theorem hb_48 : hasBody EE.P 48 = true := by kernel_rfl
theorem hb_49 : hasBody EE.P 49 = true := by kernel_rfl
theorem hb_50 : hasBody EE.P 50 = true := by kernel_rfl
theorem hb_51 : hasBody EE.P 51 = true := by kernel_rfl
theorem hb_52 : hasBody EE.P 52 = true := by kernel_rfl
theorem hb_79 : hasBody EE.P 79 = true := by kernel_rfl
theorem hb_80 : hasBody EE.P 80 = true := by kernel_rfl
theorem ln_24 {h : Heap} {a : Option Addr} {n c : Nat} : lenV EE h 24 (.slice a n c) = some (.int .i64 n) := by kernel_rfl
theorem ln_25 {h : Heap} {a : Option Addr} {n c : Nat} : lenV EE h 25 (.slice a n c) = some (.int .i64 n) := by kernel_rfl
theorem ln_9 {h : Heap} {x : ByteArray} : lenV EE h 9 (.string x) = some (.int .i64 x.size) := by kernel_rfl
theorem sz_23 : sz EE.P 23 = some 2 := by kernel_rfl
theorem sz_84 : sz EE.P 84 = some 3 := by kernel_rfl
theorem sz_86 : sz EE.P 86 = some 4 := by kernel_rfl
theorem ut_24 : EE.P.underlying 24 = some (.slice 86) := by kernel_rfl
theorem ut_25 : EE.P.underlying 25 = some (.slice 84) := by kernel_rfl
theorem zo_84 : zeroOf EE.P 84 = some (Value.agg #[Value.string { data := #[] }, Value.string { data := #[] }, Value.bool false]) := by kernel_rfl
theorem sc_9 : scalarT EE.P 9 = some .string := by kernel_rfl
theorem um_115 : EE.P.underlying 115 = some (.map 9 4) := by kernel_rfl
end Go.Proofs.YtmogkmckjgeoiaaGreat.V
