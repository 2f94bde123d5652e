/- What WatchNobody runs, in parts.
   No condition: these are laws of the clean machine and of this program. -/
import Derived.Test.YtokfjifeofpkkaaGreatGq
import Derived.Test.YtokfjifeofpkkaaGreatVu
import Derived.Test.YtokfjifeofpkkaaGreatSa
namespace Go.Proofs.YtokfjifeofpkkaaGreat.V
open Go
set_option linter.unusedVariables false
set_option linter.unusedSimpArgs false
set_option maxRecDepth 100000
def emptyA (args : List Value) : Bool := match args with | [.string s] => Nat.beq s.size 0 | _ => false
def tk0 : Value := .tuple #[.agg #[.string ⟨#[]⟩, .string ⟨#[]⟩, .int .i64 0, .bool false], .int .i64 2]
def takP (m : List Value → Heap → Option (Value × Heap)) (args : List Value) (h : Heap) : Option (Value × Heap) := bif emptyA args then some (tk0, h) else m args h
noncomputable def EW (m1 m2 : List Value → Heap → Option (Value × Heap)) : Env := envM (envM EE 30 (takP m1)) 77 m2
noncomputable def lwC : Code := match Tryz.f3.body with | some c => c | none => .skip
theorem lw_body : Tryz.f3.body = some lwC := by kernel_rfl
theorem lw_prim (m1 m2 : List Value → Heap → Option (Value × Heap)) : (EW m1 m2).prim 3 = none := by kernel_rfl
theorem lw_fn (m1 m2 : List Value → Heap → Option (Value × Heap)) : (EW m1 m2).P.funcs[3]? = some Tryz.f3 := by kernel_rfl
theorem lw_nt : Tryz.f3.ntmps = 146 := by kernel_rfl
noncomputable def rsC : Code := match Tryz.f8.body with | some c => c | none => .skip
theorem rs_body : Tryz.f8.body = some rsC := by kernel_rfl
theorem rs_prim (m1 m2 : List Value → Heap → Option (Value × Heap)) : (EW m1 m2).prim 8 = none := by kernel_rfl
theorem rs_fn (m1 m2 : List Value → Heap → Option (Value × Heap)) : (EW m1 m2).P.funcs[8]? = some Tryz.f8 := by kernel_rfl
theorem rs_nt : Tryz.f8.ntmps = 22 := by kernel_rfl
noncomputable def adC : Code := match Tryz.f31.body with | some c => c | none => .skip
theorem ad_body : Tryz.f31.body = some adC := by kernel_rfl
theorem ad_prim (m1 m2 : List Value → Heap → Option (Value × Heap)) : (EW m1 m2).prim 31 = none := by kernel_rfl
theorem ad_fn (m1 m2 : List Value → Heap → Option (Value × Heap)) : (EW m1 m2).P.funcs[31]? = some Tryz.f31 := by kernel_rfl
theorem ad_nt : Tryz.f31.ntmps = 34 := by kernel_rfl
noncomputable def stC : Code := match Tryz.f27.body with | some c => c | none => .skip
theorem st_body : Tryz.f27.body = some stC := by kernel_rfl
theorem st_prim (m1 m2 : List Value → Heap → Option (Value × Heap)) : (EW m1 m2).prim 27 = none := by kernel_rfl
theorem st_fn (m1 m2 : List Value → Heap → Option (Value × Heap)) : (EW m1 m2).P.funcs[27]? = some Tryz.f27 := by kernel_rfl
theorem st_nt : Tryz.f27.ntmps = 24 := by kernel_rfl
noncomputable def sbC : Code := match Tryz.f46.body with | some c => c | none => .skip
theorem sb_body : Tryz.f46.body = some sbC := by kernel_rfl
theorem sb_prim (m1 m2 : List Value → Heap → Option (Value × Heap)) : (EW m1 m2).prim 46 = none := by kernel_rfl
theorem sb_fn (m1 m2 : List Value → Heap → Option (Value × Heap)) : (EW m1 m2).P.funcs[46]? = some Tryz.f46 := by kernel_rfl
theorem sb_nt : Tryz.f46.ntmps = 47 := by kernel_rfl
theorem tak_prim (m1 m2 : List Value → Heap → Option (Value × Heap)) : (EW m1 m2).prim 30 = some (takP m1) := by kernel_rfl
theorem emp_prim (m1 m2 : List Value → Heap → Option (Value × Heap)) : (EW m1 m2).prim 77 = some m2 := by kernel_rfl
noncomputable def Flw0 (m1 : List Value → Heap → Option (Value × Heap)) (m2 : List Value → Heap → Option (Value × Heap)) (b : Nat → Nat → Option Value) (id : Int) (c0 : Value) (c1 : Value) (s : ByteArray) (s' : ByteArray) (f : ByteArray) (t : ByteArray) (n : Int) (o : Bool) : Mc := stM (advM (EW m1 m2) 146 99999 (run (EW m1 m2) 99999) [.L, .E, .P, .L, .E, .P, .L, .E, .P, .L, .E, .P, .L, .E, .P, .L, .E, .P, .L, .E, .P, .L, .E, .P, .L, .E, .P, .L, .E, .P, .L, .E, .P, .L, .G, .O 2] ⟨some lwC, [], initF [.agg #[c0, c1], .int .i64 id, .string s] 0 .nil, ⟨b, 0, 0, .nil⟩⟩)
noncomputable def Flw1 (m1 : List Value → Heap → Option (Value × Heap)) (m2 : List Value → Heap → Option (Value × Heap)) (b : Nat → Nat → Option Value) (id : Int) (c0 : Value) (c1 : Value) (s : ByteArray) (s' : ByteArray) (f : ByteArray) (t : ByteArray) (n : Int) (o : Bool) : Mc := stM (advM (EW m1 m2) 146 99999 (run (EW m1 m2) 99999) [] (putM (Flw0 m1 m2 b id c0 c1 s s' f t n o) 69 (.string s') (Flw0 m1 m2 b id c0 c1 s s' f t n o).h))
noncomputable def Frs0 (m1 : List Value → Heap → Option (Value × Heap)) (m2 : List Value → Heap → Option (Value × Heap)) (b : Nat → Nat → Option Value) (id : Int) (c0 : Value) (c1 : Value) (s : ByteArray) (s' : ByteArray) (f : ByteArray) (t : ByteArray) (n : Int) (o : Bool) : Mc := stM (advM (EW m1 m2) 22 99998 (run (EW m1 m2) 99998) [.L, .E, .P, .L, .E, .P, .L, .G, .O 1] ⟨some rsC, [], initF (argsV (EW m1 m2) (Flw1 m1 m2 b id c0 c1 s s' f t n o).fr (topOp (Flw1 m1 m2 b id c0 c1 s s' f t n o)).2.op) 0 .nil, (Flw1 m1 m2 b id c0 c1 s s' f t n o).h⟩)
noncomputable def FrsR (m1 : List Value → Heap → Option (Value × Heap)) (m2 : List Value → Heap → Option (Value × Heap)) (b : Nat → Nat → Option Value) (id : Int) (c0 : Value) (c1 : Value) (s : ByteArray) (s' : ByteArray) (f : ByteArray) (t : ByteArray) (n : Int) (o : Bool) : Value × Heap := stV (finV (EW m1 m2) Tryz.f8.results.toList (valM (EW m1 m2) 22 99998 (run (EW m1 m2) 99998) (putM (Frs0 m1 m2 b id c0 c1 s s' f t n o) 12 (.tuple #[.agg #[.string ⟨#[]⟩, .string ⟨#[]⟩, .int .i64 0, .bool false], .int .i64 2]) (Frs0 m1 m2 b id c0 c1 s s' f t n o).h)))
structure PartsF (m1 : List Value → Heap → Option (Value × Heap)) (m2 : List Value → Heap → Option (Value × Heap)) (b : Nat → Nat → Option Value) (id : Int) (c0 : Value) (c1 : Value) (s : ByteArray) (s' : ByteArray) (f : ByteArray) (t : ByteArray) (n : Int) (o : Bool) : Prop where
 Flw0_a : (advM (EW m1 m2) 146 99999 (run (EW m1 m2) 99999) [.L, .E, .P, .L, .E, .P, .L, .E, .P, .L, .E, .P, .L, .E, .P, .L, .E, .P, .L, .E, .P, .L, .E, .P, .L, .E, .P, .L, .E, .P, .L, .E, .P, .L, .G, .O 2] ⟨some lwC, [], initF [.agg #[c0, c1], .int .i64 id, .string s] 0 .nil, ⟨b, 0, 0, .nil⟩⟩).isSome = true
 Flw0_t : hasTop (Flw0 m1 m2 b id c0 c1 s s' f t n o) = true
 Flw0_w : wantedV (topOp (Flw0 m1 m2 b id c0 c1 s s' f t n o)).1 (Flw0 m1 m2 b id c0 c1 s s' f t n o).fr (topOp (Flw0 m1 m2 b id c0 c1 s s' f t n o)).2 = true
 Flw0_d : (topOp (Flw0 m1 m2 b id c0 c1 s s' f t n o)).2.dst = some 69
 Flw0_o : readV (EW m1 m2) (Flw0 m1 m2 b id c0 c1 s s' f t n o).fr (Flw0 m1 m2 b id c0 c1 s s' f t n o).h (topOp (Flw0 m1 m2 b id c0 c1 s s' f t n o)).2.op = strBin .add s (⟨#[33]⟩ : ByteArray)
 Flw1_a : (advM (EW m1 m2) 146 99999 (run (EW m1 m2) 99999) [] (putM (Flw0 m1 m2 b id c0 c1 s s' f t n o) 69 (.string s') (Flw0 m1 m2 b id c0 c1 s s' f t n o).h)).isSome = true
 Flw1_t : hasTop (Flw1 m1 m2 b id c0 c1 s s' f t n o) = true
 Flw1_w : wantedV (topOp (Flw1 m1 m2 b id c0 c1 s s' f t n o)).1 (Flw1 m1 m2 b id c0 c1 s s' f t n o).fr (topOp (Flw1 m1 m2 b id c0 c1 s s' f t n o)).2 = true
 Flw1_d : (topOp (Flw1 m1 m2 b id c0 c1 s s' f t n o)).2.dst = some 70
 Flw1_o : ∀ call, opV (EW m1 m2) call (Flw1 m1 m2 b id c0 c1 s s' f t n o).fr (Flw1 m1 m2 b id c0 c1 s s' f t n o).h (topOp (Flw1 m1 m2 b id c0 c1 s s' f t n o)).2.op = call 8 (argsV (EW m1 m2) (Flw1 m1 m2 b id c0 c1 s s' f t n o).fr (topOp (Flw1 m1 m2 b id c0 c1 s s' f t n o)).2.op) (Flw1 m1 m2 b id c0 c1 s s' f t n o).h
 Frs0_a : (advM (EW m1 m2) 22 99998 (run (EW m1 m2) 99998) [.L, .E, .P, .L, .E, .P, .L, .G, .O 1] ⟨some rsC, [], initF (argsV (EW m1 m2) (Flw1 m1 m2 b id c0 c1 s s' f t n o).fr (topOp (Flw1 m1 m2 b id c0 c1 s s' f t n o)).2.op) 0 .nil, (Flw1 m1 m2 b id c0 c1 s s' f t n o).h⟩).isSome = true
 Frs0_t : hasTop (Frs0 m1 m2 b id c0 c1 s s' f t n o) = true
 Frs0_w : wantedV (topOp (Frs0 m1 m2 b id c0 c1 s s' f t n o)).1 (Frs0 m1 m2 b id c0 c1 s s' f t n o).fr (topOp (Frs0 m1 m2 b id c0 c1 s s' f t n o)).2 = true
 Frs0_d : (topOp (Frs0 m1 m2 b id c0 c1 s s' f t n o)).2.dst = some 12
 Frs0_o : ∀ call, opV (EW m1 m2) call (Frs0 m1 m2 b id c0 c1 s s' f t n o).fr (Frs0 m1 m2 b id c0 c1 s s' f t n o).h (topOp (Frs0 m1 m2 b id c0 c1 s s' f t n o)).2.op = call 30 [.string s'] (Frs0 m1 m2 b id c0 c1 s s' f t n o).h
 Frs0_b : (Frs0 m1 m2 b id c0 c1 s s' f t n o).h.base = b
 Frs_r : (finV (EW m1 m2) Tryz.f8.results.toList (valM (EW m1 m2) 22 99998 (run (EW m1 m2) 99998) (putM (Frs0 m1 m2 b id c0 c1 s s' f t n o) 12 (.tuple #[.agg #[.string ⟨#[]⟩, .string ⟨#[]⟩, .int .i64 0, .bool false], .int .i64 2]) (Frs0 m1 m2 b id c0 c1 s s' f t n o).h))).isSome = true
 Frs_n : Nat.ble (argsV (EW m1 m2) (Flw1 m1 m2 b id c0 c1 s s' f t n o).fr (topOp (Flw1 m1 m2 b id c0 c1 s s' f t n o)).2.op).length 22 = true
 F_e : okR (finV (EW m1 m2) Tryz.f3.results.toList (valM (EW m1 m2) 146 99999 (run (EW m1 m2) 99999) (putM (Flw1 m1 m2 b id c0 c1 s s' f t n o) 70 (FrsR m1 m2 b id c0 c1 s s' f t n o).1 (FrsR m1 m2 b id c0 c1 s s' f t n o).2))) = true
noncomputable def Klw0 (m1 : List Value → Heap → Option (Value × Heap)) (m2 : List Value → Heap → Option (Value × Heap)) (b : Nat → Nat → Option Value) (id : Int) (c0 : Value) (c1 : Value) (s : ByteArray) (s' : ByteArray) (f : ByteArray) (t : ByteArray) (n : Int) (o : Bool) : Mc := stM (advM (EW m1 m2) 146 99999 (run (EW m1 m2) 99999) [.L, .E, .P, .L, .E, .P, .L, .E, .P, .L, .E, .P, .L, .E, .P, .L, .E, .P, .L, .E, .P, .L, .E, .P, .L, .E, .P, .L, .E, .P, .L, .E, .P, .L, .G, .O 2] ⟨some lwC, [], initF [.agg #[c0, c1], .int .i64 id, .string s] 0 .nil, ⟨b, 0, 0, .nil⟩⟩)
noncomputable def Klw1 (m1 : List Value → Heap → Option (Value × Heap)) (m2 : List Value → Heap → Option (Value × Heap)) (b : Nat → Nat → Option Value) (id : Int) (c0 : Value) (c1 : Value) (s : ByteArray) (s' : ByteArray) (f : ByteArray) (t : ByteArray) (n : Int) (o : Bool) : Mc := stM (advM (EW m1 m2) 146 99999 (run (EW m1 m2) 99999) [] (putM (Klw0 m1 m2 b id c0 c1 s s' f t n o) 69 (.string s') (Klw0 m1 m2 b id c0 c1 s s' f t n o).h))
noncomputable def Krs0 (m1 : List Value → Heap → Option (Value × Heap)) (m2 : List Value → Heap → Option (Value × Heap)) (b : Nat → Nat → Option Value) (id : Int) (c0 : Value) (c1 : Value) (s : ByteArray) (s' : ByteArray) (f : ByteArray) (t : ByteArray) (n : Int) (o : Bool) : Mc := stM (advM (EW m1 m2) 22 99998 (run (EW m1 m2) 99998) [.L, .E, .P, .L, .E, .P, .L, .G, .O 1] ⟨some rsC, [], initF (argsV (EW m1 m2) (Klw1 m1 m2 b id c0 c1 s s' f t n o).fr (topOp (Klw1 m1 m2 b id c0 c1 s s' f t n o)).2.op) 0 .nil, (Klw1 m1 m2 b id c0 c1 s s' f t n o).h⟩)
noncomputable def Krs1 (m1 : List Value → Heap → Option (Value × Heap)) (m2 : List Value → Heap → Option (Value × Heap)) (b : Nat → Nat → Option Value) (id : Int) (c0 : Value) (c1 : Value) (s : ByteArray) (s' : ByteArray) (f : ByteArray) (t : ByteArray) (n : Int) (o : Bool) : Mc := stM (advM (EW m1 m2) 22 99998 (run (EW m1 m2) 99998) [.O 6, .P, .P, .L, .E, .P, .L, .G, .O 3] (putM (Krs0 m1 m2 b id c0 c1 s s' f t n o) 12 (.tuple #[.agg #[.string f, .string t, .int .i64 n, .bool o], .int .i64 0]) (Krs0 m1 m2 b id c0 c1 s s' f t n o).h))
noncomputable def Kad0 (m1 : List Value → Heap → Option (Value × Heap)) (m2 : List Value → Heap → Option (Value × Heap)) (b : Nat → Nat → Option Value) (id : Int) (c0 : Value) (c1 : Value) (s : ByteArray) (s' : ByteArray) (f : ByteArray) (t : ByteArray) (n : Int) (o : Bool) : Mc := stM (advM (EW m1 m2) 34 99997 (run (EW m1 m2) 99997) [.L, .E, .P, .L, .E, .P, .L, .E, .P, .L, .D, .S 6] ⟨some adC, [], initF (argsV (EW m1 m2) (Krs1 m1 m2 b id c0 c1 s s' f t n o).fr (topOp (Krs1 m1 m2 b id c0 c1 s s' f t n o)).2.op) 0 .nil, (Krs1 m1 m2 b id c0 c1 s s' f t n o).h⟩)
noncomputable def Kst0 (m1 : List Value → Heap → Option (Value × Heap)) (m2 : List Value → Heap → Option (Value × Heap)) (b : Nat → Nat → Option Value) (id : Int) (c0 : Value) (c1 : Value) (s : ByteArray) (s' : ByteArray) (f : ByteArray) (t : ByteArray) (n : Int) (o : Bool) : Mc := stM (advM (EW m1 m2) 24 99996 (run (EW m1 m2) 99996) [.L, .E, .P, .L, .E, .P, .D, .S 11] ⟨some stC, [], initF (argsV (EW m1 m2) (Kad0 m1 m2 b id c0 c1 s s' f t n o).fr (opOfS (Kad0 m1 m2 b id c0 c1 s s' f t n o)).op) 0 .nil, (Kad0 m1 m2 b id c0 c1 s s' f t n o).h⟩)
noncomputable def Ksb0 (m1 : List Value → Heap → Option (Value × Heap)) (m2 : List Value → Heap → Option (Value × Heap)) (b : Nat → Nat → Option Value) (id : Int) (c0 : Value) (c1 : Value) (s : ByteArray) (s' : ByteArray) (f : ByteArray) (t : ByteArray) (n : Int) (o : Bool) : Mc := stM (advM (EW m1 m2) 47 99995 (run (EW m1 m2) 99995) [.L, .E, .P, .L, .B, .L, .G, .O 5] ⟨some sbC, [], initF (argsV (EW m1 m2) (Kst0 m1 m2 b id c0 c1 s s' f t n o).fr (opOfS (Kst0 m1 m2 b id c0 c1 s s' f t n o)).op) 0 .nil, (Kst0 m1 m2 b id c0 c1 s s' f t n o).h⟩)
noncomputable def KsbR (m1 : List Value → Heap → Option (Value × Heap)) (m2 : List Value → Heap → Option (Value × Heap)) (b : Nat → Nat → Option Value) (id : Int) (c0 : Value) (c1 : Value) (s : ByteArray) (s' : ByteArray) (f : ByteArray) (t : ByteArray) (n : Int) (o : Bool) : Value × Heap := stV (finV (EW m1 m2) Tryz.f46.results.toList (valM (EW m1 m2) 47 99995 (run (EW m1 m2) 99995) (putM (Ksb0 m1 m2 b id c0 c1 s s' f t n o) 14 (.bool false) (Ksb0 m1 m2 b id c0 c1 s s' f t n o).h)))
noncomputable def KstR (m1 : List Value → Heap → Option (Value × Heap)) (m2 : List Value → Heap → Option (Value × Heap)) (b : Nat → Nat → Option Value) (id : Int) (c0 : Value) (c1 : Value) (s : ByteArray) (s' : ByteArray) (f : ByteArray) (t : ByteArray) (n : Int) (o : Bool) : Value × Heap := stV (finV (EW m1 m2) Tryz.f27.results.toList (valM (EW m1 m2) 24 99996 (run (EW m1 m2) 99996) (putS (Kst0 m1 m2 b id c0 c1 s s' f t n o) 23 (KsbR m1 m2 b id c0 c1 s s' f t n o).1 (KsbR m1 m2 b id c0 c1 s s' f t n o).2)))
noncomputable def KadR (m1 : List Value → Heap → Option (Value × Heap)) (m2 : List Value → Heap → Option (Value × Heap)) (b : Nat → Nat → Option Value) (id : Int) (c0 : Value) (c1 : Value) (s : ByteArray) (s' : ByteArray) (f : ByteArray) (t : ByteArray) (n : Int) (o : Bool) : Value × Heap := stV (finV (EW m1 m2) Tryz.f31.results.toList (valM (EW m1 m2) 34 99997 (run (EW m1 m2) 99997) (putS (Kad0 m1 m2 b id c0 c1 s s' f t n o) 29 (KstR m1 m2 b id c0 c1 s s' f t n o).1 (KstR m1 m2 b id c0 c1 s s' f t n o).2)))
noncomputable def KrsR (m1 : List Value → Heap → Option (Value × Heap)) (m2 : List Value → Heap → Option (Value × Heap)) (b : Nat → Nat → Option Value) (id : Int) (c0 : Value) (c1 : Value) (s : ByteArray) (s' : ByteArray) (f : ByteArray) (t : ByteArray) (n : Int) (o : Bool) : Value × Heap := stV (finV (EW m1 m2) Tryz.f8.results.toList (valM (EW m1 m2) 22 99998 (run (EW m1 m2) 99998) (putM (Krs1 m1 m2 b id c0 c1 s s' f t n o) 21 (KadR m1 m2 b id c0 c1 s s' f t n o).1 (KadR m1 m2 b id c0 c1 s s' f t n o).2)))
structure PartsK (m1 : List Value → Heap → Option (Value × Heap)) (m2 : List Value → Heap → Option (Value × Heap)) (b : Nat → Nat → Option Value) (id : Int) (c0 : Value) (c1 : Value) (s : ByteArray) (s' : ByteArray) (f : ByteArray) (t : ByteArray) (n : Int) (o : Bool) : Prop where
 Klw0_a : (advM (EW m1 m2) 146 99999 (run (EW m1 m2) 99999) [.L, .E, .P, .L, .E, .P, .L, .E, .P, .L, .E, .P, .L, .E, .P, .L, .E, .P, .L, .E, .P, .L, .E, .P, .L, .E, .P, .L, .E, .P, .L, .E, .P, .L, .G, .O 2] ⟨some lwC, [], initF [.agg #[c0, c1], .int .i64 id, .string s] 0 .nil, ⟨b, 0, 0, .nil⟩⟩).isSome = true
 Klw0_t : hasTop (Klw0 m1 m2 b id c0 c1 s s' f t n o) = true
 Klw0_w : wantedV (topOp (Klw0 m1 m2 b id c0 c1 s s' f t n o)).1 (Klw0 m1 m2 b id c0 c1 s s' f t n o).fr (topOp (Klw0 m1 m2 b id c0 c1 s s' f t n o)).2 = true
 Klw0_d : (topOp (Klw0 m1 m2 b id c0 c1 s s' f t n o)).2.dst = some 69
 Klw0_o : readV (EW m1 m2) (Klw0 m1 m2 b id c0 c1 s s' f t n o).fr (Klw0 m1 m2 b id c0 c1 s s' f t n o).h (topOp (Klw0 m1 m2 b id c0 c1 s s' f t n o)).2.op = strBin .add s (⟨#[33]⟩ : ByteArray)
 Klw1_a : (advM (EW m1 m2) 146 99999 (run (EW m1 m2) 99999) [] (putM (Klw0 m1 m2 b id c0 c1 s s' f t n o) 69 (.string s') (Klw0 m1 m2 b id c0 c1 s s' f t n o).h)).isSome = true
 Klw1_t : hasTop (Klw1 m1 m2 b id c0 c1 s s' f t n o) = true
 Klw1_w : wantedV (topOp (Klw1 m1 m2 b id c0 c1 s s' f t n o)).1 (Klw1 m1 m2 b id c0 c1 s s' f t n o).fr (topOp (Klw1 m1 m2 b id c0 c1 s s' f t n o)).2 = true
 Klw1_d : (topOp (Klw1 m1 m2 b id c0 c1 s s' f t n o)).2.dst = some 70
 Klw1_o : ∀ call, opV (EW m1 m2) call (Klw1 m1 m2 b id c0 c1 s s' f t n o).fr (Klw1 m1 m2 b id c0 c1 s s' f t n o).h (topOp (Klw1 m1 m2 b id c0 c1 s s' f t n o)).2.op = call 8 (argsV (EW m1 m2) (Klw1 m1 m2 b id c0 c1 s s' f t n o).fr (topOp (Klw1 m1 m2 b id c0 c1 s s' f t n o)).2.op) (Klw1 m1 m2 b id c0 c1 s s' f t n o).h
 Krs0_a : (advM (EW m1 m2) 22 99998 (run (EW m1 m2) 99998) [.L, .E, .P, .L, .E, .P, .L, .G, .O 1] ⟨some rsC, [], initF (argsV (EW m1 m2) (Klw1 m1 m2 b id c0 c1 s s' f t n o).fr (topOp (Klw1 m1 m2 b id c0 c1 s s' f t n o)).2.op) 0 .nil, (Klw1 m1 m2 b id c0 c1 s s' f t n o).h⟩).isSome = true
 Krs0_t : hasTop (Krs0 m1 m2 b id c0 c1 s s' f t n o) = true
 Krs0_w : wantedV (topOp (Krs0 m1 m2 b id c0 c1 s s' f t n o)).1 (Krs0 m1 m2 b id c0 c1 s s' f t n o).fr (topOp (Krs0 m1 m2 b id c0 c1 s s' f t n o)).2 = true
 Krs0_d : (topOp (Krs0 m1 m2 b id c0 c1 s s' f t n o)).2.dst = some 12
 Krs0_o : ∀ call, opV (EW m1 m2) call (Krs0 m1 m2 b id c0 c1 s s' f t n o).fr (Krs0 m1 m2 b id c0 c1 s s' f t n o).h (topOp (Krs0 m1 m2 b id c0 c1 s s' f t n o)).2.op = call 30 [.string s'] (Krs0 m1 m2 b id c0 c1 s s' f t n o).h
 Krs0_b : (Krs0 m1 m2 b id c0 c1 s s' f t n o).h.base = b
 Krs1_a : (advM (EW m1 m2) 22 99998 (run (EW m1 m2) 99998) [.O 6, .P, .P, .L, .E, .P, .L, .G, .O 3] (putM (Krs0 m1 m2 b id c0 c1 s s' f t n o) 12 (.tuple #[.agg #[.string f, .string t, .int .i64 n, .bool o], .int .i64 0]) (Krs0 m1 m2 b id c0 c1 s s' f t n o).h)).isSome = true
 Krs1_t : hasTop (Krs1 m1 m2 b id c0 c1 s s' f t n o) = true
 Krs1_w : wantedV (topOp (Krs1 m1 m2 b id c0 c1 s s' f t n o)).1 (Krs1 m1 m2 b id c0 c1 s s' f t n o).fr (topOp (Krs1 m1 m2 b id c0 c1 s s' f t n o)).2 = true
 Krs1_d : (topOp (Krs1 m1 m2 b id c0 c1 s s' f t n o)).2.dst = some 21
 Krs1_o : ∀ call, opV (EW m1 m2) call (Krs1 m1 m2 b id c0 c1 s s' f t n o).fr (Krs1 m1 m2 b id c0 c1 s s' f t n o).h (topOp (Krs1 m1 m2 b id c0 c1 s s' f t n o)).2.op = call 31 (argsV (EW m1 m2) (Krs1 m1 m2 b id c0 c1 s s' f t n o).fr (topOp (Krs1 m1 m2 b id c0 c1 s s' f t n o)).2.op) (Krs1 m1 m2 b id c0 c1 s s' f t n o).h
 Kad0_a : (advM (EW m1 m2) 34 99997 (run (EW m1 m2) 99997) [.L, .E, .P, .L, .E, .P, .L, .E, .P, .L, .D, .S 6] ⟨some adC, [], initF (argsV (EW m1 m2) (Krs1 m1 m2 b id c0 c1 s s' f t n o).fr (topOp (Krs1 m1 m2 b id c0 c1 s s' f t n o)).2.op) 0 .nil, (Krs1 m1 m2 b id c0 c1 s s' f t n o).h⟩).isSome = true
 Kad0_t : hasS (Kad0 m1 m2 b id c0 c1 s s' f t n o) = true
 Kad0_w : wantedV (topS (Kad0 m1 m2 b id c0 c1 s s' f t n o)).1 (Kad0 m1 m2 b id c0 c1 s s' f t n o).fr (opOfS (Kad0 m1 m2 b id c0 c1 s s' f t n o)) = true
 Kad0_d : (opOfS (Kad0 m1 m2 b id c0 c1 s s' f t n o)).dst = some 29
 Kad0_k : allocK (opOfS (Kad0 m1 m2 b id c0 c1 s s' f t n o)).op = false
 Kad0_o : ∀ call, opV (EW m1 m2) call (Kad0 m1 m2 b id c0 c1 s s' f t n o).fr (Kad0 m1 m2 b id c0 c1 s s' f t n o).h (opOfS (Kad0 m1 m2 b id c0 c1 s s' f t n o)).op = call 27 (argsV (EW m1 m2) (Kad0 m1 m2 b id c0 c1 s s' f t n o).fr (opOfS (Kad0 m1 m2 b id c0 c1 s s' f t n o)).op) (Kad0 m1 m2 b id c0 c1 s s' f t n o).h
 Kst0_a : (advM (EW m1 m2) 24 99996 (run (EW m1 m2) 99996) [.L, .E, .P, .L, .E, .P, .D, .S 11] ⟨some stC, [], initF (argsV (EW m1 m2) (Kad0 m1 m2 b id c0 c1 s s' f t n o).fr (opOfS (Kad0 m1 m2 b id c0 c1 s s' f t n o)).op) 0 .nil, (Kad0 m1 m2 b id c0 c1 s s' f t n o).h⟩).isSome = true
 Kst0_t : hasS (Kst0 m1 m2 b id c0 c1 s s' f t n o) = true
 Kst0_w : wantedV (topS (Kst0 m1 m2 b id c0 c1 s s' f t n o)).1 (Kst0 m1 m2 b id c0 c1 s s' f t n o).fr (opOfS (Kst0 m1 m2 b id c0 c1 s s' f t n o)) = true
 Kst0_d : (opOfS (Kst0 m1 m2 b id c0 c1 s s' f t n o)).dst = some 23
 Kst0_k : allocK (opOfS (Kst0 m1 m2 b id c0 c1 s s' f t n o)).op = false
 Kst0_o : ∀ call, opV (EW m1 m2) call (Kst0 m1 m2 b id c0 c1 s s' f t n o).fr (Kst0 m1 m2 b id c0 c1 s s' f t n o).h (opOfS (Kst0 m1 m2 b id c0 c1 s s' f t n o)).op = call 46 (argsV (EW m1 m2) (Kst0 m1 m2 b id c0 c1 s s' f t n o).fr (opOfS (Kst0 m1 m2 b id c0 c1 s s' f t n o)).op) (Kst0 m1 m2 b id c0 c1 s s' f t n o).h
 Ksb0_a : (advM (EW m1 m2) 47 99995 (run (EW m1 m2) 99995) [.L, .E, .P, .L, .B, .L, .G, .O 5] ⟨some sbC, [], initF (argsV (EW m1 m2) (Kst0 m1 m2 b id c0 c1 s s' f t n o).fr (opOfS (Kst0 m1 m2 b id c0 c1 s s' f t n o)).op) 0 .nil, (Kst0 m1 m2 b id c0 c1 s s' f t n o).h⟩).isSome = true
 Ksb0_t : hasTop (Ksb0 m1 m2 b id c0 c1 s s' f t n o) = true
 Ksb0_w : wantedV (topOp (Ksb0 m1 m2 b id c0 c1 s s' f t n o)).1 (Ksb0 m1 m2 b id c0 c1 s s' f t n o).fr (topOp (Ksb0 m1 m2 b id c0 c1 s s' f t n o)).2 = true
 Ksb0_d : (topOp (Ksb0 m1 m2 b id c0 c1 s s' f t n o)).2.dst = some 14
 Ksb0_o : ∀ call, opV (EW m1 m2) call (Ksb0 m1 m2 b id c0 c1 s s' f t n o).fr (Ksb0 m1 m2 b id c0 c1 s s' f t n o).h (topOp (Ksb0 m1 m2 b id c0 c1 s s' f t n o)).2.op = call 77 [.agg #[.string f, .string t]] (Ksb0 m1 m2 b id c0 c1 s s' f t n o).h
 Ksb0_b : (Ksb0 m1 m2 b id c0 c1 s s' f t n o).h.base = b
 Ksb_r : (finV (EW m1 m2) Tryz.f46.results.toList (valM (EW m1 m2) 47 99995 (run (EW m1 m2) 99995) (putM (Ksb0 m1 m2 b id c0 c1 s s' f t n o) 14 (.bool false) (Ksb0 m1 m2 b id c0 c1 s s' f t n o).h))).isSome = true
 Ksb_n : Nat.ble (argsV (EW m1 m2) (Kst0 m1 m2 b id c0 c1 s s' f t n o).fr (opOfS (Kst0 m1 m2 b id c0 c1 s s' f t n o)).op).length 47 = true
 Kst0_c : chkR (EW m1 m2) (topS (Kst0 m1 m2 b id c0 c1 s s' f t n o)).1 (Kst0 m1 m2 b id c0 c1 s s' f t n o).fr (Kst0 m1 m2 b id c0 c1 s s' f t n o).h (KsbR m1 m2 b id c0 c1 s s' f t n o).2 (topS (Kst0 m1 m2 b id c0 c1 s s' f t n o)).2.2 = true
 Kst_r : (finV (EW m1 m2) Tryz.f27.results.toList (valM (EW m1 m2) 24 99996 (run (EW m1 m2) 99996) (putS (Kst0 m1 m2 b id c0 c1 s s' f t n o) 23 (KsbR m1 m2 b id c0 c1 s s' f t n o).1 (KsbR m1 m2 b id c0 c1 s s' f t n o).2))).isSome = true
 Kst_n : Nat.ble (argsV (EW m1 m2) (Kad0 m1 m2 b id c0 c1 s s' f t n o).fr (opOfS (Kad0 m1 m2 b id c0 c1 s s' f t n o)).op).length 24 = true
 Kad0_c : chkR (EW m1 m2) (topS (Kad0 m1 m2 b id c0 c1 s s' f t n o)).1 (Kad0 m1 m2 b id c0 c1 s s' f t n o).fr (Kad0 m1 m2 b id c0 c1 s s' f t n o).h (KstR m1 m2 b id c0 c1 s s' f t n o).2 (topS (Kad0 m1 m2 b id c0 c1 s s' f t n o)).2.2 = true
 Kad_r : (finV (EW m1 m2) Tryz.f31.results.toList (valM (EW m1 m2) 34 99997 (run (EW m1 m2) 99997) (putS (Kad0 m1 m2 b id c0 c1 s s' f t n o) 29 (KstR m1 m2 b id c0 c1 s s' f t n o).1 (KstR m1 m2 b id c0 c1 s s' f t n o).2))).isSome = true
 Kad_n : Nat.ble (argsV (EW m1 m2) (Krs1 m1 m2 b id c0 c1 s s' f t n o).fr (topOp (Krs1 m1 m2 b id c0 c1 s s' f t n o)).2.op).length 34 = true
 Krs_r : (finV (EW m1 m2) Tryz.f8.results.toList (valM (EW m1 m2) 22 99998 (run (EW m1 m2) 99998) (putM (Krs1 m1 m2 b id c0 c1 s s' f t n o) 21 (KadR m1 m2 b id c0 c1 s s' f t n o).1 (KadR m1 m2 b id c0 c1 s s' f t n o).2))).isSome = true
 Krs_n : Nat.ble (argsV (EW m1 m2) (Klw1 m1 m2 b id c0 c1 s s' f t n o).fr (topOp (Klw1 m1 m2 b id c0 c1 s s' f t n o)).2.op).length 22 = true
 K_e : okR (finV (EW m1 m2) Tryz.f3.results.toList (valM (EW m1 m2) 146 99999 (run (EW m1 m2) 99999) (putM (Klw1 m1 m2 b id c0 c1 s s' f t n o) 70 (KrsR m1 m2 b id c0 c1 s s' f t n o).1 (KrsR m1 m2 b id c0 c1 s s' f t n o).2))) = true
theorem takP_eq {m : List Value → Heap → Option (Value × Heap)} {args : List Value} {h : Heap} {r : Option (Value × Heap)} (he : emptyA args = false) (hm : m args h = r) : takP m args h = r := by
 rw [takP, he, cond_false, hm]
section
variable {m1 : List Value → Heap → Option (Value × Heap)} {m2 : List Value → Heap → Option (Value × Heap)} {b : Nat → Nat → Option Value} {id : Int} {c0 : Value} {c1 : Value} {s : ByteArray} {s' : ByteArray} {f : ByteArray} {t : ByteArray} {n : Int} {o : Bool}
theorem Frs_rE (p : PartsF m1 m2 b id c0 c1 s s' f t n o) : finV (EW m1 m2) Tryz.f8.results.toList (valM (EW m1 m2) 22 99998 (run (EW m1 m2) 99998) (putM (Frs0 m1 m2 b id c0 c1 s s' f t n o) 12 (.tuple #[.agg #[.string ⟨#[]⟩, .string ⟨#[]⟩, .int .i64 0, .bool false], .int .i64 2]) (Frs0 m1 m2 b id c0 c1 s s' f t n o).h)) = some (FrsR m1 m2 b id c0 c1 s s' f t n o) := stV_eq p.Frs_r
theorem Frs0_E (p : PartsF m1 m2 b id c0 c1 s s' f t n o) : advM (EW m1 m2) 22 99998 (run (EW m1 m2) 99998) [.L, .E, .P, .L, .E, .P, .L, .G, .O 1] ⟨some rsC, [], initF (argsV (EW m1 m2) (Flw1 m1 m2 b id c0 c1 s s' f t n o).fr (topOp (Flw1 m1 m2 b id c0 c1 s s' f t n o)).2.op) 0 .nil, (Flw1 m1 m2 b id c0 c1 s s' f t n o).h⟩ = some (Frs0 m1 m2 b id c0 c1 s s' f t n o) := stM_eq p.Frs0_a
theorem Flw0_E (p : PartsF m1 m2 b id c0 c1 s s' f t n o) : advM (EW m1 m2) 146 99999 (run (EW m1 m2) 99999) [.L, .E, .P, .L, .E, .P, .L, .E, .P, .L, .E, .P, .L, .E, .P, .L, .E, .P, .L, .E, .P, .L, .E, .P, .L, .E, .P, .L, .E, .P, .L, .E, .P, .L, .G, .O 2] ⟨some lwC, [], initF [.agg #[c0, c1], .int .i64 id, .string s] 0 .nil, ⟨b, 0, 0, .nil⟩⟩ = some (Flw0 m1 m2 b id c0 c1 s s' f t n o) := stM_eq p.Flw0_a
theorem Flw1_E (p : PartsF m1 m2 b id c0 c1 s s' f t n o) : advM (EW m1 m2) 146 99999 (run (EW m1 m2) 99999) [] (putM (Flw0 m1 m2 b id c0 c1 s s' f t n o) 69 (.string s') (Flw0 m1 m2 b id c0 c1 s s' f t n o).h) = some (Flw1 m1 m2 b id c0 c1 s s' f t n o) := stM_eq p.Flw1_a
end
section
variable {m1 : List Value → Heap → Option (Value × Heap)} {m2 : List Value → Heap → Option (Value × Heap)} {b : Nat → Nat → Option Value} {id : Int} {c0 : Value} {c1 : Value} {s : ByteArray} {s' : ByteArray} {f : ByteArray} {t : ByteArray} {n : Int} {o : Bool}
theorem Ksb_rE (p : PartsK m1 m2 b id c0 c1 s s' f t n o) : finV (EW m1 m2) Tryz.f46.results.toList (valM (EW m1 m2) 47 99995 (run (EW m1 m2) 99995) (putM (Ksb0 m1 m2 b id c0 c1 s s' f t n o) 14 (.bool false) (Ksb0 m1 m2 b id c0 c1 s s' f t n o).h)) = some (KsbR m1 m2 b id c0 c1 s s' f t n o) := stV_eq p.Ksb_r
theorem Ksb0_E (p : PartsK m1 m2 b id c0 c1 s s' f t n o) : advM (EW m1 m2) 47 99995 (run (EW m1 m2) 99995) [.L, .E, .P, .L, .B, .L, .G, .O 5] ⟨some sbC, [], initF (argsV (EW m1 m2) (Kst0 m1 m2 b id c0 c1 s s' f t n o).fr (opOfS (Kst0 m1 m2 b id c0 c1 s s' f t n o)).op) 0 .nil, (Kst0 m1 m2 b id c0 c1 s s' f t n o).h⟩ = some (Ksb0 m1 m2 b id c0 c1 s s' f t n o) := stM_eq p.Ksb0_a
theorem Kst_rE (p : PartsK m1 m2 b id c0 c1 s s' f t n o) : finV (EW m1 m2) Tryz.f27.results.toList (valM (EW m1 m2) 24 99996 (run (EW m1 m2) 99996) (putS (Kst0 m1 m2 b id c0 c1 s s' f t n o) 23 (KsbR m1 m2 b id c0 c1 s s' f t n o).1 (KsbR m1 m2 b id c0 c1 s s' f t n o).2)) = some (KstR m1 m2 b id c0 c1 s s' f t n o) := stV_eq p.Kst_r
theorem Kst0_E (p : PartsK m1 m2 b id c0 c1 s s' f t n o) : advM (EW m1 m2) 24 99996 (run (EW m1 m2) 99996) [.L, .E, .P, .L, .E, .P, .D, .S 11] ⟨some stC, [], initF (argsV (EW m1 m2) (Kad0 m1 m2 b id c0 c1 s s' f t n o).fr (opOfS (Kad0 m1 m2 b id c0 c1 s s' f t n o)).op) 0 .nil, (Kad0 m1 m2 b id c0 c1 s s' f t n o).h⟩ = some (Kst0 m1 m2 b id c0 c1 s s' f t n o) := stM_eq p.Kst0_a
theorem Kad_rE (p : PartsK m1 m2 b id c0 c1 s s' f t n o) : finV (EW m1 m2) Tryz.f31.results.toList (valM (EW m1 m2) 34 99997 (run (EW m1 m2) 99997) (putS (Kad0 m1 m2 b id c0 c1 s s' f t n o) 29 (KstR m1 m2 b id c0 c1 s s' f t n o).1 (KstR m1 m2 b id c0 c1 s s' f t n o).2)) = some (KadR m1 m2 b id c0 c1 s s' f t n o) := stV_eq p.Kad_r
theorem Kad0_E (p : PartsK m1 m2 b id c0 c1 s s' f t n o) : advM (EW m1 m2) 34 99997 (run (EW m1 m2) 99997) [.L, .E, .P, .L, .E, .P, .L, .E, .P, .L, .D, .S 6] ⟨some adC, [], initF (argsV (EW m1 m2) (Krs1 m1 m2 b id c0 c1 s s' f t n o).fr (topOp (Krs1 m1 m2 b id c0 c1 s s' f t n o)).2.op) 0 .nil, (Krs1 m1 m2 b id c0 c1 s s' f t n o).h⟩ = some (Kad0 m1 m2 b id c0 c1 s s' f t n o) := stM_eq p.Kad0_a
theorem Krs_rE (p : PartsK m1 m2 b id c0 c1 s s' f t n o) : finV (EW m1 m2) Tryz.f8.results.toList (valM (EW m1 m2) 22 99998 (run (EW m1 m2) 99998) (putM (Krs1 m1 m2 b id c0 c1 s s' f t n o) 21 (KadR m1 m2 b id c0 c1 s s' f t n o).1 (KadR m1 m2 b id c0 c1 s s' f t n o).2)) = some (KrsR m1 m2 b id c0 c1 s s' f t n o) := stV_eq p.Krs_r
theorem Krs0_E (p : PartsK m1 m2 b id c0 c1 s s' f t n o) : advM (EW m1 m2) 22 99998 (run (EW m1 m2) 99998) [.L, .E, .P, .L, .E, .P, .L, .G, .O 1] ⟨some rsC, [], initF (argsV (EW m1 m2) (Klw1 m1 m2 b id c0 c1 s s' f t n o).fr (topOp (Klw1 m1 m2 b id c0 c1 s s' f t n o)).2.op) 0 .nil, (Klw1 m1 m2 b id c0 c1 s s' f t n o).h⟩ = some (Krs0 m1 m2 b id c0 c1 s s' f t n o) := stM_eq p.Krs0_a
theorem Krs1_E (p : PartsK m1 m2 b id c0 c1 s s' f t n o) : advM (EW m1 m2) 22 99998 (run (EW m1 m2) 99998) [.O 6, .P, .P, .L, .E, .P, .L, .G, .O 3] (putM (Krs0 m1 m2 b id c0 c1 s s' f t n o) 12 (.tuple #[.agg #[.string f, .string t, .int .i64 n, .bool o], .int .i64 0]) (Krs0 m1 m2 b id c0 c1 s s' f t n o).h) = some (Krs1 m1 m2 b id c0 c1 s s' f t n o) := stM_eq p.Krs1_a
theorem Klw0_E (p : PartsK m1 m2 b id c0 c1 s s' f t n o) : advM (EW m1 m2) 146 99999 (run (EW m1 m2) 99999) [.L, .E, .P, .L, .E, .P, .L, .E, .P, .L, .E, .P, .L, .E, .P, .L, .E, .P, .L, .E, .P, .L, .E, .P, .L, .E, .P, .L, .E, .P, .L, .E, .P, .L, .G, .O 2] ⟨some lwC, [], initF [.agg #[c0, c1], .int .i64 id, .string s] 0 .nil, ⟨b, 0, 0, .nil⟩⟩ = some (Klw0 m1 m2 b id c0 c1 s s' f t n o) := stM_eq p.Klw0_a
theorem Klw1_E (p : PartsK m1 m2 b id c0 c1 s s' f t n o) : advM (EW m1 m2) 146 99999 (run (EW m1 m2) 99999) [] (putM (Klw0 m1 m2 b id c0 c1 s s' f t n o) 69 (.string s') (Klw0 m1 m2 b id c0 c1 s s' f t n o).h) = some (Klw1 m1 m2 b id c0 c1 s s' f t n o) := stM_eq p.Klw1_a
end
attribute [local irreducible] Flw0 Flw1 Frs0 Klw0 Klw1 Krs0 Krs1 Kad0 Kst0 Ksb0 FrsR KsbR KstR KadR KrsR EW run valM advM finV topOp putM topS opOfS putS argsV lwC rsC adC stC sbC stepO
section
variable {m1 : List Value → Heap → Option (Value × Heap)} {m2 : List Value → Heap → Option (Value × Heap)} {b : Nat → Nat → Option Value} {id : Int} {c0 : Value} {c1 : Value} {s : ByteArray} {s' : ByteArray} {f : ByteArray} {t : ByteArray} {n : Int} {o : Bool}
theorem Frs_run (p : PartsF m1 m2 b id c0 c1 s s' f t n o) (he : emptyA [.string s'] = false) (h1 : ∀ h, h.base = b → m1 [.string s'] h = some (.tuple #[.agg #[.string ⟨#[]⟩, .string ⟨#[]⟩, .int .i64 0, .bool false], .int .i64 2], h)) : run (EW m1 m2) (99998 + 1) 8 (argsV (EW m1 m2) (Flw1 m1 m2 b id c0 c1 s s' f t n o).fr (topOp (Flw1 m1 m2 b id c0 c1 s s' f t n o)).2.op) (Flw1 m1 m2 b id c0 c1 s s' f t n o).h = some ((FrsR m1 m2 b id c0 c1 s s' f t n o).1, (FrsR m1 m2 b id c0 c1 s s' f t n o).2) := by
 rw [run_val (rs_prim m1 m2) (rs_fn m1 m2) rs_body (by rw [rs_nt]; exact p.Frs_n), rs_nt]
 rw [adv_eq (Frs0_E p), told_eq (d := 12) (v := (.tuple #[.agg #[.string ⟨#[]⟩, .string ⟨#[]⟩, .int .i64 0, .bool false], .int .i64 2])) (h' := (Frs0 m1 m2 b id c0 c1 s s' f t n o).h) p.Frs0_t (step_call p.Frs0_w p.Frs0_o p.Frs0_d rfl ((run_primM (n := 99997) (tak_prim m1 m2)).trans (takP_eq he (h1 _ p.Frs0_b))))]
 rw [Frs_rE p]
theorem F_joined (p : PartsF m1 m2 b id c0 c1 s s' f t n o) (hs : strBin .add s (⟨#[33]⟩ : ByteArray) = some (.string s')) (he : emptyA [.string s'] = false) (h1 : ∀ h, h.base = b → m1 [.string s'] h = some (.tuple #[.agg #[.string ⟨#[]⟩, .string ⟨#[]⟩, .int .i64 0, .bool false], .int .i64 2], h)) : okR (run (EW m1 m2) (99999 + 1) 3 [.agg #[c0, c1], .int .i64 id, .string s] ⟨b, 0, 0, .nil⟩) = true := by
 rw [run_val (lw_prim m1 m2) (lw_fn m1 m2) lw_body (by rw [lw_nt]; rfl), lw_nt]
 rw [adv_eq (Flw0_E p), told_eq (d := 69) (v := (.string s')) (h' := (Flw0 m1 m2 b id c0 c1 s s' f t n o).h) p.Flw0_t (step_readM p.Flw0_w (p.Flw0_o.trans hs) p.Flw0_d rfl)]
 rw [adv_eq (Flw1_E p), told_eq (d := 70) (v := (FrsR m1 m2 b id c0 c1 s s' f t n o).1) (h' := (FrsR m1 m2 b id c0 c1 s s' f t n o).2) p.Flw1_t (step_call p.Flw1_w p.Flw1_o p.Flw1_d rfl (Frs_run p he h1))]
 exact p.F_e
end
section
variable {m1 : List Value → Heap → Option (Value × Heap)} {m2 : List Value → Heap → Option (Value × Heap)} {b : Nat → Nat → Option Value} {id : Int} {c0 : Value} {c1 : Value} {s : ByteArray} {s' : ByteArray} {f : ByteArray} {t : ByteArray} {n : Int} {o : Bool}
theorem Ksb_run (p : PartsK m1 m2 b id c0 c1 s s' f t n o) (h2 : ∀ h, h.base = b → m2 [.agg #[.string f, .string t]] h = some (.bool false, h)) : run (EW m1 m2) (99995 + 1) 46 (argsV (EW m1 m2) (Kst0 m1 m2 b id c0 c1 s s' f t n o).fr (opOfS (Kst0 m1 m2 b id c0 c1 s s' f t n o)).op) (Kst0 m1 m2 b id c0 c1 s s' f t n o).h = some ((KsbR m1 m2 b id c0 c1 s s' f t n o).1, (KsbR m1 m2 b id c0 c1 s s' f t n o).2) := by
 rw [run_val (sb_prim m1 m2) (sb_fn m1 m2) sb_body (by rw [sb_nt]; exact p.Ksb_n), sb_nt]
 rw [adv_eq (Ksb0_E p), told_eq (d := 14) (v := (.bool false)) (h' := (Ksb0 m1 m2 b id c0 c1 s s' f t n o).h) p.Ksb0_t (step_call p.Ksb0_w p.Ksb0_o p.Ksb0_d rfl ((run_primM (n := 99994) (emp_prim m1 m2)).trans (h2 _ p.Ksb0_b)))]
 rw [Ksb_rE p]
theorem Kst_run (p : PartsK m1 m2 b id c0 c1 s s' f t n o) (h2 : ∀ h, h.base = b → m2 [.agg #[.string f, .string t]] h = some (.bool false, h)) : run (EW m1 m2) (99996 + 1) 27 (argsV (EW m1 m2) (Kad0 m1 m2 b id c0 c1 s s' f t n o).fr (opOfS (Kad0 m1 m2 b id c0 c1 s s' f t n o)).op) (Kad0 m1 m2 b id c0 c1 s s' f t n o).h = some ((KstR m1 m2 b id c0 c1 s s' f t n o).1, (KstR m1 m2 b id c0 c1 s s' f t n o).2) := by
 rw [run_val (st_prim m1 m2) (st_fn m1 m2) st_body (by rw [st_nt]; exact p.Kst_n), st_nt]
 rw [adv_eq (Kst0_E p), toldS_eq (d := 23) p.Kst0_t p.Kst0_w p.Kst0_k p.Kst0_o p.Kst0_d rfl p.Kst0_c (Ksb_run p h2)]
 rw [Kst_rE p]
theorem Kad_run (p : PartsK m1 m2 b id c0 c1 s s' f t n o) (h2 : ∀ h, h.base = b → m2 [.agg #[.string f, .string t]] h = some (.bool false, h)) : run (EW m1 m2) (99997 + 1) 31 (argsV (EW m1 m2) (Krs1 m1 m2 b id c0 c1 s s' f t n o).fr (topOp (Krs1 m1 m2 b id c0 c1 s s' f t n o)).2.op) (Krs1 m1 m2 b id c0 c1 s s' f t n o).h = some ((KadR m1 m2 b id c0 c1 s s' f t n o).1, (KadR m1 m2 b id c0 c1 s s' f t n o).2) := by
 rw [run_val (ad_prim m1 m2) (ad_fn m1 m2) ad_body (by rw [ad_nt]; exact p.Kad_n), ad_nt]
 rw [adv_eq (Kad0_E p), toldS_eq (d := 29) p.Kad0_t p.Kad0_w p.Kad0_k p.Kad0_o p.Kad0_d rfl p.Kad0_c (Kst_run p h2)]
 rw [Kad_rE p]
theorem Krs_run (p : PartsK m1 m2 b id c0 c1 s s' f t n o) (he : emptyA [.string s'] = false) (h1 : ∀ h, h.base = b → m1 [.string s'] h = some (.tuple #[.agg #[.string f, .string t, .int .i64 n, .bool o], .int .i64 0], h)) (h2 : ∀ h, h.base = b → m2 [.agg #[.string f, .string t]] h = some (.bool false, h)) : run (EW m1 m2) (99998 + 1) 8 (argsV (EW m1 m2) (Klw1 m1 m2 b id c0 c1 s s' f t n o).fr (topOp (Klw1 m1 m2 b id c0 c1 s s' f t n o)).2.op) (Klw1 m1 m2 b id c0 c1 s s' f t n o).h = some ((KrsR m1 m2 b id c0 c1 s s' f t n o).1, (KrsR m1 m2 b id c0 c1 s s' f t n o).2) := by
 rw [run_val (rs_prim m1 m2) (rs_fn m1 m2) rs_body (by rw [rs_nt]; exact p.Krs_n), rs_nt]
 rw [adv_eq (Krs0_E p), told_eq (d := 12) (v := (.tuple #[.agg #[.string f, .string t, .int .i64 n, .bool o], .int .i64 0])) (h' := (Krs0 m1 m2 b id c0 c1 s s' f t n o).h) p.Krs0_t (step_call p.Krs0_w p.Krs0_o p.Krs0_d rfl ((run_primM (n := 99997) (tak_prim m1 m2)).trans (takP_eq he (h1 _ p.Krs0_b))))]
 rw [adv_eq (Krs1_E p), told_eq (d := 21) (v := (KadR m1 m2 b id c0 c1 s s' f t n o).1) (h' := (KadR m1 m2 b id c0 c1 s s' f t n o).2) p.Krs1_t (step_call p.Krs1_w p.Krs1_o p.Krs1_d rfl (Kad_run p h2))]
 rw [Krs_rE p]
theorem K_joined (p : PartsK m1 m2 b id c0 c1 s s' f t n o) (hs : strBin .add s (⟨#[33]⟩ : ByteArray) = some (.string s')) (he : emptyA [.string s'] = false) (h1 : ∀ h, h.base = b → m1 [.string s'] h = some (.tuple #[.agg #[.string f, .string t, .int .i64 n, .bool o], .int .i64 0], h)) (h2 : ∀ h, h.base = b → m2 [.agg #[.string f, .string t]] h = some (.bool false, h)) : okR (run (EW m1 m2) (99999 + 1) 3 [.agg #[c0, c1], .int .i64 id, .string s] ⟨b, 0, 0, .nil⟩) = true := by
 rw [run_val (lw_prim m1 m2) (lw_fn m1 m2) lw_body (by rw [lw_nt]; rfl), lw_nt]
 rw [adv_eq (Klw0_E p), told_eq (d := 69) (v := (.string s')) (h' := (Klw0 m1 m2 b id c0 c1 s s' f t n o).h) p.Klw0_t (step_readM p.Klw0_w (p.Klw0_o.trans hs) p.Klw0_d rfl)]
 rw [adv_eq (Klw1_E p), told_eq (d := 70) (v := (KrsR m1 m2 b id c0 c1 s s' f t n o).1) (h' := (KrsR m1 m2 b id c0 c1 s s' f t n o).2) p.Klw1_t (step_call p.Klw1_w p.Klw1_o p.Klw1_d rfl (Krs_run p he h1 h2))]
 exact p.K_e
end
end Go.Proofs.YtokfjifeofpkkaaGreat.V
