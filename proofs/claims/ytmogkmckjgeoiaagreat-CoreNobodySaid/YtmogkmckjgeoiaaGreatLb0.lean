/- What CoreNobody runs, in parts.
   No condition: these are laws of the clean machine and of this program. -/
import Derived.Test.YtmogkmckjgeoiaaGreatGq
import Derived.Test.YtmogkmckjgeoiaaGreatSa
namespace Go.Proofs.YtmogkmckjgeoiaaGreat.V
open Go
set_option linter.unusedVariables false
set_option linter.unusedSimpArgs false
set_option maxRecDepth 100000
noncomputable def lwC : Code := match Tryz.f3.body with | some c => c | none => .skip
noncomputable def lwR : List Code := (flatC lwC).dropLast
noncomputable def lwO : List (Array Oper × Oper) := codeL lwR
noncomputable def svC : Code := match Tryz.f8.body with | some c => c | none => .skip
noncomputable def svP : List Code := (flatC svC).take 4
noncomputable def svR : List Code := ((flatC svC).drop 4).take 1
noncomputable def svT : List Code := (flatC svC).drop 5
noncomputable def svO : List (Array Oper × Oper) := codeL svR
theorem lw_s : flatC lwC = lwR ++ [.ret] := by kernel_rfl
theorem lw_r : lwR.all isReg = true := by kernel_rfl
theorem lw_o : lwO = lwO.take 20 ++ nthO lwO 20 :: ((lwO.drop 21).take 46 ++ nthO lwO 67 :: lwO.drop 68) := by kernel_rfl
theorem lw_o2 : codeL lwR = lwO.take 20 ++ nthO lwO 20 :: ((lwO.drop 21).take 46 ++ nthO lwO 67 :: lwO.drop 68) := lw_o
theorem sv_s : flatC svC = svP ++ (svR ++ svT) := by kernel_rfl
theorem sv_r : svR.all isReg = true := by kernel_rfl
theorem sv_o : svO = svO.take 1 ++ nthO svO 1 :: svO.drop 2 := by kernel_rfl
theorem sv_o2 : codeL svR = svO.take 1 ++ nthO svO 1 :: svO.drop 2 := sv_o
abbrev QV (k : Int) (c1 c2 c3 c4 c5 c6 : Value) : Value := .agg #[.int .i64 k, c1, c2, c3, c4, c5, c6]
abbrev WV (d0 d1 d2 d3 d4 : Value) : Value := .agg #[d0, d1, d2, d3, d4]
noncomputable def EM (m : List Value → Heap → Option (Value × Heap)) : Env := envM EE 13 m
section
variable (m : List Value → Heap → Option (Value × Heap)) (b : Nat → Nat → Option Value) (k r : Int) (c1 c2 c3 c4 c5 c6 d0 d1 d2 d3 d4 : Value)
noncomputable abbrev cL : FuncId → List Value → Heap → Option (Value × Heap) := run (EM m) 99999
noncomputable abbrev cS : FuncId → List Value → Heap → Option (Value × Heap) := run (EM m) 99998
noncomputable def sA : Fr × Heap := stF (runF (EM m) 86 (cL m) (lwO.take 20) (initF [QV k c1 c2 c3 c4 c5 c6, WV d0 d1 d2 d3 d4] 0 .nil, ⟨b, 0, 0, .nil⟩))
noncomputable def cpt : Value := (sA m b k c1 c2 c3 c4 c5 c6 d0 d1 d2 d3 d4).1.at 22
noncomputable def sS : Fr × Heap := stE (evL (EM m) 39 (cS m) 99998 svP (initF [cpt m b k c1 c2 c3 c4 c5 c6 d0 d1 d2 d3 d4, QV k c1 c2 c3 c4 c5 c6] 0 .nil) (sA m b k c1 c2 c3 c4 c5 c6 d0 d1 d2 d3 d4).2)
noncomputable def sS1 : Fr × Heap := stF (runF (EM m) 39 (cS m) (svO.take 1) (sS m b k c1 c2 c3 c4 c5 c6 d0 d1 d2 d3 d4))
noncomputable def sS2 : Fr × Heap := stF (runF (EM m) 39 (cS m) (svO.drop 2) ((sS1 m b k c1 c2 c3 c4 c5 c6 d0 d1 d2 d3 d4).1.set 13 (.int .i64 r), (sS1 m b k c1 c2 c3 c4 c5 c6 d0 d1 d2 d3 d4).2))
noncomputable def sV : Value × Heap := stV (finV (EM m) Tryz.f8.results.toList (evL (EM m) 39 (cS m) 99998 svT (sS2 m b k r c1 c2 c3 c4 c5 c6 d0 d1 d2 d3 d4).1 (sS2 m b k r c1 c2 c3 c4 c5 c6 d0 d1 d2 d3 d4).2))
noncomputable def sB : Fr × Heap := stF (runF (EM m) 86 (cL m) ((lwO.drop 21).take 46) ((sA m b k c1 c2 c3 c4 c5 c6 d0 d1 d2 d3 d4).1.set 24 (sV m b k r c1 c2 c3 c4 c5 c6 d0 d1 d2 d3 d4).1, (sV m b k r c1 c2 c3 c4 c5 c6 d0 d1 d2 d3 d4).2))
noncomputable def sC : Fr × Heap := stF (runF (EM m) 86 (cL m) (lwO.drop 68) ((sB m b k r c1 c2 c3 c4 c5 c6 d0 d1 d2 d3 d4).1.set 67 (.int .i64 r), (sB m b k r c1 c2 c3 c4 c5 c6 d0 d1 d2 d3 d4).2))
end
structure Parts (m : List Value → Heap → Option (Value × Heap)) (b : Nat → Nat → Option Value) (k r : Int) (c1 c2 c3 c4 c5 c6 d0 d1 d2 d3 d4 : Value) : Prop where
 a : (runF (EM m) 86 (cL m) (lwO.take 20) (initF [QV k c1 c2 c3 c4 c5 c6, WV d0 d1 d2 d3 d4] 0 .nil, ⟨b, 0, 0, .nil⟩)).isSome = true
 aw : wantedV (nthO lwO 20).1 (sA m b k c1 c2 c3 c4 c5 c6 d0 d1 d2 d3 d4).1 (nthO lwO 20).2 = true
 ao : ∀ call, opV (EM m) call (sA m b k c1 c2 c3 c4 c5 c6 d0 d1 d2 d3 d4).1 (sA m b k c1 c2 c3 c4 c5 c6 d0 d1 d2 d3 d4).2 (nthO lwO 20).2.op = call 8 [cpt m b k c1 c2 c3 c4 c5 c6 d0 d1 d2 d3 d4, QV k c1 c2 c3 c4 c5 c6] (sA m b k c1 c2 c3 c4 c5 c6 d0 d1 d2 d3 d4).2
 s : isN (evL (EM m) 39 (cS m) 99998 svP (initF [cpt m b k c1 c2 c3 c4 c5 c6 d0 d1 d2 d3 d4, QV k c1 c2 c3 c4 c5 c6] 0 .nil) (sA m b k c1 c2 c3 c4 c5 c6 d0 d1 d2 d3 d4).2) = true
 s1 : (runF (EM m) 39 (cS m) (svO.take 1) (sS m b k c1 c2 c3 c4 c5 c6 d0 d1 d2 d3 d4)).isSome = true
 sw : wantedV (nthO svO 1).1 (sS1 m b k c1 c2 c3 c4 c5 c6 d0 d1 d2 d3 d4).1 (nthO svO 1).2 = true
 so : ∀ call, opV (EM m) call (sS1 m b k c1 c2 c3 c4 c5 c6 d0 d1 d2 d3 d4).1 (sS1 m b k c1 c2 c3 c4 c5 c6 d0 d1 d2 d3 d4).2 (nthO svO 1).2.op = call 13 [QV k c1 c2 c3 c4 c5 c6] (sS1 m b k c1 c2 c3 c4 c5 c6 d0 d1 d2 d3 d4).2
 sb : (sS1 m b k c1 c2 c3 c4 c5 c6 d0 d1 d2 d3 d4).2.base = b
 s2 : (runF (EM m) 39 (cS m) (svO.drop 2) ((sS1 m b k c1 c2 c3 c4 c5 c6 d0 d1 d2 d3 d4).1.set 13 (.int .i64 r), (sS1 m b k c1 c2 c3 c4 c5 c6 d0 d1 d2 d3 d4).2)).isSome = true
 sv : (finV (EM m) Tryz.f8.results.toList (evL (EM m) 39 (cS m) 99998 svT (sS2 m b k r c1 c2 c3 c4 c5 c6 d0 d1 d2 d3 d4).1 (sS2 m b k r c1 c2 c3 c4 c5 c6 d0 d1 d2 d3 d4).2)).isSome = true
 b1 : (runF (EM m) 86 (cL m) ((lwO.drop 21).take 46) ((sA m b k c1 c2 c3 c4 c5 c6 d0 d1 d2 d3 d4).1.set 24 (sV m b k r c1 c2 c3 c4 c5 c6 d0 d1 d2 d3 d4).1, (sV m b k r c1 c2 c3 c4 c5 c6 d0 d1 d2 d3 d4).2)).isSome = true
 bw : wantedV (nthO lwO 67).1 (sB m b k r c1 c2 c3 c4 c5 c6 d0 d1 d2 d3 d4).1 (nthO lwO 67).2 = true
 bo : ∀ call, opV (EM m) call (sB m b k r c1 c2 c3 c4 c5 c6 d0 d1 d2 d3 d4).1 (sB m b k r c1 c2 c3 c4 c5 c6 d0 d1 d2 d3 d4).2 (nthO lwO 67).2.op = call 13 [QV k c1 c2 c3 c4 c5 c6] (sB m b k r c1 c2 c3 c4 c5 c6 d0 d1 d2 d3 d4).2
 bb : (sB m b k r c1 c2 c3 c4 c5 c6 d0 d1 d2 d3 d4).2.base = b
 c : (runF (EM m) 86 (cL m) (lwO.drop 68) ((sB m b k r c1 c2 c3 c4 c5 c6 d0 d1 d2 d3 d4).1.set 67 (.int .i64 r), (sB m b k r c1 c2 c3 c4 c5 c6 d0 d1 d2 d3 d4).2)).isSome = true
 e : okR (finV (EM m) Tryz.f3.results.toList (some (.ret, (sC m b k r c1 c2 c3 c4 c5 c6 d0 d1 d2 d3 d4).1, (sC m b k r c1 c2 c3 c4 c5 c6 d0 d1 d2 d3 d4).2))) = true
theorem lw_body : Tryz.f3.body = some lwC := by kernel_rfl
theorem sv_body : Tryz.f8.body = some svC := by kernel_rfl
theorem em_may (m : List Value → Heap → Option (Value × Heap)) : (EM m).prim 13 = some m := by kernel_rfl
theorem em_law (m : List Value → Heap → Option (Value × Heap)) : (EM m).prim 3 = none := by kernel_rfl
theorem em_sv (m : List Value → Heap → Option (Value × Heap)) : (EM m).prim 8 = none := by kernel_rfl
theorem em_lawf (m : List Value → Heap → Option (Value × Heap)) : (EM m).P.funcs[3]? = some Tryz.f3 := by kernel_rfl
theorem em_svf (m : List Value → Heap → Option (Value × Heap)) : (EM m).P.funcs[8]? = some Tryz.f8 := by kernel_rfl
theorem nt_sv : Tryz.f8.ntmps = 39 := by kernel_rfl
theorem nt_lw : Tryz.f3.ntmps = 86 := by kernel_rfl
section
variable {m : List Value → Heap → Option (Value × Heap)} {b : Nat → Nat → Option Value} {k r : Int} {c1 c2 c3 c4 c5 c6 d0 d1 d2 d3 d4 : Value}
theorem eA (p : Parts m b k r c1 c2 c3 c4 c5 c6 d0 d1 d2 d3 d4) : runF (EM m) 86 (cL m) (lwO.take 20) (initF [QV k c1 c2 c3 c4 c5 c6, WV d0 d1 d2 d3 d4] 0 .nil, ⟨b, 0, 0, .nil⟩) = some (sA m b k c1 c2 c3 c4 c5 c6 d0 d1 d2 d3 d4) := stF_eq p.a
theorem eS (p : Parts m b k r c1 c2 c3 c4 c5 c6 d0 d1 d2 d3 d4) : evL (EM m) 39 (cS m) 99998 svP (initF [cpt m b k c1 c2 c3 c4 c5 c6 d0 d1 d2 d3 d4, QV k c1 c2 c3 c4 c5 c6] 0 .nil) (sA m b k c1 c2 c3 c4 c5 c6 d0 d1 d2 d3 d4).2 = some (.normal, (sS m b k c1 c2 c3 c4 c5 c6 d0 d1 d2 d3 d4).1, (sS m b k c1 c2 c3 c4 c5 c6 d0 d1 d2 d3 d4).2) := stE_eq p.s
theorem eS1 (p : Parts m b k r c1 c2 c3 c4 c5 c6 d0 d1 d2 d3 d4) : runF (EM m) 39 (cS m) (svO.take 1) (sS m b k c1 c2 c3 c4 c5 c6 d0 d1 d2 d3 d4) = some (sS1 m b k c1 c2 c3 c4 c5 c6 d0 d1 d2 d3 d4) := stF_eq p.s1
theorem eS2 (p : Parts m b k r c1 c2 c3 c4 c5 c6 d0 d1 d2 d3 d4) : runF (EM m) 39 (cS m) (svO.drop 2) ((sS1 m b k c1 c2 c3 c4 c5 c6 d0 d1 d2 d3 d4).1.set 13 (.int .i64 r), (sS1 m b k c1 c2 c3 c4 c5 c6 d0 d1 d2 d3 d4).2) = some (sS2 m b k r c1 c2 c3 c4 c5 c6 d0 d1 d2 d3 d4) := stF_eq p.s2
theorem eV (p : Parts m b k r c1 c2 c3 c4 c5 c6 d0 d1 d2 d3 d4) : finV (EM m) Tryz.f8.results.toList (evL (EM m) 39 (cS m) 99998 svT (sS2 m b k r c1 c2 c3 c4 c5 c6 d0 d1 d2 d3 d4).1 (sS2 m b k r c1 c2 c3 c4 c5 c6 d0 d1 d2 d3 d4).2) = some (sV m b k r c1 c2 c3 c4 c5 c6 d0 d1 d2 d3 d4) := stV_eq p.sv
theorem eB (p : Parts m b k r c1 c2 c3 c4 c5 c6 d0 d1 d2 d3 d4) : runF (EM m) 86 (cL m) ((lwO.drop 21).take 46) ((sA m b k c1 c2 c3 c4 c5 c6 d0 d1 d2 d3 d4).1.set 24 (sV m b k r c1 c2 c3 c4 c5 c6 d0 d1 d2 d3 d4).1, (sV m b k r c1 c2 c3 c4 c5 c6 d0 d1 d2 d3 d4).2) = some (sB m b k r c1 c2 c3 c4 c5 c6 d0 d1 d2 d3 d4) := stF_eq p.b1
theorem eC (p : Parts m b k r c1 c2 c3 c4 c5 c6 d0 d1 d2 d3 d4) : runF (EM m) 86 (cL m) (lwO.drop 68) ((sB m b k r c1 c2 c3 c4 c5 c6 d0 d1 d2 d3 d4).1.set 67 (.int .i64 r), (sB m b k r c1 c2 c3 c4 c5 c6 d0 d1 d2 d3 d4).2) = some (sC m b k r c1 c2 c3 c4 c5 c6 d0 d1 d2 d3 d4) := stF_eq p.c
theorem x_dst : (nthO lwO 20).2.dst = some 24 := by kernel_rfl
theorem y_dst : (nthO lwO 67).2.dst = some 67 := by kernel_rfl
theorem z_dst : (nthO svO 1).2.dst = some 13 := by kernel_rfl
theorem pr_may (n : Nat) (h : Heap) : run (EM m) (n + 1) 13 [QV k c1 c2 c3 c4 c5 c6] h = m [QV k c1 c2 c3 c4 c5 c6] h := run_primM (em_may m)
theorem law_eq : run (EM m) (99999 + 1) 3 [QV k c1 c2 c3 c4 c5 c6, WV d0 d1 d2 d3 d4] ⟨b, 0, 0, .nil⟩ = finV (EM m) Tryz.f3.results.toList (evL (EM m) 86 (run (EM m) 99999) 99999 (lwR ++ [.ret]) (initF [QV k c1 c2 c3 c4 c5 c6, WV d0 d1 d2 d3 d4] 0 .nil) ⟨b, 0, 0, .nil⟩) := by
 have h := run_fin (n := 99999) (h := ⟨b, 0, 0, .nil⟩) (em_law m) (em_lawf m) lw_body (args := [QV k c1 c2 c3 c4 c5 c6, WV d0 d1 d2 d3 d4]) (by rw [nt_lw]; rfl)
 rw [nt_lw, lw_s] at h
 exact h
theorem sv_eq (a : Value) (h : Heap) : run (EM m) (99998 + 1) 8 [a, QV k c1 c2 c3 c4 c5 c6] h = finV (EM m) Tryz.f8.results.toList (evL (EM m) 39 (run (EM m) 99998) 99998 (svP ++ (svR ++ svT)) (initF [a, QV k c1 c2 c3 c4 c5 c6] 0 .nil) h) := by
 have e := run_fin (n := 99998) (h := h) (em_sv m) (em_svf m) sv_body (args := [a, QV k c1 c2 c3 c4 c5 c6]) (by rw [nt_sv]; rfl)
 rw [nt_sv, sv_s] at e
 exact e
attribute [local irreducible] sA sS sS1 sS2 sV sB sC cpt EM run runF evL finV lwO svO lwR svR svP svT stepO nthO
theorem sv_run (p : Parts m b k r c1 c2 c3 c4 c5 c6 d0 d1 d2 d3 d4) (hm : ∀ h, h.base = b → m [QV k c1 c2 c3 c4 c5 c6] h = some (.int .i64 r, h)) : run (EM m) (99998 + 1) 8 [cpt m b k c1 c2 c3 c4 c5 c6 d0 d1 d2 d3 d4, QV k c1 c2 c3 c4 c5 c6] (sA m b k c1 c2 c3 c4 c5 c6 d0 d1 d2 d3 d4).2 = some ((sV m b k r c1 c2 c3 c4 c5 c6 d0 d1 d2 d3 d4).1, (sV m b k r c1 c2 c3 c4 c5 c6 d0 d1 d2 d3 d4).2) := by
 have h2 : stepO (EM m) 39 (cS m) (nthO svO 1) (sS1 m b k c1 c2 c3 c4 c5 c6 d0 d1 d2 d3 d4).1 (sS1 m b k c1 c2 c3 c4 c5 c6 d0 d1 d2 d3 d4).2 = some ((sS1 m b k c1 c2 c3 c4 c5 c6 d0 d1 d2 d3 d4).1.set 13 (.int .i64 r), (sS1 m b k c1 c2 c3 c4 c5 c6 d0 d1 d2 d3 d4).2) :=
  step_call (nt := 39) (d := 13) p.sw (p.so (cS m)) z_dst rfl ((pr_may 99997 _).trans (hm _ p.sb))
 have h3 : runF (EM m) 39 (cS m) (codeL svR) (sS m b k c1 c2 c3 c4 c5 c6 d0 d1 d2 d3 d4) = some (sS2 m b k r c1 c2 c3 c4 c5 c6 d0 d1 d2 d3 d4) := by
  have e : codeL svR = svO.take 1 ++ nthO svO 1 :: svO.drop 2 := sv_o2
  rw [e, runF_three (eS1 p) h2]
  exact eS2 p
 rw [sv_eq, evL_app, eS p]
 dsimp only
 rw [evL_regs svR svT (sS m b k c1 c2 c3 c4 c5 c6 d0 d1 d2 d3 d4) sv_r, h3]
 rw [eV p]
theorem joined (p : Parts m b k r c1 c2 c3 c4 c5 c6 d0 d1 d2 d3 d4) (hm : ∀ h, h.base = b → m [QV k c1 c2 c3 c4 c5 c6] h = some (.int .i64 r, h)) : okR (run (EM m) (99999 + 1) 3 [QV k c1 c2 c3 c4 c5 c6, WV d0 d1 d2 d3 d4] ⟨b, 0, 0, .nil⟩) = true := by
 have h1 : stepO (EM m) 86 (cL m) (nthO lwO 20) (sA m b k c1 c2 c3 c4 c5 c6 d0 d1 d2 d3 d4).1 (sA m b k c1 c2 c3 c4 c5 c6 d0 d1 d2 d3 d4).2 = some ((sA m b k c1 c2 c3 c4 c5 c6 d0 d1 d2 d3 d4).1.set 24 (sV m b k r c1 c2 c3 c4 c5 c6 d0 d1 d2 d3 d4).1, (sV m b k r c1 c2 c3 c4 c5 c6 d0 d1 d2 d3 d4).2) :=
  step_call (nt := 86) (d := 24) p.aw (p.ao (cL m)) x_dst rfl (sv_run p hm)
 have h2 : stepO (EM m) 86 (cL m) (nthO lwO 67) (sB m b k r c1 c2 c3 c4 c5 c6 d0 d1 d2 d3 d4).1 (sB m b k r c1 c2 c3 c4 c5 c6 d0 d1 d2 d3 d4).2 = some ((sB m b k r c1 c2 c3 c4 c5 c6 d0 d1 d2 d3 d4).1.set 67 (.int .i64 r), (sB m b k r c1 c2 c3 c4 c5 c6 d0 d1 d2 d3 d4).2) :=
  step_call (nt := 86) (d := 67) p.bw (p.bo (cL m)) y_dst rfl ((pr_may 99998 _).trans (hm _ p.bb))
 have h3 : runF (EM m) 86 (cL m) (codeL lwR) (initF [QV k c1 c2 c3 c4 c5 c6, WV d0 d1 d2 d3 d4] 0 .nil, ⟨b, 0, 0, .nil⟩) = some (sC m b k r c1 c2 c3 c4 c5 c6 d0 d1 d2 d3 d4) := by
  have e : codeL lwR = lwO.take 20 ++ nthO lwO 20 :: ((lwO.drop 21).take 46 ++ nthO lwO 67 :: lwO.drop 68) := lw_o2
  rw [e, runF_three (eA p) h1, runF_three (eB p) h2]
  exact eC p
 have h4 := evL_regs (E := EM m) (nt := 86) (lf := 99999) (call := run (EM m) 99999) lwR [.ret] (initF [QV k c1 c2 c3 c4 c5 c6, WV d0 d1 d2 d3 d4] 0 .nil, ⟨b, 0, 0, .nil⟩) lw_r
 rw [h3] at h4
 have h5 : evL (EM m) 86 (run (EM m) 99999) 99999 (lwR ++ [.ret]) (initF [QV k c1 c2 c3 c4 c5 c6, WV d0 d1 d2 d3 d4] 0 .nil) ⟨b, 0, 0, .nil⟩ = some (.ret, (sC m b k r c1 c2 c3 c4 c5 c6 d0 d1 d2 d3 d4).1, (sC m b k r c1 c2 c3 c4 c5 c6 d0 d1 d2 d3 d4).2) := h4.trans (ret_L _ _)
 rw [law_eq, h5]
 exact p.e
end
end Go.Proofs.YtmogkmckjgeoiaaGreat.V
