/- What is told of calls that write rows.
   No condition: these are laws of the clean machine and of this program. -/
import Derived.Test.YthgcmcifhhkebaaSp
namespace Go.Proofs.Ythgcmcifhhkebaa.V
open Go
set_option linter.unusedVariables false
set_option maxRecDepth 100000
theorem evo_del_34 {α : Type} {R : Rep α} (hk : R.k = 6) {h : Heap} {t : List Blk} {q : Option Addr} {xs ys : List α} {i j : Int} (a : AccR R 58 h t (.slice q xs.length xs.length) xs) (hy : delL xs i j = some ys) : EvO EE 34 [.slice q xs.length xs.length, .int .i64 i, .int .i64 j] [t] h (fun v S h1 => ∃ q' t', v = .slice q' ys.length ys.length ∧ S = [t'] ∧ AccR R 58 h1 t' (.slice q' ys.length ys.length) ys) := evo_delP (k := 6) rfl hk (fun h1 h2 h3 h4 h5 => delK_34 h1 h2 h3 h4 h5) a hy
theorem evo_ins_26 {α : Type} {R : Rep α} (hk : R.k = 6) (hpl : ∀ h row x, R.C h row x → row.all (plainN 4) = true) {h : Heap} {t : List Blk} {q : Option Addr} {xs ys : List α} {i : Int} {x : α} {row : List Value} {bv Tv : Nat} (a : AccR R 58 h t (.slice q xs.length xs.length) xs) (hc : R.C h row x) (hy : insL 72 xs i x = some ys) : EvO EE 26 [.slice q xs.length xs.length, .int .i64 i, .slice (some ⟨bv, 0, none⟩) 1 1] [t, [⟨bv, .cells row Tv⟩]] h (fun v S h1 => ∃ q' t', v = .slice q' ys.length ys.length ∧ S = [t'] ∧ AccR R 58 h1 t' (.slice q' ys.length ys.length) ys) := evo_insP (k := 6) (bytes := 72) rfl hk (by decide) hpl (fun a hr => insCK_26 hk.symm a hc hr) a hc hy
end Go.Proofs.Ythgcmcifhhkebaa.V
