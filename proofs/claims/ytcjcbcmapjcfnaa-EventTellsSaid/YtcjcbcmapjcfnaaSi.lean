/- What is told of calls that write rows.
   No condition: these are laws of the clean machine and of this program. -/
import Derived.Test.YtcjcbcmapjcfnaaSp
namespace Go.Proofs.Ytcjcbcmapjcfnaa.V
open Go
set_option linter.unusedVariables false
set_option maxRecDepth 100000
theorem evo_del_37 {α : Type} {R : Rep α} (hk : R.k = 3) {h : Heap} {t : List Blk} {q : Option Addr} {xs ys : List α} {i j : Int} (a : AccR R 44 h t (.slice q xs.length xs.length) xs) (hy : delL xs i j = some ys) : EvO EE 37 [.slice q xs.length xs.length, .int .i64 i, .int .i64 j] [t] h (fun v S h1 => ∃ q' t', v = .slice q' ys.length ys.length ∧ S = [t'] ∧ AccR R 44 h1 t' (.slice q' ys.length ys.length) ys) := evo_delP (k := 3) rfl hk (fun h1 h2 h3 h4 h5 => delK_37 h1 h2 h3 h4 h5) a hy
theorem evo_ins_38 {α : Type} {R : Rep α} (hk : R.k = 3) (hpl : ∀ h row x, R.C h row x → row.all (plainN 4) = true) {h : Heap} {t : List Blk} {q : Option Addr} {xs ys : List α} {i : Int} {x : α} {row : List Value} {bv Tv : Nat} (a : AccR R 44 h t (.slice q xs.length xs.length) xs) (hc : R.C h row x) (hy : insL 40 xs i x = some ys) : EvO EE 38 [.slice q xs.length xs.length, .int .i64 i, .slice (some ⟨bv, 0, none⟩) 1 1] [t, [⟨bv, .cells row Tv⟩]] h (fun v S h1 => ∃ q' t', v = .slice q' ys.length ys.length ∧ S = [t'] ∧ AccR R 44 h1 t' (.slice q' ys.length ys.length) ys) := evo_insP (k := 3) (bytes := 40) rfl hk (by decide) hpl (fun a hr => insCK_38 hk.symm a hc hr) a hc hy
end Go.Proofs.Ytcjcbcmapjcfnaa.V
