/- slices.Insert of one element, where there is room.
   Conditions: the rows lie in two blocks of plain memory; there is room. -/
import Derived.Test.YtcjcbcmapjcfnaaSg
import Derived.Test.YtcjcbcmapjcfnaaChecked
import Derived.Shelf.Spec.SlicesInsert
namespace Go.Proofs.Ytcjcbcmapjcfnaa.V
open Go Go.Shelf Go.RowKit Go.Lib
set_option linter.unusedVariables false
set_option linter.unusedSimpArgs false
set_option maxRecDepth 100000

theorem copy_raw {P : Program} {w : World} {sT dT ty elem k B o len dc nx mm : Nat} {C : Array Value} {T : TypeId} {fr : Nat × Nat} {x' : Value} {vs : List Value} (hu : P.underlying dT = some (.slice elem)) (hk : sz P elem = some k) (hg : w.heap[B]? = some (.cells C T fr)) (hf : Unfrozen C.size fr)
    (hlen : (Builtin.lenOf x').run P w = .ok nx w) (hmm : Nat.min nx len = mm) (hr : (Builtin.firstCells k mm x').run P w = .ok vs.toArray w) (hle : o + vs.length ≤ C.size) (h1 : ∀ v ∈ vs, v.oneCell' = true) :
    (Builtin.copy_ #[dT, sT] ty #[.slice (some ⟨B, o, none⟩) len dc, x']).run P w = .ok (goInt mm) { w with heap := w.heap.setIfInBounds B (.cells (splice C.toList o vs).toArray T fr) } := by
  obtain ⟨C', r1, r2⟩ := store_run (P := P) (o := o) vs 0 C w hg hf (by omega) h1
  have e : C' = (splice C.toList o vs).toArray := by rw [← show C'.toList = splice C.toList o vs from r2]
  subst e
  have e0 : (#[dT, sT] : Array TypeId)[0]? = some dT := rfl
  have e1 : (#[Value.slice (some ⟨B, o, none⟩) len dc, x'] : Array Value)[0]? = some (.slice (some ⟨B, o, none⟩) len dc) := rfl
  have e2 : (#[Value.slice (some ⟨B, o, none⟩) len dc, x'] : Array Value)[1]? = some x' := rfl
  subst hmm
  unfold Builtin.copy_
  simp only [e0, e1, e2, Sem.run_bind, r_underlying hu, Result.andThen_ok, hlen, r_size hk, hr, r1, Sem.run_pure]

set_option maxHeartbeats 4000000 in
theorem insB_38 (B s n c i VB vs : Nat) (C VC : Array Value) (T VT : TypeId) (fr vfr : Nat × Nat) (cs vr : List Value) (w : World) (hg : w.heap[B]? = some (.cells C T fr)) (hfz : Unfrozen C.size fr) (hsz : s + c * 3 ≤ C.size) (hcs : cs.length = n * 3) (hcell : ∀ (j : Nat) (v : Value), cs[j]? = some v → C[s + j]? = some v)
    (hvg : w.heap[VB]? = some (.cells VC VT vfr)) (hvfz : Unfrozen VC.size vfr) (hvsz : vs + 3 ≤ VC.size) (hvl : vr.length = 3) (hvcell : ∀ (j : Nat) (v : Value), vr[j]? = some v → VC[vs + j]? = some v) (hne : VB ≠ B) (hi : i < n) (hroom : n + 1 ≤ c) (hn63 : n + 1 < 9223372036854775808) (h1c : ∀ v ∈ cs, v.oneCell' = true) (h1v : ∀ v ∈ vr, v.oneCell' = true) :
    Calls Go.Proofs.Try.prog 38 #[.slice (some ⟨B, s, none⟩) n c, .int .i64 (i : Int), .slice (some ⟨VB, vs, none⟩) 1 1] w (fun e w' => e = .returned (.slice (some ⟨B, s, none⟩) (n + 1) c) ∧
      ∃ (C' : Array Value) (d : Nat), w' = { w with drawn := d, heap := w.heap.setIfInBounds B (.cells C' T fr) } ∧ C'.toList = splice (splice C.toList (s + (i + 1) * 3) (cs.drop (i * 3))) (s + i * 3) vr) := by
  have t0 := Go.Proofs.Try.underlying0; have a0 := Go.Proofs.Try.isAgg0; have z0 := Go.Proofs.Try.sizeOf0; have v0 := Go.Proofs.Try.zeroValue0; have u0 := run_underlying Go.Proofs.Try.underlying0
  have t3 := Go.Proofs.Try.underlying3; have a3 := Go.Proofs.Try.isAgg3; have z3 := Go.Proofs.Try.sizeOf3; have v3 := Go.Proofs.Try.zeroValue3; have u3 := run_underlying Go.Proofs.Try.underlying3
  have t4 := Go.Proofs.Try.underlying4; have a4 := Go.Proofs.Try.isAgg4; have z4 := Go.Proofs.Try.sizeOf4; have v4 := Go.Proofs.Try.zeroValue4; have u4 := run_underlying Go.Proofs.Try.underlying4
  have t33 := Go.Proofs.Try.underlying33; have a33 := Go.Proofs.Try.isAgg33; have z33 := Go.Proofs.Try.sizeOf33; have v33 := Go.Proofs.Try.zeroValue33; have u33 := run_underlying Go.Proofs.Try.underlying33
  have t44 := Go.Proofs.Try.underlying44; have a44 := Go.Proofs.Try.isAgg44; have z44 := Go.Proofs.Try.sizeOf44; have v44 := Go.Proofs.Try.zeroValue44; have u44 := run_underlying Go.Proofs.Try.underlying44
  have mixed : Go.Proofs.Try.prog.follows .mixedOrders = true := by kernel_rfl
  have hu : Go.Proofs.Try.prog.underlying 33 = some (.slice 44) := by kernel_rfl
  have hk : sz Go.Proofs.Try.prog 44 = some 3 := by kernel_rfl
  have hz1 : ¬ ((1 : Int) = 0) := by omega
  have hz2 : ¬ ((i : Int) = (n : Int)) := by omega
  have hBlt := lt_of_get hg
  have hdl : (cs.drop (i * 3)).length = (n - i) * 3 := by rw [List.length_drop]; omega
  have hov : ∀ lb cb, (callFunc 47 #[.slice (some ⟨VB, vs, none⟩) 1 1, .slice (some ⟨B, s + (i + 1) * 3, none⟩) lb cb]).run Go.Proofs.Try.prog w = .ok (.value (.bool false)) w := fun lb cb => by
    rw [run_callFunc_extern Go.Proofs.Try.func47 (by kernel_rfl) (by kernel_rfl) (by kernel_rfl) (e := Extern.SlicesOverlaps.overlaps #[33, 33] #[4]) (by kernel_rfl),
      Lib.run_overlaps_apart w 33 4 44 hu 3 Go.Proofs.Try.sizeOf44 ⟨VB, vs, none⟩ ⟨B, s + (i + 1) * 3, none⟩ 1 1 lb cb hne VT T VC.size C.size (by unfold World.shape?; rw [hvg]) (by unfold World.shape?; rw [hg]) (by omega) (by unfold World.frozen?; rw [hvg]; exact hvfz vs (by omega)) (by unfold World.frozen?; rw [hvg]; exact hvfz _ (Nat.le_refl _))]
    rfl
  have hw1 : IntKind.i64.wrap ((n : Int) + 1) = (n : Int) + 1 := by rw [IntKind.wrap_i64]; omega
  have hw2 : IntKind.i64.wrap ((i : Int) + 1) = (i : Int) + 1 := by rw [IntKind.wrap_i64]; omega
  have hb1 : (0 : Int) ≤ (i : Int) + 1 := by omega
  have hin : i ≤ n := by omega
  have htn : ((i : Int) + 1).toNat = i + 1 := by omega
  have htn2 : ((n : Int) + 1).toNat = n + 1 := by omega
  have hb2 : ¬ (c = i + 1) := by omega
  have hb3 : (i : Int) ≤ (n : Int) + 1 := by omega
  have hb4 : ¬ (c = i) := by omega
  have hb5 : ¬ ((n : Int) + 1 > (c : Int)) := by omega
  have hb6 : (n : Int) + 1 ≤ (c : Int) := by omega
  have hb7 : (i : Int) + 1 ≤ (n : Int) + 1 := by omega
  obtain ⟨C1, hC1⟩ : ∃ C1, C1 = (splice C.toList (s + (i + 1) * 3) (cs.drop (i * 3))).toArray := ⟨_, rfl⟩
  have hC1s : C1.size = C.size := by
    rw [hC1, List.size_toArray, splice_len _ _ _ (by rw [hdl, Array.length_toList]; omega), Array.length_toList]
  have hcp1 : ∀ (W : World), W.heap = w.heap → ∀ ty dc sc, (Builtin.copy_ #[33, 33] ty #[.slice (some ⟨B, s + (i + 1) * 3, none⟩) (n - i) dc, .slice (some ⟨B, s + i * 3, none⟩) (n + 1 - i) sc]).run Go.Proofs.Try.prog W = .ok (goInt ((n - i : Nat) : Int)) { W with heap := W.heap.setIfInBounds B (.cells C1 T fr) } := fun W hW ty dc sc => by
    rw [hC1]
    have hWg : W.heap[B]? = some (.cells C T fr) := by rw [hW]; exact hg
    refine copy_raw hu hk hWg hfz (nx := n + 1 - i) rfl (Nat.min_eq_right (by omega)) (run_firstCells_some W 3 (n - i) ⟨B, s + i * 3, none⟩ _ _ (cs.drop (i * 3)) hdl (fun j v hj => ?_)) (by rw [hdl]; omega) (fun v hv => h1c v (List.mem_of_mem_drop hv))
    rw [List.getElem?_drop] at hj
    rw [Addr.add_lit, cell_of hWg, Nat.add_assoc]
    exact hcell _ v hj
  have hcp2 : ∀ (W : World), W.heap = w.heap.setIfInBounds B (.cells C1 T fr) → ∀ ty dc, (Builtin.copy_ #[33, 33] ty #[.slice (some ⟨B, s + i * 3, none⟩) (n + 1 - i) dc, .slice (some ⟨VB, vs, none⟩) 1 1]).run Go.Proofs.Try.prog W = .ok (goInt ((1 : Nat) : Int)) { W with heap := W.heap.setIfInBounds B (.cells (splice C1.toList (s + i * 3) vr).toArray T fr) } := fun W hW ty dc => by
    have hWg : W.heap[B]? = some (.cells C1 T fr) := by rw [hW]; simp [hBlt]
    have hWv : W.heap[VB]? = some (.cells VC VT vfr) := by rw [hW, Array.getElem?_setIfInBounds, if_neg (fun e => hne e.symm)]; exact hvg
    refine copy_raw hu hk hWg (by rw [hC1s]; exact hfz) (nx := 1) rfl (Nat.min_eq_left (by omega)) (run_firstCells_some W 3 1 ⟨VB, vs, none⟩ _ _ vr (by rw [hvl]) (fun j v hj => ?_)) (by rw [hC1s]; omega) h1v
    rw [Addr.add_lit, cell_of hWv]
    exact hvcell _ v hj
  go_enter Go.Proofs.Try.func38, Go.Proofs.Try.ntmps38
  go_wp2_with (simp only [hov])
  go_region_law_o (refine step_copy_runI rfl _ _ 33 33 rfl (.slice (some ⟨B, s + (i + 1) * 3, none⟩) (n - i) (c - (i + 1))) (.slice (some ⟨B, s + i * 3, none⟩) (n + 1 - i) (c - i)) (by simp [Act.eval, Act.put]) (by simp [Act.eval, Act.put]) (hcp1 w.drew rfl _ _ _) ?_)
  go_wp2
  have hW2 := hcp2 { heap := w.drew.heap.setIfInBounds B (.cells C1 T fr), tape := w.tape, drawn := w.drawn + 1, os := w.drew.os, output := w.drew.output } rfl
  simp only [hC1] at hW2
  rw [hW2]
  go_wp2
  go_ret
  subst hC1
  refine ⟨rfl, (splice (splice C.toList (s + (i + 1) * 3) (cs.drop (i * 3))).toArray.toList (s + i * 3) vr).toArray, w.drawn + 1, ?_, rfl⟩
  simp only [World.drew, Array.setIfInBounds_setIfInBounds]
theorem insRun_38 : InsRun 3 40 44 EK 38 := ⟨by kernel_rfl, fun b vb n i cs vr Tv h hw hb hv h1 h2 h3 h4 h5 h6 h7 => insA_38 b vb n i cs vr Tv h hw hb hv h1 h2 h3 h4 h5 h6 h7, fun B s n c i VB vs C VC T VT fr vfr cs vr w h1 h2 h3 h4 h5 h6 h7 h8 h9 h10 h11 h12 h13 h14 h15 h16 => insB_38 B s n c i VB vs C VC T VT fr vfr cs vr w h1 h2 h3 h4 h5 h6 h7 h8 h9 h10 h11 h12 h13 h14 h15 h16⟩
end Go.Proofs.Ytcjcbcmapjcfnaa.V
