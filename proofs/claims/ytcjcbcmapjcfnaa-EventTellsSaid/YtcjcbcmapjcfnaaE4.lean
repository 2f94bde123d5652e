/- slices.SortedFunc of a map's events: sorted by their keys.
   No condition beyond what stands in each statement. -/
import Derived.Test.YtcjcbcmapjcfnaaE3
namespace Go.Proofs.Ytcjcbcmapjcfnaa
open Go Go.RowKit Go.Maps Go.Sort Go.Shelf Go.Proofs
set_option linter.unusedVariables false
set_option linter.unusedSimpArgs false
attribute [local go_sem] Oper.semAt_some

def sortEv_ren : Go.Shelf.Ren := ⟨fun | 6 => 44 | 14 => 51 | 15 => 52 | 20 => 54 | 21 => 55 | 22 => 56 | 23 => 57 | 24 => 58 | 25 => 59 | 26 => 60 | 27 => 61 | 28 => 62 | 29 => 63 | 46 => 65 | 47 => 66 | 48 => 67 | 49 => 68 | 50 => 69 | 57 => 70 | n => n, fun | 0 => 0 | 1 => 1 | 2 => 2 | 3 => 3 | 4 => 4 | 5 => 5 | 6 => 6 | 7 => 7 | 8 => 8 | 9 => 9 | 10 => 10 | 11 => 11 | 12 => 12 | 13 => 13 | 14 => 14 | 15 => 15 | 16 => 16 | 17 => 17 | 18 => 18 | 19 => 19 | 20 => 20 | 21 => 21 | 22 => 22 | 23 => 68 | 24 => 40 | 25 => 56 | 37 => 74 | 38 => 75 | 39 => 70 | 40 => 49 | 44 => 76 | 45 => 77 | 46 => 78 | 47 => 79 | 48 => 80 | 49 => 81 | 50 => 58 | 51 => 82 | 52 => 83 | 53 => 84 | 54 => 85 | 55 => 86 | 66 => 88 | 67 => 89 | 68 => 90 | 69 => 91 | 70 => 92 | 71 => 93 | 76 => 94 | 77 => 95 | 78 => 96 | 81 => 97 | 82 => 98 | 83 => 99 | 84 => 100 | 85 => 101 | 86 => 102 | 87 => 103 | 88 => 104 | 89 => 105 | 90 => 106 | 91 => 107 | 92 => 108 | 93 => 109 | 94 => 110 | 95 => 111 | 96 => 112 | n => n, fun n => n⟩
theorem sortEv : SlLaysF0.n6 Go.Proofs.Try.prog sortEv_ren := {
  mixed := by kernel_rfl
  f6 := ⟨Go.Proofs.Try.f44.name, by kernel_rfl, Go.Proofs.Try.func44.trans (congrArg some (by kernel_rfl))⟩
  f14 := ⟨Go.Proofs.Try.f51.name, by kernel_rfl, Go.Proofs.Try.func51.trans (congrArg some (by kernel_rfl))⟩
  f15 := Go.Proofs.Try.func52.trans (congrArg some (by kernel_rfl))
  f20 := ⟨Go.Proofs.Try.f54.name, by kernel_rfl, Go.Proofs.Try.func54.trans (congrArg some (by kernel_rfl))⟩
  f21 := ⟨Go.Proofs.Try.f55.name, by kernel_rfl, Go.Proofs.Try.func55.trans (congrArg some (by kernel_rfl))⟩
  f22 := ⟨Go.Proofs.Try.f56.name, by kernel_rfl, Go.Proofs.Try.func56.trans (congrArg some (by kernel_rfl))⟩
  f23 := ⟨Go.Proofs.Try.f57.name, by kernel_rfl, Go.Proofs.Try.func57.trans (congrArg some (by kernel_rfl))⟩
  f24 := ⟨Go.Proofs.Try.f58.name, by kernel_rfl, Go.Proofs.Try.func58.trans (congrArg some (by kernel_rfl))⟩
  f25 := ⟨Go.Proofs.Try.f59.name, by kernel_rfl, Go.Proofs.Try.func59.trans (congrArg some (by kernel_rfl))⟩
  f26 := ⟨Go.Proofs.Try.f60.name, by kernel_rfl, Go.Proofs.Try.func60.trans (congrArg some (by kernel_rfl))⟩
  f27 := ⟨Go.Proofs.Try.f61.name, by kernel_rfl, Go.Proofs.Try.func61.trans (congrArg some (by kernel_rfl))⟩
  f28 := Go.Proofs.Try.func62.trans (congrArg some (by kernel_rfl))
  f29 := Go.Proofs.Try.func63.trans (congrArg some (by kernel_rfl))
  f46 := ⟨Go.Proofs.Try.f65.name, by kernel_rfl, Go.Proofs.Try.func65.trans (congrArg some (by kernel_rfl))⟩
  f47 := Go.Proofs.Try.func66.trans (congrArg some (by kernel_rfl))
  f48 := Go.Proofs.Try.func67.trans (congrArg some (by kernel_rfl))
  f49 := ⟨Go.Proofs.Try.f68.name, by kernel_rfl, Go.Proofs.Try.func68.trans (congrArg some (by kernel_rfl))⟩
  f50 := ⟨Go.Proofs.Try.f69.name, by kernel_rfl, Go.Proofs.Try.func69.trans (congrArg some (by kernel_rfl))⟩
  f57 := ⟨Go.Proofs.Try.f70.name, by kernel_rfl, Go.Proofs.Try.func70.trans (congrArg some (by kernel_rfl))⟩
  t0 := Go.Proofs.Try.underlying0
  a0 := Go.Proofs.Try.isAgg0
  z0 := Go.Proofs.Try.sizeOf0
  v0 := Go.Proofs.Try.zeroValue0
  t3 := Go.Proofs.Try.underlying3
  a3 := Go.Proofs.Try.isAgg3
  z3 := Go.Proofs.Try.sizeOf3
  v3 := Go.Proofs.Try.zeroValue3
  t4 := Go.Proofs.Try.underlying4
  a4 := Go.Proofs.Try.isAgg4
  z4 := Go.Proofs.Try.sizeOf4
  v4 := Go.Proofs.Try.zeroValue4
  t5 := Go.Proofs.Try.underlying5
  a5 := Go.Proofs.Try.isAgg5
  z5 := Go.Proofs.Try.sizeOf5
  v5 := Go.Proofs.Try.zeroValue5
  t9 := Go.Proofs.Try.underlying9
  a9 := Go.Proofs.Try.isAgg9
  z9 := Go.Proofs.Try.sizeOf9
  v9 := Go.Proofs.Try.zeroValue9
  t22 := Go.Proofs.Try.underlying22
  a22 := Go.Proofs.Try.isAgg22
  z22 := Go.Proofs.Try.sizeOf22
  v22 := Go.Proofs.Try.zeroValue22
  t25 := Go.Proofs.Try.underlying56
  a25 := Go.Proofs.Try.isAgg56
  z25 := Go.Proofs.Try.sizeOf56
  v25 := Go.Proofs.Try.zeroValue56
  t39 := Go.Proofs.Try.underlying70
  a39 := Go.Proofs.Try.isAgg70
  z39 := Go.Proofs.Try.sizeOf70
  v39 := Go.Proofs.Try.zeroValue70
  t45 := Go.Proofs.Try.underlying77
  a45 := Go.Proofs.Try.isAgg77
  z45 := Go.Proofs.Try.sizeOf77
  v45 := Go.Proofs.Try.zeroValue77
  t46 := Go.Proofs.Try.underlying78
  a46 := Go.Proofs.Try.isAgg78
  z46 := Go.Proofs.Try.sizeOf78
  v46 := Go.Proofs.Try.zeroValue78
  t50 := Go.Proofs.Try.underlying58
  a50 := Go.Proofs.Try.isAgg58
  z50 := Go.Proofs.Try.sizeOf58
  v50 := Go.Proofs.Try.zeroValue58
  t53 := Go.Proofs.Try.underlying84
  a53 := Go.Proofs.Try.isAgg84
  z53 := Go.Proofs.Try.sizeOf84
  v53 := Go.Proofs.Try.zeroValue84
  t55 := Go.Proofs.Try.underlying86
  a55 := Go.Proofs.Try.isAgg86
  z55 := Go.Proofs.Try.sizeOf86
  v55 := Go.Proofs.Try.zeroValue86
  t66 := Go.Proofs.Try.underlying88
  a66 := Go.Proofs.Try.isAgg88
  z66 := Go.Proofs.Try.sizeOf88
  v66 := Go.Proofs.Try.zeroValue88
  t70 := Go.Proofs.Try.underlying92
  a70 := Go.Proofs.Try.isAgg92
  z70 := Go.Proofs.Try.sizeOf92
  v70 := Go.Proofs.Try.zeroValue92
  t76 := Go.Proofs.Try.underlying94
  a76 := Go.Proofs.Try.isAgg94
  z76 := Go.Proofs.Try.sizeOf94
  v76 := Go.Proofs.Try.zeroValue94
  t77 := Go.Proofs.Try.underlying95
  a77 := Go.Proofs.Try.isAgg95
  z77 := Go.Proofs.Try.sizeOf95
  v77 := Go.Proofs.Try.zeroValue95 }
theorem ltK (x y : EvV) : ltOf (fun x y : EvV => cmpL x.k y.k) x y = Op.bytesLess x.k y.k := by
  unfold ltOf cmpL
  cases h1 : Op.bytesLess x.k y.k with
  | true => simp [h1]
  | false => cases h2 : Op.bytesLess y.k x.k <;> simp [h1, h2]
theorem swoK : SWO (ltOf fun x y : EvV => cmpL x.k y.k) where
  irrefl x := by rw [ltK]; exact eL_irrefl _
  trans x y z h1 h2 := by rw [ltK] at *; exact eL_trans _ _ _ h1 h2
  ntrans x y z h1 h2 := by
    rw [ltK] at *
    cases h : Op.bytesLess x.k z.k with
    | false => rfl
    | true =>
      cases h3 : Op.bytesLess z.k y.k with
      | true => have := eL_trans _ _ _ h h3; rw [h1] at this; cases this
      | false => have := eL_total _ _ h3 h2; rw [this] at h; rw [h1] at h; cases h
instance : Inhabited EvV := ⟨⟨0, [], ByteArray.empty, false⟩⟩
theorem flat_get {α : Type} [Inhabited α] {enc : α → List Value} {k : Nat} (hk : ∀ x, (enc x).length = k) (h0 : 0 < k) : ∀ (l : List α) (t : Nat), t < l.length * k → (l.flatMap enc)[t]? = some ((enc (l[t / k]?.getD default))[t % k]!) := by
  intro l
  induction l with
  | nil => intro t h; simp at h
  | cons a l ih =>
    intro t h
    rw [List.flatMap_cons]
    rcases Nat.lt_or_ge t k with q | q
    · rw [List.getElem?_append_left (by rw [hk]; exact q), Nat.div_eq_of_lt q, Nat.mod_eq_of_lt q, List.getElem?_eq_getElem (by rw [hk]; exact q)]
      simp only [List.getElem?_cons_zero, Option.getD_some]
      rw [getElem!_pos _ t (by rw [hk]; exact q)]
    · rw [List.getElem?_append_right (by rw [hk]; exact q), hk, ih (t - k) (by rw [List.length_cons, Nat.add_mul, Nat.one_mul] at h; omega)]
      have e1 : t / k = (t - k) / k + 1 := by
        have := Nat.add_div_right (t - k) h0
        rw [Nat.sub_add_cancel q] at this; exact this
      have e2 : t % k = (t - k) % k := by rw [Nat.mod_eq_sub_mod q]
      rw [e1, e2, List.getElem?_cons_succ]
theorem flatK_toList {α : Type} [Inhabited α] {enc : α → List Value} {k : Nat} (hk : ∀ x, (enc x).length = k) (h0 : 0 < k) (d : Array α) : (flatK enc k d).toList = d.toList.flatMap enc := by
  have hlen : (d.toList.flatMap enc).length = d.size * k := by
    have : ∀ l : List α, (l.flatMap enc).length = l.length * k := by
      intro l
      induction l with
      | nil => simp
      | cons a l ih => rw [List.flatMap_cons, List.length_append, ih, hk, List.length_cons, Nat.add_mul]; omega
    rw [this]; rfl
  apply List.ext_getElem?
  intro t
  rcases Nat.lt_or_ge t (d.size * k) with q | q
  · rw [flat_get hk h0 _ _ (by simpa using q)]
    have hs : t < (flatK enc k d).toList.length := by simpa using q
    rw [List.getElem?_eq_getElem hs, Array.getElem_toList, ← getElem!_pos (flatK enc k d) t (by simpa using q), get_flatK _ _ _ _ q]
    have hd : t / k < d.size := Nat.div_lt_of_lt_mul (by rw [Nat.mul_comm]; exact q)
    congr 3
    rw [getElem!_pos d _ hd, List.getElem?_eq_getElem (by simpa using hd)]
    simp
  · rw [List.getElem?_eq_none (by simpa using q), List.getElem?_eq_none (by rw [hlen]; exact q)]
theorem heap_putK {w : World} {g m : Nat} {os : Array Obj} {cur F : Array Value} {e : TypeId} {fr : Nat × Nat} (hb : w.heap[g]? = some (.cells cur e fr)) :
    (grow (putRow id (Sort.ahead w m) g 0 F) os).heap[g]? = some (.cells (putCells id 0 F cur) e fr) := by
  have hg : g < w.heap.size := (Array.getElem?_eq_some_iff.1 hb).1
  rw [heap_grow_old _ _ (by simpa using hg)]
  simp [putRow, mapBlock, Sort.ahead, Array.getElem?_modify, hb, onCells]
theorem grownBy_putK {w : World} {g m : Nat} {os : Array Obj} (F : Array Value) : w.grownBy (grow (putRow id (Sort.ahead w m) g 0 F) os) (some g) := by
  refine ⟨rfl, rfl, rfl, by simp, fun k hk hne => ?_⟩
  rw [heap_grow_old _ _ (by simpa using hk)]
  have : g ≠ k := fun e => hne (by rw [e])
  simp [putRow, mapBlock, Sort.ahead, Array.getElem?_modify, this]
theorem take_putK (cur F : Array Value) (h : F.size ≤ cur.size) : (putCells id 0 F cur).toList.take F.size = F.toList := by
  apply List.ext_getElem?
  intro j
  by_cases hj : j < F.size
  · rw [List.getElem?_take_of_lt hj, Array.getElem?_toList]
    simp [putCells, hj, show j < cur.size by omega]
  · rw [List.getElem?_take_eq_none (by omega), List.getElem?_eq_none (by simp; omega)]
theorem cs_len (x : EvV) : (EvV.cs x).length = 4 := rfl
theorem cs_one (x : EvV) : ∀ v ∈ EvV.cs x, v.oneCell' = true := by
  intro v hv
  simp [EvV.cs] at hv
  rcases hv with rfl | rfl | rfl | rfl <;> rfl
/-- What a new row holds, as a sort wants it. -/
theorem holds4 {w : World} {g : Nat} {cur : Array Value} {e : TypeId} {xs : List EvV} (hb : w.heap[g]? = some (.cells cur e (0, 0))) (ht : cur.toList.take (xs.length * 4) = xs.flatMap EvV.cs) : HoldsK EvV.cs 4 w g 0 xs.toArray := by
  intro j hj
  have hj' : j < xs.length * 4 := by simpa using hj
  have hl : (flatK EvV.cs 4 xs.toArray).toList = xs.flatMap EvV.cs := flatK_toList cs_len (by omega) xs.toArray
  have h1 : (cur.toList.take (xs.length * 4))[j]? = (flatK EvV.cs 4 xs.toArray).toList[j]? := by rw [ht, hl]
  rw [List.getElem?_take_of_lt hj', Array.getElem?_toList, Array.getElem?_toList, Array.getElem?_eq_getElem hj] at h1
  refine ⟨?_, by simp [World.frozen?, hb]⟩
  simp only [World.cell?, hb, Nat.zero_add]
  simp only [Option.isSome_none, Bool.false_eq_true, if_false]
  rw [h1, getElem!_pos _ j hj]; rfl

set_option maxRecDepth 100000 in
set_option maxHeartbeats 2000000 in
theorem sortedFunc (Bm ob b nn : Nat) (D0 : DataW Value) (w : World) (hBm : Bm < w.heap.size) (hm : w.cell? ⟨Bm, ob, none⟩ = some (.map (some b))) (hown : w.ownsMap Try.prog 9 Rv b nn D0)
    (hN : Maps.size D0 ≤ 1000000) (hnone : ∀ W : World, Calls Try.prog 44 #[.slice none 0 0, .func (.func 32) #[] #[]] W fun e w' => e = .returned (.tuple #[]) ∧ Below W.heap.size W w') :
    Calls Try.prog 30 #[.func (.func 45) #[] #[.pointer (some ⟨Bm, ob, none⟩)], .func (.func 32) #[] #[]] w fun e w' => ∃ (v : Value) (xs ys : List EvV), e = .returned v ∧ (∃ ps, AllOf D0 ps ∧ xs = ps.map (·.2)) ∧
      PermIn 0 xs.length xs.toArray ys.toArray ∧ SortedIn (ltOf fun x y : EvV => cmpL x.k y.k) 0 xs.length ys.toArray ∧
      w'.ownsRow w.heap.size 40 4 v ys.length (ys.flatMap EvV.cs) ∧ (v = .slice none 0 0 ↔ ys = []) ∧ Below w.heap.size w w' := by
  have e44 : ∀ args w, (callFunc 44 args).run Try.prog w = .ok (.enter 44 args) w := enters_of Try.func44 (by kernel_rfl) rfl
  have e32 : ∀ args w, (callFunc 32 args).run Try.prog w = .ok (.enter 32 args) w := enters_of Try.func32 (by kernel_rfl) rfl
  have e45 : ∀ args w, (callFunc 45 args).run Try.prog w = .ok (.enter 45 args) w := enters_of Try.func45 (by kernel_rfl) rfl
  have hsort : ∀ (blk cap : Nat) (d : Array EvV) (W : World), HoldsK EvV.cs 4 W blk 0 d → blk < W.heap.size → d.size < 4611686018427387904 →
      Calls Try.prog 44 #[.slice (some ⟨blk, 0, none⟩) d.size cap, .func (.func 32) #[] #[]] W fun e w' => e = .returned (.tuple #[]) ∧ ∃ d' n os, PermIn 0 d.size d d' ∧ SortedIn (ltOf fun x y : EvV => cmpL x.k y.k) 0 d.size d' ∧ w' = sortWorldK EvV.cs 4 W blk 0 n d' os :=
    fun blk cap d W hH hblk hsz => AnyQ.slices_SortFunc (ρ := sortEv_ren) sortEv 4 Try.isAgg40 Try.sizeOf40 EvV.cs cs_len cs_one (fun x y : EvV => cmpL x.k y.k) swoK 32 #[] blk 0 cap d W e32 (fun _ _ _ _ x y => closure x y _) hH hblk hsz
  obtain ⟨F, hFe⟩ : ∃ F, F = Fence.wide := ⟨_, rfl⟩
  obtain ⟨n, hn⟩ : ∃ n : Nat, 10 ≤ n := ⟨10, Nat.le_refl _⟩
  rw [← callsIn_wide (n := n), ← hFe]
  have hro : F.round = none := by rw [hFe]; rfl
  have hfn : ∀ f, F.fn f := by rw [hFe]; intro f; trivial
  have hin : ∀ {m : Nat} {f : FuncId} {args : Array Value} {W : World} {R : Ending → World → Prop}, Calls Try.prog f args W R → CallsIn F m Try.prog f args W R := by rw [hFe]; exact fun h => callsIn_wide.2 h
  have h1 : 1 ≤ n := by omega
  have h43 := hfn 43
  have h44 := hfn 44
  clear hFe
  refine callsIn_of_wp Try.func30 rfl (hfn _) ?_ hro
  simp only [Try.ntmps30, List.size_toArray, List.length_cons, List.length_nil, Nat.reduceAdd, Nat.reduceSub, Array.replicate_succ, Array.replicate_zero, List.push_toArray, List.append_toArray, List.nil_append, List.cons_append]
  gi_wp2_with (gi_at_call 43; refine (collect F (n - 1) (hfn _) (hfn _) hro (by omega) 45 _ (hfn _) e45 _ _ (Maps.size D0) (by have : maxLen = 9223372036854775807 := rfl; omega) (by omega) _ (values_stops F (n - 1 - 1 - 1) (hfn _) hro (by omega) Bm ob b nn D0 w hBm hm hown)).mono ?_; rintro e W ⟨v, xs, rfl, hS, hrow, hnil, hxl, hb⟩)
  rcases hrow.2 with ⟨rfl, hz⟩ | ⟨gb, cap, cur, rfl, hbase, hgb, r1, r2, r3, r4⟩
  · -- nothing came
    have hxs : xs = [] := List.eq_nil_of_length_eq_zero hz
    subst hxs
    gi_wp2_with (gi_at_call 44; refine (hin (hnone W)).mono ?_; rintro e w' ⟨rfl, hb2⟩)
    go_ret
    exact ⟨_, [], [], rfl, hS, ⟨rfl, fun _ _ => rfl, List.Perm.refl _⟩, fun i j h1 h2 h3 => by simp at h3, World.ownsRow_nil _ _ _ _, by simp, hb.trans (hb2.mono hb.size)⟩
  · have hH : HoldsK EvV.cs 4 W gb 0 xs.toArray := holds4 hgb r4
    have hgl : gb < W.heap.size := (Array.getElem?_eq_some_iff.1 hgb).1
    have hsz : xs.toArray.size < 4611686018427387904 := by simp; omega
    have cS := hsort gb cap xs.toArray W hH hgl hsz
    clear hsort
    gi_wp2_with (gi_at_call 44; refine (hin cS).mono ?_; rintro e w' ⟨rfl, d', m, os, hp, hs, rfl⟩)
    go_ret
    have hds : d'.size = xs.length := by have := hp.1; simpa using this
    have hda : d'.toList.toArray = d' := by simp
    refine ⟨_, xs, d'.toList, rfl, hS, by rw [hda]; simpa using hp, by rw [hda]; simpa using hs, ?_, ?_, hb.grown (grownBy_putK _) hb.size (fun j hj => by cases hj; exact hbase)⟩
    · have hF : (flatK EvV.cs 4 d').size = xs.length * 4 := by rw [size_flatK, hds]
      refine ⟨by rw [flat_len], .inr ⟨gb, cap, _, by simp [hds], hbase, heap_putK hgb, by simpa [hds] using r1, r2, by simp [putCells, r3], ?_⟩⟩
      have := take_putK cur (flatK EvV.cs 4 d') (by rw [hF, r3]; exact Nat.mul_le_mul_right 4 r1)
      rw [hF, flatK_toList cs_len (by omega) d'] at this
      simpa [hds] using this
    · constructor
      · intro h; cases h
      · intro h
        have : xs.length = 0 := by rw [← hds, ← Array.length_toList, h]; rfl
        have : xs = [] := List.eq_nil_of_length_eq_zero this
        exact (hnil.mpr this)
end Go.Proofs.Ytcjcbcmapjcfnaa
