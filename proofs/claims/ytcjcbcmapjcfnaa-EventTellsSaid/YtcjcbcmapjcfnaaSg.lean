/- Calls that make room.
   No condition: these are laws of the clean machine and of this program. -/
import Derived.Test.YtcjcbcmapjcfnaaVk
import Derived.Test.YtcjcbcmapjcfnaaSa
namespace Go.Proofs.Ytcjcbcmapjcfnaa.V
open Go
set_option linter.unusedVariables false
set_option linter.unusedSimpArgs false
set_option maxRecDepth 100000
theorem delK_37 {h : Heap} {b n i j : Nat} {cs : List Value} (hcs : cs.length = n * 3) (hco : cs.all cellOk = true) (hij : i < j) (hj : j ≤ n) (hn : n < 9223372036854775808) :
    EvO EK 37 [.slice (some ⟨b, 0, some 0⟩) n n, .int .i64 (i : Int), .int .i64 (j : Int)] [[⟨b, .cells cs 44⟩]] h (fun v S h1 => v = .slice (some ⟨b, 0, some 0⟩) (i + (n - j)) n ∧ ∃ cs', S = [[⟨b, .cells cs' 44⟩]] ∧ cs'.take ((i + (n - j)) * 3) = cs.take (i * 3) ++ cs.drop (j * 3)) := by
  have hu : EK.P.underlying 33 = some (.slice 44) := by kernel_rfl
  have hk : sz EK.P 44 = some 3 := by kernel_rfl
  have hby : bytesOf EK.P 44 = some 40 := by kernel_rfl
  have hz : zeroOf EK.P 44 = some (Value.agg #[Value.string { data := #[] }, Value.string { data := #[] }, Value.int IntKind.i64 0]) := by kernel_rfl
  refine evo_of rfl (show EK.P.funcs[37]? = some Go.Proofs.Try.f37 by kernel_rfl) rfl rfl ?_
  repeat refine go_seq ?_
  refine go_region ?_
  refine gAc rfl rfl ?_
  refine go_nil ?_
  repeat refine go_seq ?_
  refine go_region ?_
  refine gM rfl rfl ?_
  refine gM rfl rfl ?_
  refine gM rfl rfl ?_
  refine gM rfl rfl ?_
  refine gr (v := .int .i64 ((n : Int))) rfl (r_len rfl (os1 (ot rfl) os0) (fun _ _ => by kernel_rfl)) ?_
  refine gr rfl (r_sliceh (ot rfl) (oo (ot rfl)) (oo (ot rfl)) (oo (ot rfl)) (fun h' hf hs => sl_max (k := 3) (m := n) (hi := j) (lo := i) hu hk (bound_some (Nat.le_refl _)) (bound_some hj) (bound_some (Nat.le_of_lt hij)) hj (sa_none (by omega)))) ?_
  refine go_nil ?_
  repeat refine go_seq ?_
  refine go_region ?_
  refine gM rfl rfl ?_
  refine gM rfl rfl ?_
  refine gr rfl (r_bin (ot rfl) (ot rfl) rfl) ?_
  refine go_nil ?_
  repeat refine go_seq ?_
  refine g_cond (b := ((i : Int) == (j : Int))) (ot rfl) (fun hc => absurd (eq_of_beq hc) (by omega)) (fun _ => ?_)
  refine go_skip ?_
  repeat refine go_seq ?_
  refine go_region ?_
  refine gM rfl rfl ?_
  refine gr (v := .int .i64 ((n : Int))) rfl (r_len rfl (os1 (ot rfl) os0) (fun _ _ => by kernel_rfl)) ?_
  refine gA rfl rfl ?_
  refine go_nil ?_
  have hfin := fun zs hz => del_cells (k := 3) (zs := zs) hcs hij hj hz
  have hlen2 : (repZ (Value.agg #[Value.string { data := #[] }, Value.string { data := #[] }, Value.int IntKind.i64 0]).cells.toList (n - (i + (n - j)))).length = (n - (i + (n - j))) * 3 := by rw [repZ_len]; rfl
  by_cases hjn : j < n
  ·
    repeat refine go_seq ?_
    refine go_regions (L := [(0, []), (1, []), (2, []), (3, []), (4, []), (5, []), (6, []), (7, [])]) (by kernel_rfl) (by kernel_rfl) (fun _ => rfl) ?_
    refine go_sop rfl rfl ?_
    refine gM rfl rfl ?_
    refine go_nil ?_
    refine go_sop rfl rfl ?_
    refine gM rfl rfl ?_
    refine go_nil ?_
    refine go_sop rfl rfl ?_
    refine gr rfl (r_sliceh (ot rfl) on (oo (ot rfl)) on (fun h' hf hs => sl_any (k := 3) (lo := 0) (hi := i) hu hk (bound_some (by omega)) rfl (by omega) (slack_own (hs.blk ⟨b, .cells cs 44⟩ List.mem_cons_self).1) (sa_slack (by omega)))) ?_
    refine go_cast (.slice (some ⟨b, 0, some 0⟩) i n) rfl ?_
    refine go_nil ?_
    refine go_sop rfl rfl ?_
    refine gM rfl rfl ?_
    refine go_nil ?_
    refine go_sop rfl rfl ?_
    refine gM rfl rfl ?_
    refine go_nil ?_
    refine go_sop rfl rfl ?_
    refine gr rfl (r_sliceh (ot rfl) (oo (ot rfl)) on on (fun h' hf hs => sl_any (k := 3) (lo := j) (hi := n) hu hk rfl (bound_some hj) (Nat.le_refl _) (slack_own (hs.blk ⟨b, .cells cs 44⟩ List.mem_cons_self).1) (sa_slack hjn))) ?_
    refine go_nil ?_
    refine go_sop rfl rfl ?_
    refine g_wo (v := .slice (some ⟨b, 0, some 0⟩) (i + (n - j)) n) (own' := [⟨b, .cells (splice cs (i * 3) (cs.drop (j * 3))) 44⟩]) (fun e he => by cases he; rfl) (fun fr h' hf ag hs => ?_) ?_
    · have hs : Has [⟨b, .cells cs 44⟩] h h' hf := hs
      obtain ⟨hb, hlim⟩ := hs.blk _ List.mem_cons_self
      have hf1 := first_blk (k := 3) (n := n - j) (len := n - j) (c := n - j) (o := 0 + j * 3) (.inr rfl) hb (by omega)
      have hd : (cs.drop (0 + j * 3)).take ((n - j) * 3) = cs.drop (j * 3) := by rw [Nat.zero_add]; exact List.take_of_length_le (by rw [List.length_drop]; omega)
      rw [hd] at hf1
      exact ⟨_, opV_append ((os1 (ot rfl) (os1 (ot rfl) os0)) fr ag rfl) (app_in (k := 3) rfl hu hk hby hz (by kernel_rfl) rfl hf1 (by rw [List.length_drop]; omega) (by omega) hb hlim (by omega) (List.all_eq_true.mpr fun v hv => List.all_eq_true.mp hco v (List.mem_of_mem_drop hv)) (by omega)), hs.storeH _⟩
    refine go_nil ?_
    refine go_sop rfl rfl ?_
    refine gA rfl rfl ?_
    refine go_nil ?_
    refine go_snil ?_
    have hlo : (i + (n - j)) < n := by omega
    repeat refine go_seq ?_
    refine go_region ?_
    refine gM rfl rfl ?_
    refine gM rfl rfl ?_
    refine gr (v := .int .i64 ((((i + (n - j)) : Nat) : Int))) rfl (r_len rfl (os1 (ot rfl) os0) (fun _ _ => by kernel_rfl)) ?_
    refine gM rfl rfl ?_
    refine gr rfl (r_sliceh (ot rfl) (oo (ot rfl)) (oo (ot rfl)) on (fun h' hf hs => sl_any (k := 3) (lo := (i + (n - j))) (hi := n) hu hk (bound_some (Nat.le_refl _)) (bound_some (Nat.le_of_lt hlo)) (Nat.le_refl _) (slack_own (hs.blk _ List.mem_cons_self).1) (sa_slack hlo))) ?_
    refine g_wr (v := .tuple #[]) (o' := .cells (splice (splice cs (i * 3) (cs.drop (j * 3))) (0 + (i + (n - j)) * 3) (repZ (Value.agg #[Value.string { data := #[] }, Value.string { data := #[] }, Value.int IntKind.i64 0]).cells.toList (n - (i + (n - j))))) 44) (fun e he => by cases he) (fun fr h' hf ag hs => ?_) ?_
    · obtain ⟨hb, hlim⟩ := hs.blk _ List.mem_cons_self
      have hl1 : (splice cs (i * 3) (cs.drop (j * 3))).length = cs.length := splice_len _ _ _ (by rw [List.length_drop]; omega)
      exact opV_clear ((os1 (ot rfl) os0) fr ag rfl) (clear_own (k := 3) (.inr rfl) rfl hu hz rfl (by omega) hb hlim (by rw [hl1]; omega) (by kernel_rfl))
    refine go_nil ?_
    repeat refine go_seq ?_
    refine go_region ?_
    refine gM rfl rfl ?_
    refine gA rfl rfl ?_
    refine go_nil ?_
    exact g_ret (rst rfl rs0) (fun h1 hf hs => ⟨[[⟨b, _⟩]], _, hf, hs.ext, hs.wf, hs.rebase, ndb (by intro q; cases q) nd0, rfl, _, rfl, hfin _ hlen2⟩)
  · obtain rfl : j = n := by omega
    repeat refine go_seq ?_
    refine go_regions (L := [(0, []), (1, []), (2, []), (3, []), (4, []), (5, []), (6, []), (7, [])]) (by kernel_rfl) (by kernel_rfl) (fun _ => rfl) ?_
    refine go_sop rfl rfl ?_
    refine gM rfl rfl ?_
    refine go_nil ?_
    refine go_sop rfl rfl ?_
    refine gM rfl rfl ?_
    refine go_nil ?_
    refine go_sop rfl rfl ?_
    refine gr rfl (r_sliceh (ot rfl) on (oo (ot rfl)) on (fun h' hf hs => sl_any (k := 3) (lo := 0) (hi := i) hu hk (bound_some (by omega)) rfl (by omega) (slack_own (hs.blk ⟨b, .cells cs 44⟩ List.mem_cons_self).1) (sa_slack (by omega)))) ?_
    refine go_cast (.slice (some ⟨b, 0, some 0⟩) i j) rfl ?_
    refine go_nil ?_
    refine go_sop rfl rfl ?_
    refine gM rfl rfl ?_
    refine go_nil ?_
    refine go_sop rfl rfl ?_
    refine gM rfl rfl ?_
    refine go_nil ?_
    refine go_sop rfl rfl ?_
    refine gr (v := .slice (some ⟨0, 0, some 2⟩) 0 0) rfl (r_sliceh (ot rfl) (oo (ot rfl)) on on (fun h' hf hs => by have := sl_any (k := 3) (len := j) (c := j) (lo := j) (hi := j) (a := ⟨b, 0, some 0⟩) (a' := ⟨0, 0, some 2⟩) (o1 := some (.int .i64 (j : Int))) (o2 := none) hu hk rfl (bound_some (Nat.le_refl _)) (Nat.le_refl _) (slack_own (hs.blk ⟨b, .cells cs 44⟩ List.mem_cons_self).1) (by unfold sliceAddr; dsimp only; rw [Nat.beq_refl]; rfl); rw [Nat.sub_self] at this; exact this)) ?_
    refine go_nil ?_
    refine go_sop rfl rfl ?_
    refine g_wo (v := .slice (some ⟨b, 0, some 0⟩) (i + (j - j)) j) (own' := [⟨b, .cells (splice cs (i * 3) (cs.drop (j * 3))) 44⟩]) (fun e he => by cases he; rfl) (fun fr h' hf ag hs => ?_) ?_
    · have hs : Has [⟨b, .cells cs 44⟩] h h' hf := hs
      have hd : splice cs (i * 3) (cs.drop (j * 3)) = cs := by rw [List.drop_eq_nil_of_le (by omega)]; exact splice_nil _ _ (by omega)
      rw [hd, Nat.sub_self, Nat.add_zero]
      exact ⟨_, opV_append ((os1 (ot rfl) (os1 (ot rfl) os0)) fr ag rfl) (app_in0 (k := 3) rfl hu hk hby hz (by kernel_rfl) rfl (by unfold firstV; rw [Nat.zero_mul]; rfl) (by omega)), hs⟩
    refine go_nil ?_
    refine go_sop rfl rfl ?_
    refine gA rfl rfl ?_
    refine go_nil ?_
    refine go_snil ?_
    have hlo : (i + (j - j)) < j := by omega
    repeat refine go_seq ?_
    refine go_region ?_
    refine gM rfl rfl ?_
    refine gM rfl rfl ?_
    refine gr (v := .int .i64 ((((i + (j - j)) : Nat) : Int))) rfl (r_len rfl (os1 (ot rfl) os0) (fun _ _ => by kernel_rfl)) ?_
    refine gM rfl rfl ?_
    refine gr rfl (r_sliceh (ot rfl) (oo (ot rfl)) (oo (ot rfl)) on (fun h' hf hs => sl_any (k := 3) (lo := (i + (j - j))) (hi := j) hu hk (bound_some (Nat.le_refl _)) (bound_some (Nat.le_of_lt hlo)) (Nat.le_refl _) (slack_own (hs.blk _ List.mem_cons_self).1) (sa_slack hlo))) ?_
    refine g_wr (v := .tuple #[]) (o' := .cells (splice (splice cs (i * 3) (cs.drop (j * 3))) (0 + (i + (j - j)) * 3) (repZ (Value.agg #[Value.string { data := #[] }, Value.string { data := #[] }, Value.int IntKind.i64 0]).cells.toList (j - (i + (j - j))))) 44) (fun e he => by cases he) (fun fr h' hf ag hs => ?_) ?_
    · obtain ⟨hb, hlim⟩ := hs.blk _ List.mem_cons_self
      have hl1 : (splice cs (i * 3) (cs.drop (j * 3))).length = cs.length := splice_len _ _ _ (by rw [List.length_drop]; omega)
      exact opV_clear ((os1 (ot rfl) os0) fr ag rfl) (clear_own (k := 3) (.inr rfl) rfl hu hz rfl (by omega) hb hlim (by rw [hl1]; omega) (by kernel_rfl))
    refine go_nil ?_
    repeat refine go_seq ?_
    refine go_region ?_
    refine gM rfl rfl ?_
    refine gA rfl rfl ?_
    refine go_nil ?_
    exact g_ret (rst rfl rs0) (fun h1 hf hs => ⟨[[⟨b, _⟩]], _, hf, hs.ext, hs.wf, hs.rebase, ndb (by intro q; cases q) nd0, rfl, _, rfl, hfin _ hlen2⟩)

theorem insCK_38 {α : Type} {R : Rep α} (hkR : 3 = R.k) {h : Heap} {t : List Blk} {q : Option Addr} {xs : List α} {x : α} {row : List Value} {bv Tv : Nat} (a : AccR R 44 h t (.slice q xs.length xs.length) xs) (hc : R.C h row x) (hr : roomy (xs.length + 1) 40 = true) :
    EvO EK 38 [.slice q xs.length xs.length, .int .i64 (xs.length : Int), .slice (some ⟨bv, 0, none⟩) 1 1] [t, [⟨bv, .cells row Tv⟩]] h (fun v S h1 => ∃ q' t', v = .slice q' (xs ++ [x]).length (xs ++ [x]).length ∧ S = [t'] ∧ AccR R 44 h1 t' (.slice q' (xs ++ [x]).length (xs ++ [x]).length) (xs ++ [x])) := by
  have hu : EK.P.underlying 33 = some (.slice 44) := by kernel_rfl
  have hk : sz EK.P 44 = some 3 := by kernel_rfl
  have hby : bytesOf EK.P 44 = some 40 := by kernel_rfl
  have hz : zeroOf EK.P 44 = some (Value.agg #[Value.string { data := #[] }, Value.string { data := #[] }, Value.int IntKind.i64 0]) := by kernel_rfl
  obtain ⟨v12, h12⟩ := a.cutEnd hu hk
  have hrk : row.length = 3 := by rw [R.len hc, hkR]
  refine evo_of rfl (show EK.P.funcs[38]? = some Go.Proofs.Try.f38 by kernel_rfl) rfl rfl ?_
  repeat refine go_seq ?_
  refine go_region ?_
  refine gAc rfl rfl ?_
  refine go_nil ?_
  repeat refine go_seq ?_
  refine go_region ?_
  refine gM rfl rfl ?_
  refine gM rfl rfl ?_
  refine gr rfl (r_sliceh (ot rfl) (oo (ot rfl)) on on (fun h' hf hs => h12 _ _ h' hf hs (fun e he => List.mem_flatten.mpr ⟨t, List.mem_cons_self, he⟩))) ?_
  refine go_nil ?_
  repeat refine go_seq ?_
  refine go_region ?_
  refine gM rfl rfl ?_
  refine gr (v := .int .i64 (1)) rfl (r_len rfl (os1 (ot rfl) os0) (fun _ _ => by kernel_rfl)) ?_
  refine gA rfl rfl ?_
  refine go_nil ?_
  repeat refine go_seq ?_
  refine go_region ?_
  refine gM rfl rfl ?_
  refine gr rfl (r_bin (ot rfl) (oc rfl) rfl) ?_
  refine go_nil ?_
  repeat refine go_seq ?_
  refine g_cond (b := ((1 : Int) == 0)) (ot rfl) (fun hc => absurd hc (by decide)) (fun _ => ?_)
  refine go_skip ?_
  repeat refine go_seq ?_
  refine go_region ?_
  refine gM rfl rfl ?_
  refine gr (v := .int .i64 ((xs.length : Int))) rfl (r_len rfl (os1 (ot rfl) os0) (fun _ _ => by kernel_rfl)) ?_
  refine gA rfl rfl ?_
  refine go_nil ?_
  repeat refine go_seq ?_
  refine go_region ?_
  refine gM rfl rfl ?_
  refine gM rfl rfl ?_
  refine gr rfl (r_bin (ot rfl) (ot rfl) rfl) ?_
  refine go_nil ?_
  repeat refine go_seq ?_
  refine g_cond (b := ((xs.length : Int) == (xs.length : Int))) (ot rfl) (fun _ => ?_) (fun hc => absurd hc (by simp))
  repeat refine go_seq ?_
  refine go_region ?_
  refine gM rfl rfl ?_
  refine gM rfl rfl ?_
  refine gs_app (rows2 := [row]) (ys := [x]) (R := R) (n := 1) rfl (os1 (ot rfl) (os1 (ot rfl) os0)) rfl hu hk hkR (by decide) hby hz (by kernel_rfl) (by kernel_rfl) rfl rfl (first_m (mem_seg 1 rfl) hrk (by decide)) (Rws.one hc) a hr (fun p tl f => ?_)
  refine gA rfl rfl ?_
  refine go_nil ?_
  refine g_ret (rst rfl rs0) (fun h1 hf hs => ?_)
  obtain ⟨hf2, hs2⟩ := hs.sub (own' := [tl].flatten) (sub_flat (List.Sublist.cons_cons _ (List.nil_sublist _)))
  exact ⟨[tl], hf2, hf2, hs2.ext, hs2.wf, hs2.rebase, ndt f nd0, p, tl, rfl, rfl, f.ext hs2.ext.kn⟩
theorem insA_38 (b vb n i : Nat) (cs vr : List Value) (Tv : TypeId) (h : Heap) (hw : Wf h) (hb : h.get b = some (.cells cs 44)) (hv : h.get vb = some (.cells vr Tv)) (hcs : cs.length = n * 3) (hvl : vr.length = 3) (hi : i < n) (hr : roomy (n + 1) 40 = true) (hk0 : 0 < 3) (hco : cs.all cellOk = true) (hvo : vr.all cellOk = true) :
    EvO EK 38 [.slice (some ⟨b, 0, none⟩) n n, .int .i64 (i : Int), .slice (some ⟨vb, 0, none⟩) 1 1] [] h (fun v S h1 => ∃ b2, v = .slice (some ⟨b2, 0, some 0⟩) (n + 1) (n + 1) ∧ S = [[⟨b2, .cells (insC 3 i cs vr) 44⟩]]) := by
  have hu : EK.P.underlying 33 = some (.slice 44) := by kernel_rfl
  have hk : sz EK.P 44 = some 3 := by kernel_rfl
  have hby : bytesOf EK.P 44 = some 40 := by kernel_rfl
  have hz : zeroOf EK.P 44 = some (Value.agg #[Value.string { data := #[] }, Value.string { data := #[] }, Value.int IntKind.i64 0]) := by kernel_rfl
  have hn63 := roomy_lt hr
  have hroom : ((n + 1) + (n + 1) / 4 + 1024) * 40 ≤ 281474976710656 := by
    unfold roomy at hr
    rw [Bool.and_eq_true] at hr
    exact Nat.le_of_ble_eq_true hr.1
  have w1 : IntKind.i64.wrap ((n : Int) + 1) = ((n + 1 : Nat) : Int) := by rw [wrap_id (by omega) (by omega)]; omega
  have w2 : IntKind.i64.wrap (((n + 1 : Nat) : Int) - (i : Int)) = ((n + 1 - i : Nat) : Int) := by rw [wrap_id (by omega) (by omega)]; omega
  have w3 : IntKind.i64.wrap ((i : Int) + 1) = ((i + 1 : Nat) : Int) := by rw [wrap_id (by omega) (by omega)]; omega
  have hin : i + (n + 1 - i) = n + 1 := by omega
  have hzl : (repZ (Value.agg #[Value.string { data := #[] }, Value.string { data := #[] }, Value.int IntKind.i64 0]).cells.toList (n + 1 - i)).length = (n + 1 - i) * 3 := by rw [repZ_len]; rfl
  have htl : (cs.take (i * 3)).length = i * 3 := by rw [List.length_take]; omega
  have hdl : (cs.drop (i * 3)).length = (n - i) * 3 := by rw [List.length_drop]; omega
  have hm1 : Nat.min 1 (n + 1 - i) = 1 := Nat.min_eq_left (by omega)
  have hm2 : Nat.min (n - i) (n + 1 - (i + 1)) = n - i := Nat.min_eq_left (by omega)
  have hpos : 0 < (n - i) * 3 := by omega
  have hfin := insA_cells (k := 3) (zs := repZ (Value.agg #[Value.string { data := #[] }, Value.string { data := #[] }, Value.int IntKind.i64 0]).cells.toList (n + 1 - i)) hcs hvl hi hzl
  refine evo_of rfl (show EK.P.funcs[38]? = some Go.Proofs.Try.f38 by kernel_rfl) rfl rfl ?_
  repeat refine go_seq ?_
  refine go_region ?_
  refine gAc rfl rfl ?_
  refine go_nil ?_
  repeat refine go_seq ?_
  refine go_region ?_
  refine gM rfl rfl ?_
  refine gM rfl rfl ?_
  refine gr rfl (r_sliceh (ot rfl) (oo (ot rfl)) on on (fun h' hf hs => sl_any (k := 3) (lo := i) (hi := n) hu hk rfl (bound_some (Nat.le_of_lt hi)) (Nat.le_refl _) rfl (sa_none hi))) ?_
  refine go_nil ?_
  repeat refine go_seq ?_
  refine go_region ?_
  refine gM rfl rfl ?_
  refine gr (v := .int .i64 (1)) rfl (r_len rfl (os1 (ot rfl) os0) (fun _ _ => by kernel_rfl)) ?_
  refine gA rfl rfl ?_
  refine go_nil ?_
  repeat refine go_seq ?_
  refine go_region ?_
  refine gM rfl rfl ?_
  refine gr rfl (r_bin (ot rfl) (oc rfl) rfl) ?_
  refine go_nil ?_
  repeat refine go_seq ?_
  refine g_cond (b := ((1 : Int) == 0)) (ot rfl) (fun hc => absurd hc (by decide)) (fun _ => ?_)
  refine go_skip ?_
  repeat refine go_seq ?_
  refine go_region ?_
  refine gM rfl rfl ?_
  refine gr (v := .int .i64 ((n : Int))) rfl (r_len rfl (os1 (ot rfl) os0) (fun _ _ => by kernel_rfl)) ?_
  refine gA rfl rfl ?_
  refine go_nil ?_
  repeat refine go_seq ?_
  refine go_region ?_
  refine gM rfl rfl ?_
  refine gM rfl rfl ?_
  refine gr rfl (r_bin (ot rfl) (ot rfl) rfl) ?_
  refine go_nil ?_
  repeat refine go_seq ?_
  refine g_cond (b := ((i : Int) == (n : Int))) (ot rfl) (fun hc => absurd (eq_of_beq hc) (by omega)) (fun _ => ?_)
  refine go_skip ?_
  repeat refine go_seq ?_
  refine go_region ?_
  refine gM rfl rfl ?_
  refine gM rfl rfl ?_
  refine gr rfl (r_bin (ot rfl) (ot rfl) rfl) ?_
  refine go_cast (.int .i64 (((n + 1 : Nat) : Int))) (congrArg (Value.int .i64) w1) ?_
  refine gM rfl rfl ?_
  refine gr (v := .int .i64 (n : Int)) rfl (r_cap rfl (os1 (ot rfl) os0) (by kernel_rfl)) ?_
  refine gr rfl (r_bin (ot rfl) (ot rfl) rfl) ?_
  refine go_nil ?_
  repeat refine go_seq ?_
  refine g_cond (b := decide (((n + 1 : Nat) : Int) > (n : Int))) (ot rfl) (fun _ => ?_) (fun hc => absurd (of_decide_eq_false hc) (by omega))
  repeat refine go_seq ?_
  refine go_region ?_
  refine gM rfl rfl ?_
  refine gM rfl rfl ?_
  refine gr rfl (r_sliceh (ot rfl) on (oo (ot rfl)) on (fun h' hf hs => sl_any (k := 3) (lo := 0) (hi := i) hu hk (bound_some (Nat.le_of_lt hi)) rfl (Nat.le_of_lt hi) rfl (sa_none (by omega)))) ?_
  refine go_cast (.slice (some ⟨b, 0, none⟩) i n) rfl ?_
  refine gM rfl rfl ?_
  refine gM rfl rfl ?_
  refine gr rfl (r_bin (ot rfl) (ot rfl) rfl) ?_
  refine go_cast (.int .i64 (((n + 1 : Nat) : Int))) (congrArg (Value.int .i64) w1) ?_
  refine gM rfl rfl ?_
  refine gr rfl (r_bin (ot rfl) (ot rfl) rfl) ?_
  refine go_cast (.int .i64 (((n + 1 - i : Nat) : Int))) (congrArg (Value.int .i64) w2) ?_
  refine g_al (v := fun b2 => .slice (some ⟨b2, 0, some 0⟩) (i + (n + 1 - i)) (i + (n + 1 - i))) (o := .cells (cs.take (i * 3) ++ repZ (Value.agg #[Value.string { data := #[] }, Value.string { data := #[] }, Value.int IntKind.i64 0]).cells.toList (n + 1 - i)) 44) (fun e he => by cases he; rfl) (fun fr h' hf ag hs => ?_) (fun b2 => ?_)
  · exact opV_append ((os1 (ot rfl) (os1 (ot rfl) os0)) fr ag rfl) (app_zeros (k := 3) rfl hu hk hby hz (by kernel_rfl) (by kernel_rfl) ⟨by omega, by omega⟩ (by rw [hin]; exact hr) (by omega) (hs.hext.get _ _ hb (by intro q; cases q)) (by omega))
  refine go_cast (.slice (some ⟨b2, 0, some 0⟩) (n + 1) (n + 1)) (by rw [hin]) ?_
  refine gA rfl rfl ?_
  refine go_nil ?_
  repeat refine go_seq ?_
  refine go_region ?_
  refine gM rfl rfl ?_
  refine gM rfl rfl ?_
  refine gr rfl (r_sliceh (ot rfl) (oo (ot rfl)) on on (fun h' hf hs => sl_any (k := 3) (lo := i) (hi := n + 1) hu hk rfl (bound_some (by omega)) (Nat.le_refl _) (slack_own (hs.blk _ List.mem_cons_self).1) (sa_slack (by omega)))) ?_
  refine gM rfl rfl ?_
  refine g_wr (v := goInt 1) (o' := .cells (splice (cs.take (i * 3) ++ repZ (Value.agg #[Value.string { data := #[] }, Value.string { data := #[] }, Value.int IntKind.i64 0]).cells.toList (n + 1 - i)) (0 + i * 3) vr) 44) (fun e he => by cases he; rfl) (fun fr h' hf ag hs => ?_) ?_
  · obtain ⟨hb2, hlim⟩ := hs.blk _ List.mem_cons_self
    have hv' := hs.hext.get _ _ hv (by intro q; cases q)
    have hf1 := first_blk (k := 3) (n := 1) (len := 1) (c := 1) (o := 0) (.inl rfl) hv' (by omega)
    have hd : (vr.drop 0).take (1 * 3) = vr := by rw [List.drop_zero]; exact List.take_of_length_le (by omega)
    rw [hd] at hf1
    exact opV_copy ((os1 (ot rfl) (os1 (ot rfl) os0)) fr ag rfl) (copy_own (k := 3) (o := 0 + i * 3) (.inr rfl) rfl (m := 1) (mm := 1) hu hk rfl hm1 hf1 (by omega) hb2 hlim (by rw [List.length_append, htl, hzl]; omega) hvo (by decide))
  refine go_nil ?_
  repeat refine go_seq ?_
  refine go_regions (L := [(0, []), (1, []), (2, []), (3, []), (4, []), (5, []), (6, []), (7, []), (8, [])]) (by kernel_rfl) (by kernel_rfl) (fun _ => rfl) ?_
  refine go_sop rfl rfl ?_
  refine gM rfl rfl ?_
  refine go_nil ?_
  refine go_sop rfl rfl ?_
  refine gM rfl rfl ?_
  refine go_nil ?_
  refine go_sop rfl rfl ?_
  refine gM rfl rfl ?_
  refine go_nil ?_
  refine go_sop rfl rfl ?_
  refine gr rfl (r_bin (ot rfl) (ot rfl) rfl) ?_
  refine go_cast (.int .i64 (((i + 1 : Nat) : Int))) (congrArg (Value.int .i64) w3) ?_
  refine go_nil ?_
  refine go_sop rfl rfl ?_
  refine gr rfl (r_sliceh (ot rfl) (oo (ot rfl)) on on (fun h' hf hs => sl_any (k := 3) (lo := i + 1) (hi := n + 1) hu hk rfl (bound_some (by omega)) (Nat.le_refl _) (slack_own (hs.blk _ List.mem_cons_self).1) (sa_slack (by omega)))) ?_
  refine go_nil ?_
  refine go_sop rfl rfl ?_
  refine gM rfl rfl ?_
  refine go_nil ?_
  refine go_sop rfl rfl ?_
  refine gM rfl rfl ?_
  refine go_nil ?_
  refine go_sop rfl rfl ?_
  refine gr rfl (r_sliceh (ot rfl) (oo (ot rfl)) on on (fun h' hf hs => sl_any (k := 3) (lo := i) (hi := n) hu hk rfl (bound_some (Nat.le_of_lt hi)) (Nat.le_refl _) rfl (sa_none hi))) ?_
  refine go_nil ?_
  refine go_sop rfl rfl ?_
  refine g_wr (v := goInt ((n - i : Nat) : Int)) (o' := .cells (splice (splice (cs.take (i * 3) ++ repZ (Value.agg #[Value.string { data := #[] }, Value.string { data := #[] }, Value.int IntKind.i64 0]).cells.toList (n + 1 - i)) (0 + i * 3) vr) (0 + (i + 1) * 3) (cs.drop (i * 3))) 44) (fun e he => by cases he; rfl) (fun fr h' hf ag hs => ?_) ?_
  · obtain ⟨hb2, hlim⟩ := hs.blk _ List.mem_cons_self
    have hb' := hs.hext.get _ _ hb (by intro q; cases q)
    have hf1 := first_blk (k := 3) (n := n - i) (len := n - i) (c := n - i) (o := 0 + i * 3) (.inl rfl) hb' (by omega)
    have hd : (cs.drop (0 + i * 3)).take ((n - i) * 3) = cs.drop (i * 3) := by rw [Nat.zero_add]; exact List.take_of_length_le (by omega)
    rw [hd] at hf1
    have hl1 : (splice (cs.take (i * 3) ++ repZ (Value.agg #[Value.string { data := #[] }, Value.string { data := #[] }, Value.int IntKind.i64 0]).cells.toList (n + 1 - i)) (0 + i * 3) vr).length = i * 3 + (n + 1 - i) * 3 := by rw [splice_len _ _ _ (by rw [List.length_append, htl, hzl]; omega), List.length_append, htl, hzl]
    exact opV_copy ((os1 (ot rfl) (os1 (ot rfl) os0)) fr ag rfl) (copy_own (k := 3) (o := 0 + (i + 1) * 3) (.inr rfl) rfl (m := n - i) (mm := n - i) hu hk rfl hm2 hf1 hdl hb2 hlim (by rw [hl1, hdl]; omega) (List.all_eq_true.mpr fun v hv => List.all_eq_true.mp hco v (List.mem_of_mem_drop hv)) hpos)
  refine go_nil ?_
  refine go_snil ?_
  repeat refine go_seq ?_
  refine go_region ?_
  refine gM rfl rfl ?_
  refine gA rfl rfl ?_
  refine go_nil ?_
  exact g_ret (rst rfl rs0) (fun h1 hf hs => ⟨[[⟨b2, _⟩]], _, hf, hs.ext, hs.wf, hs.rebase, ndb (by intro q; cases q) nd0, b2, rfl, by rw [hfin]⟩)

end Go.Proofs.Ytcjcbcmapjcfnaa.V
