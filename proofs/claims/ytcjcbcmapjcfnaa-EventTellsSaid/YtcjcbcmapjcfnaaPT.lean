/- What the types of this seat are.
   No condition: these are laws of the clean machine and of this program. -/
import Derived.Test.YtcjcbcmapjcfnaaSi
import Derived.Test.YtcjcbcmapjcfnaaPF
namespace Go.Proofs.Ytcjcbcmapjcfnaa.V
open Go
set_option linter.unusedVariables false
set_option linter.unusedSimpArgs false
set_option maxRecDepth 100000
theorem ag_22 : isAggT EE.P 22 = some false := by kernel_rfl
theorem ag_24 : isAggT EE.P 24 = some true := by kernel_rfl
theorem ag_3 : isAggT EE.P 3 = some false := by kernel_rfl
theorem ag_4 : isAggT EE.P 4 = some false := by kernel_rfl
theorem ag_40 : isAggT EE.P 40 = some true := by kernel_rfl
theorem ag_44 : isAggT EE.P 44 = some true := by kernel_rfl
theorem ag_9 : isAggT EE.P 9 = some false := by kernel_rfl
theorem at_10 : EE.P.funcs[10]? = some Try.f10 := by kernel_rfl
theorem at_11 : EE.P.funcs[11]? = some Try.f11 := by kernel_rfl
theorem at_12 : EE.P.funcs[12]? = some Try.f12 := by kernel_rfl
theorem at_13 : EE.P.funcs[13]? = some Try.f13 := by kernel_rfl
theorem at_14 : EE.P.funcs[14]? = some Try.f14 := by kernel_rfl
theorem at_15 : EE.P.funcs[15]? = some Try.f15 := by kernel_rfl
theorem at_16 : EE.P.funcs[16]? = some Try.f16 := by kernel_rfl
theorem at_17 : EE.P.funcs[17]? = some Try.f17 := by kernel_rfl
theorem at_18 : EE.P.funcs[18]? = some Try.f18 := by kernel_rfl
theorem at_19 : EE.P.funcs[19]? = some Try.f19 := by kernel_rfl
theorem at_20 : EE.P.funcs[20]? = some Try.f20 := by kernel_rfl
theorem at_21 : EE.P.funcs[21]? = some Try.f21 := by kernel_rfl
theorem at_22 : EE.P.funcs[22]? = some Try.f22 := by kernel_rfl
theorem at_23 : EE.P.funcs[23]? = some Try.f23 := by kernel_rfl
theorem at_24 : EE.P.funcs[24]? = some Try.f24 := by kernel_rfl
theorem at_25 : EE.P.funcs[25]? = some Try.f25 := by kernel_rfl
theorem at_27 : EE.P.funcs[27]? = some Try.f27 := by kernel_rfl
theorem at_28 : EE.P.funcs[28]? = some Try.f28 := by kernel_rfl
theorem at_29 : EE.P.funcs[29]? = some Try.f29 := by kernel_rfl
theorem at_3 : EE.P.funcs[3]? = some Try.f3 := by kernel_rfl
theorem at_33 : EE.P.funcs[33]? = some Try.f33 := by kernel_rfl
theorem at_35 : EE.P.funcs[35]? = some Try.f35 := by kernel_rfl
theorem at_36 : EE.P.funcs[36]? = some Try.f36 := by kernel_rfl
theorem at_39 : EE.P.funcs[39]? = some Try.f39 := by kernel_rfl
theorem at_4 : EE.P.funcs[4]? = some Try.f4 := by kernel_rfl
theorem at_40 : EE.P.funcs[40]? = some Try.f40 := by kernel_rfl
theorem at_41 : EE.P.funcs[41]? = some Try.f41 := by kernel_rfl
theorem at_42 : EE.P.funcs[42]? = some Try.f42 := by kernel_rfl
theorem at_46 : EE.P.funcs[46]? = some Try.f46 := by kernel_rfl
theorem at_49 : EE.P.funcs[49]? = some Try.f49 := by kernel_rfl
theorem at_5 : EE.P.funcs[5]? = some Try.f5 := by kernel_rfl
theorem at_6 : EE.P.funcs[6]? = some Try.f6 := by kernel_rfl
theorem at_7 : EE.P.funcs[7]? = some Try.f7 := by kernel_rfl
theorem at_8 : EE.P.funcs[8]? = some Try.f8 := by kernel_rfl
theorem be_4 {x y : Bool} : binV EE .eql 4 (.bool x) (.bool y) = some (.bool (x == y)) := by kernel_rfl
theorem bn_40 {x0 y0 : Int} {x1 y1 : ByteArray} {x2 y2 : ByteArray} {x3 y3 : Bool} : binV EE .neq 40 (.agg #[.int .i64 x0, .string x1, .string x2, .bool x3]) (.agg #[.int .i64 y0, .string y1, .string y2, .bool y3]) = some (.bool (!((x0 == y0) && ((x1 == y1) && ((x2 == y2) && ((x3 == y3) && (true))))))) := by kernel_rfl
theorem bn_44 {x0 y0 : ByteArray} {x1 y1 : ByteArray} {x2 y2 : Int} : binV EE .neq 44 (.agg #[.string x0, .string x1, .int .i64 x2]) (.agg #[.string y0, .string y1, .int .i64 y2]) = some (.bool (!((x0 == y0) && ((x1 == y1) && ((x2 == y2) && (true)))))) := by kernel_rfl
theorem bq_44 {x0 y0 : ByteArray} {x1 y1 : ByteArray} {x2 y2 : Int} : binV EE .eql 44 (.agg #[.string x0, .string x1, .int .i64 x2]) (.agg #[.string y0, .string y1, .int .i64 y2]) = some (.bool (((x0 == y0) && ((x1 == y1) && ((x2 == y2) && (true)))))) := by kernel_rfl
theorem by_22 : bytesOf EE.P 22 = some 24 := by kernel_rfl
theorem by_40 : bytesOf EE.P 40 = some 48 := by kernel_rfl
theorem by_44 : bytesOf EE.P 44 = some 40 := by kernel_rfl
theorem fa_24_0 (b o : Nat) : fieldAddrV EE 24 (.pointer (some ⟨b, o, none⟩)) 0 = some (.pointer (some ⟨b, o, none⟩)) := by kernel_rfl
theorem fa_24_1 (b o : Nat) : fieldAddrV EE 24 (.pointer (some ⟨b, o, none⟩)) 1 = some (.pointer (some ⟨b, o + 1, none⟩)) := by kernel_rfl
theorem fa_40_0 (b o : Nat) : fieldAddrV EE 40 (.pointer (some ⟨b, o, none⟩)) 0 = some (.pointer (some ⟨b, o, none⟩)) := by kernel_rfl
theorem fa_40_1 (b o : Nat) : fieldAddrV EE 40 (.pointer (some ⟨b, o, none⟩)) 1 = some (.pointer (some ⟨b, o + 1, none⟩)) := by kernel_rfl
theorem fa_40_2 (b o : Nat) : fieldAddrV EE 40 (.pointer (some ⟨b, o, none⟩)) 2 = some (.pointer (some ⟨b, o + 2, none⟩)) := by kernel_rfl
theorem fa_40_3 (b o : Nat) : fieldAddrV EE 40 (.pointer (some ⟨b, o, none⟩)) 3 = some (.pointer (some ⟨b, o + 3, none⟩)) := by kernel_rfl
theorem fa_44_0 (b o : Nat) : fieldAddrV EE 44 (.pointer (some ⟨b, o, none⟩)) 0 = some (.pointer (some ⟨b, o, none⟩)) := by kernel_rfl
theorem hb_10 : hasBody EE.P 10 = true := by kernel_rfl
theorem hb_11 : hasBody EE.P 11 = true := by kernel_rfl
theorem hb_12 : hasBody EE.P 12 = true := by kernel_rfl
theorem hb_13 : hasBody EE.P 13 = true := by kernel_rfl
theorem hb_14 : hasBody EE.P 14 = true := by kernel_rfl
theorem hb_15 : hasBody EE.P 15 = true := by kernel_rfl
theorem hb_16 : hasBody EE.P 16 = true := by kernel_rfl
theorem hb_17 : hasBody EE.P 17 = true := by kernel_rfl
theorem hb_18 : hasBody EE.P 18 = true := by kernel_rfl
theorem hb_19 : hasBody EE.P 19 = true := by kernel_rfl
theorem hb_20 : hasBody EE.P 20 = true := by kernel_rfl
theorem hb_21 : hasBody EE.P 21 = true := by kernel_rfl
theorem hb_22 : hasBody EE.P 22 = true := by kernel_rfl
theorem hb_23 : hasBody EE.P 23 = true := by kernel_rfl
theorem hb_24 : hasBody EE.P 24 = true := by kernel_rfl
theorem hb_25 : hasBody EE.P 25 = true := by kernel_rfl
theorem hb_26 : hasBody EE.P 26 = true := by kernel_rfl
theorem hb_27 : hasBody EE.P 27 = true := by kernel_rfl
theorem hb_28 : hasBody EE.P 28 = true := by kernel_rfl
theorem hb_29 : hasBody EE.P 29 = true := by kernel_rfl
theorem hb_30 : hasBody EE.P 30 = true := by kernel_rfl
theorem hb_31 : hasBody EE.P 31 = true := by kernel_rfl
theorem hb_33 : hasBody EE.P 33 = true := by kernel_rfl
theorem hb_34 : hasBody EE.P 34 = true := by kernel_rfl
theorem hb_35 : hasBody EE.P 35 = true := by kernel_rfl
theorem hb_36 : hasBody EE.P 36 = true := by kernel_rfl
theorem hb_37 : hasBody EE.P 37 = true := by kernel_rfl
theorem hb_38 : hasBody EE.P 38 = true := by kernel_rfl
theorem hb_39 : hasBody EE.P 39 = true := by kernel_rfl
theorem hb_40 : hasBody EE.P 40 = true := by kernel_rfl
theorem hb_41 : hasBody EE.P 41 = true := by kernel_rfl
theorem hb_42 : hasBody EE.P 42 = true := by kernel_rfl
theorem hb_46 : hasBody EE.P 46 = true := by kernel_rfl
theorem hb_49 : hasBody EE.P 49 = true := by kernel_rfl
theorem hb_9 : hasBody EE.P 9 = true := by kernel_rfl
theorem ln_22 {h : Heap} {a : Option Addr} {n c : Nat} : lenV EE h 22 (.slice a n c) = some (.int .i64 n) := by kernel_rfl
theorem ln_27 {h : Heap} {a : Option Addr} {n c : Nat} : lenV EE h 27 (.slice a n c) = some (.int .i64 n) := by kernel_rfl
theorem ln_33 {h : Heap} {a : Option Addr} {n c : Nat} : lenV EE h 33 (.slice a n c) = some (.int .i64 n) := by kernel_rfl
theorem sz_22 : sz EE.P 22 = some 1 := by kernel_rfl
theorem sz_24 : sz EE.P 24 = some 2 := by kernel_rfl
theorem sz_40 : sz EE.P 40 = some 4 := by kernel_rfl
theorem sz_44 : sz EE.P 44 = some 3 := by kernel_rfl
theorem ut_22 : EE.P.underlying 22 = some (.slice 40) := by kernel_rfl
theorem ut_27 : EE.P.underlying 27 = some (.slice 22) := by kernel_rfl
theorem ut_33 : EE.P.underlying 33 = some (.slice 44) := by kernel_rfl
theorem zo_22 : zeroOf EE.P 22 = some (Value.slice none 0 0) := by kernel_rfl
theorem zo_40 : zeroOf EE.P 40 = some (Value.agg #[Value.int IntKind.i64 0, Value.string { data := #[] }, Value.string { data := #[] }, Value.bool false]) := by kernel_rfl
theorem zo_44 : zeroOf EE.P 44 = some (Value.agg #[Value.string { data := #[] }, Value.string { data := #[] }, Value.int IntKind.i64 0]) := by kernel_rfl
theorem zs_22_22 : zerosV EE.P #[22, 22] = some false := by kernel_rfl
theorem zs_27_27 : zerosV EE.P #[27, 27] = some false := by kernel_rfl
theorem zs_33_33 : zerosV EE.P #[33, 33] = some false := by kernel_rfl
theorem fs_40_0 {a : Addr} (h : a.spot = none ∨ a.spot = some 1) : fieldAddrV EE 40 (.pointer (some a)) 0 = some (.pointer (some ⟨a.block, a.off + 0, a.spot⟩)) := by
  obtain ⟨b, o, s⟩ := a
  rcases h with h | h
  · cases h; kernel_rfl
  · cases h; kernel_rfl
theorem fs_40_1 {a : Addr} (h : a.spot = none ∨ a.spot = some 1) : fieldAddrV EE 40 (.pointer (some a)) 1 = some (.pointer (some ⟨a.block, a.off + 1, a.spot⟩)) := by
  obtain ⟨b, o, s⟩ := a
  rcases h with h | h
  · cases h; kernel_rfl
  · cases h; kernel_rfl
theorem fs_40_2 {a : Addr} (h : a.spot = none ∨ a.spot = some 1) : fieldAddrV EE 40 (.pointer (some a)) 2 = some (.pointer (some ⟨a.block, a.off + 2, a.spot⟩)) := by
  obtain ⟨b, o, s⟩ := a
  rcases h with h | h
  · cases h; kernel_rfl
  · cases h; kernel_rfl
theorem fs_40_3 {a : Addr} (h : a.spot = none ∨ a.spot = some 1) : fieldAddrV EE 40 (.pointer (some a)) 3 = some (.pointer (some ⟨a.block, a.off + 3, a.spot⟩)) := by
  obtain ⟨b, o, s⟩ := a
  rcases h with h | h
  · cases h; kernel_rfl
  · cases h; kernel_rfl
theorem fs_44_0 {a : Addr} (h : a.spot = none ∨ a.spot = some 1) : fieldAddrV EE 44 (.pointer (some a)) 0 = some (.pointer (some ⟨a.block, a.off + 0, a.spot⟩)) := by
  obtain ⟨b, o, s⟩ := a
  rcases h with h | h
  · cases h; kernel_rfl
  · cases h; kernel_rfl
theorem sc_9 : scalarT EE.P 9 = some .string := by kernel_rfl
theorem um_50 : EE.P.underlying 50 = some (.map 9 40) := by kernel_rfl
theorem evo_clone_26 {h : Heap} (hw : Wf h) {a : Option Addr} {c : Nat} {xs ys : List TEvent} (f0 : RL R_TEvent h a c xs) (hy : cloneL 48 xs = some ys) :
    EvO EE 26 [.slice a xs.length c] [] h (fun v S h1 => ∃ q t, v = .slice q ys.length ys.length ∧ S = [t] ∧ AccR R_TEvent 40 h1 t (.slice q ys.length ys.length) ys) := by
  obtain ⟨hr, rfl⟩ := cloneL_some hy
  cases a with
  | none =>
    have e0 := RL.none_nil f0
    subst e0
    refine evo_of rfl (show EE.P.funcs[26]? = some Try.f26 by kernel_rfl) rfl rfl ?_
    refine go_seq ?_
    refine go_region ?_
    refine gAc rfl rfl ?_
    refine go_nil ?_
    refine go_seq ?_
    refine go_seq ?_
    refine go_region ?_
    refine gM rfl rfl ?_
    refine gr rfl (r_bin (v := .bool true) (ot rfl) (oc rfl) (by kernel_rfl)) ?_
    refine go_nil ?_
    refine g_cond (b := true) (ot rfl) (fun _ => ?_) (fun h => by cases h)
    refine go_seq ?_
    refine go_region ?_
    refine gAc rfl rfl ?_
    refine go_nil ?_
    exact g_ret (rst rfl rs0) (fun h1 hf hs => ⟨[[]], _, hf, HExt.refl _, hw, hs, nde nd0, none, [], rfl, rfl, AccR.nil _ _ _⟩)
  | some a =>
    refine evo_of rfl (show EE.P.funcs[26]? = some Try.f26 by kernel_rfl) rfl rfl ?_
    refine go_seq ?_
    refine go_region ?_
    refine gAc rfl rfl ?_
    refine go_nil ?_
    refine go_seq ?_
    refine go_seq ?_
    refine go_region ?_
    refine gM rfl rfl ?_
    refine gr rfl (r_bin (v := .bool false) (ot rfl) (oc rfl) (by kernel_rfl)) ?_
    refine go_nil ?_
    refine g_cond (b := false) (ot rfl) (fun h => by cases h) (fun _ => ?_)
    refine go_skip ?_
    refine go_seq ?_
    refine go_region ?_
    refine gs_bslice (segs := []) (cs := []) rfl op0 ut_22 sz_40 zo_40 rfl rfl ?_; intro b5
    refine gM rfl rfl ?_
    obtain ⟨rw1, hw1, hq1⟩ := RL.first f0 (by decide)
    refine gs_app0 (rows2 := rw1) (R := R_TEvent) rfl (os1 (ot rfl) (os1 (ot rfl) os0)) rfl ut_22 sz_40 rfl (by decide) by_40 zo_40 rfl (by kernel_rfl) rfl rfl (first_e hq1 (fun h' kn => kn.firstV hq1)) hw1 (AccR.lit _ _ _ _) hr (fun p1 tl1 f1 => ?_)
    refine gA rfl rfl ?_
    refine go_nil ?_
    refine gs_sub (.cons_cons _ (.cons _ (.refl _))) ?_
    exact g_ret (rst rfl rs0) (fun h1 hf hs => ⟨[tl1], _, hf, HExt.refl _, hw, hs, ndt f1 nd0, _, _, rfl, rfl, f1⟩)
theorem evo_clone_34 {h : Heap} (hw : Wf h) {a : Option Addr} {c : Nat} {xs ys : List TKV} (f0 : RL R_TKV h a c xs) (hy : cloneL 40 xs = some ys) :
    EvO EE 34 [.slice a xs.length c] [] h (fun v S h1 => ∃ q t, v = .slice q ys.length ys.length ∧ S = [t] ∧ AccR R_TKV 44 h1 t (.slice q ys.length ys.length) ys) := by
  obtain ⟨hr, rfl⟩ := cloneL_some hy
  cases a with
  | none =>
    have e0 := RL.none_nil f0
    subst e0
    refine evo_of rfl (show EE.P.funcs[34]? = some Try.f34 by kernel_rfl) rfl rfl ?_
    refine go_seq ?_
    refine go_region ?_
    refine gAc rfl rfl ?_
    refine go_nil ?_
    refine go_seq ?_
    refine go_seq ?_
    refine go_region ?_
    refine gM rfl rfl ?_
    refine gr rfl (r_bin (v := .bool true) (ot rfl) (oc rfl) (by kernel_rfl)) ?_
    refine go_nil ?_
    refine g_cond (b := true) (ot rfl) (fun _ => ?_) (fun h => by cases h)
    refine go_seq ?_
    refine go_region ?_
    refine gAc rfl rfl ?_
    refine go_nil ?_
    exact g_ret (rst rfl rs0) (fun h1 hf hs => ⟨[[]], _, hf, HExt.refl _, hw, hs, nde nd0, none, [], rfl, rfl, AccR.nil _ _ _⟩)
  | some a =>
    refine evo_of rfl (show EE.P.funcs[34]? = some Try.f34 by kernel_rfl) rfl rfl ?_
    refine go_seq ?_
    refine go_region ?_
    refine gAc rfl rfl ?_
    refine go_nil ?_
    refine go_seq ?_
    refine go_seq ?_
    refine go_region ?_
    refine gM rfl rfl ?_
    refine gr rfl (r_bin (v := .bool false) (ot rfl) (oc rfl) (by kernel_rfl)) ?_
    refine go_nil ?_
    refine g_cond (b := false) (ot rfl) (fun h => by cases h) (fun _ => ?_)
    refine go_skip ?_
    refine go_seq ?_
    refine go_region ?_
    refine gs_bslice (segs := []) (cs := []) rfl op0 ut_33 sz_44 zo_44 rfl rfl ?_; intro b5
    refine gM rfl rfl ?_
    obtain ⟨rw1, hw1, hq1⟩ := RL.first f0 (by decide)
    refine gs_app0 (rows2 := rw1) (R := R_TKV) rfl (os1 (ot rfl) (os1 (ot rfl) os0)) rfl ut_33 sz_44 rfl (by decide) by_44 zo_44 rfl (by kernel_rfl) rfl rfl (first_e hq1 (fun h' kn => kn.firstV hq1)) hw1 (AccR.lit _ _ _ _) hr (fun p1 tl1 f1 => ?_)
    refine gA rfl rfl ?_
    refine go_nil ?_
    refine gs_sub (.cons_cons _ (.cons _ (.refl _))) ?_
    exact g_ret (rst rfl rs0) (fun h1 hf hs => ⟨[tl1], _, hf, HExt.refl _, hw, hs, ndt f1 nd0, _, _, rfl, rfl, f1⟩)
theorem evo_values_31 {h : Heap} (hw : Wf h) {mb : Nat} :
    EvO EE 31 [.map (some mb)] [] h (fun v S h1 => ∃ b, v = .func (.func 45) #[] #[.pointer (some ⟨b, 0, none⟩)] ∧ S = [[⟨b, .cells [.map (some mb)] 50⟩]]) := by
  refine evo_of rfl (show EE.P.funcs[31]? = some Try.f31 by kernel_rfl) rfl rfl ?_
  refine go_seq ?_
  refine go_region ?_
  refine gs_box (segs := []) rfl (ot rfl) rfl ?_; intro b1
  refine gAc rfl rfl ?_
  refine go_nil ?_
  refine go_seq ?_
  refine go_region ?_
  refine gr rfl (r_func os0 (os1 (ot rfl) os0)) ?_
  refine gA rfl rfl ?_
  refine go_nil ?_
  exact g_ret (rst rfl rs0) (fun h1 hf hs => ⟨[[⟨b1, .cells [.map (some mb)] 50⟩]], _, hf, HExt.refl _, hw, hs, ndb (by intro e; cases e) nd0, _, rfl, rfl⟩)
theorem decKVs_enc : ∀ {m : List (ByteArray × TEvent)}, m.all (fun e => (e.1.toList == e.2.Key.toList) && Nat.ble e.2.Key.toList.length maxLen) = true → decKVs (encM kS vE_TEvent m) = some (m.map (fun e : ByteArray × TEvent => evV e.2))
  | [], _ => rfl
  | e :: m, h => by
    rw [List.all_cons, Bool.and_eq_true] at h
    have h1 : decKV (kS e.1, vE_TEvent e.2) = some (evV e.2) := by
      show (bif _ then _ else none) = _
      rw [h.1]; rfl
    have h2 := decKVs_enc h.2
    show (match decKV (kS e.1, vE_TEvent e.2) with
      | some x => match decKVs (encM kS vE_TEvent m) with | some l => some (x :: l) | none => none
      | none => none) = _
    rw [h1, h2]; rfl
theorem evo_sorted_30 {h : Heap} (hw : Wf h) {bq mb : Nat} {m : List (ByteArray × TEvent)} {ys : List TEvent} (hy : lastL m = some ys) :
    EvO EE 30 [.func (.func 45) #[] #[.pointer (some ⟨bq, 0, none⟩)], .func (.func 32) #[] #[]] [[⟨bq, .cells [.map (some mb)] 50⟩], [⟨mb, .map (encM kS vE_TEvent m)⟩]] h (fun v S h1 => ∃ q t, v = .slice q ys.length ys.length ∧ S = [t] ∧ AccR R_TEvent 40 h1 t (.slice q ys.length ys.length) ys) := by
  intro h' hf hs
  have hs : Has [⟨bq, .cells [.map (some mb)] 50⟩, ⟨mb, .map (encM kS vE_TEvent m)⟩] h h' hf := hs
  obtain ⟨hb1, _⟩ := hs.blk ⟨bq, .cells [.map (some mb)] 50⟩ List.mem_cons_self
  obtain ⟨hb2, _⟩ := hs.blk ⟨mb, .map (encM kS vE_TEvent m)⟩ (List.mem_cons_of_mem _ List.mem_cons_self)
  unfold lastL at hy
  split at hy
  case isFalse => cases hy
  rename_i hq
  cases hy
  rw [Bool.and_eq_true, Bool.and_eq_true] at hq
  obtain ⟨⟨q1, q2⟩, q3⟩ := hq
  have hd := decKVs_enc q1
  have q2' : nodupB ((m.map (fun e : ByteArray × TEvent => evV e.2)).map (fun x : EvV => x.k)) = true := by rw [List.map_map]; exact q2
  have q3' : Nat.ble (m.map (fun e : ByteArray × TEvent => evV e.2)).length 1000000 = true := by rw [List.length_map]; exact q3
  have hml := Nat.le_of_ble_eq_true q3
  have hlen : ((sortK (m.map (fun e : ByteArray × TEvent => evV e.2))).map evB).length = (m.map (fun e : ByteArray × TEvent => evV e.2)).length := by rw [List.length_map, (sortK_perm _).length_eq]
  have hcore : sortedP [.func (.func 45) #[] #[.pointer (some ⟨bq, 0, none⟩)], .func (.func 32) #[] #[]] h' = bif (m.map (fun e : ByteArray × TEvent => evV e.2)).isEmpty then some (.slice none 0 0, h') else some (.slice (some ⟨h'.n, 0, some 0⟩) (m.map (fun e : ByteArray × TEvent => evV e.2)).length (m.map (fun e : ByteArray × TEvent => evV e.2)).length, h'.alloc (.cells ((sortK (m.map (fun e : ByteArray × TEvent => evV e.2))).flatMap EvV.cs) 40)) := by
    show (match h'.get bq with
      | some (.cells [.map (some m)] _) => match h'.get m with
        | some (.map es) => match decKVs es with
          | some xs => bif nodupB (xs.map (fun x : EvV => x.k)) && Nat.ble xs.length 1000000 then
              (bif xs.isEmpty then some (Value.slice none 0 0, h') else some (.slice (some ⟨h'.n, 0, some 0⟩) xs.length xs.length, h'.alloc (.cells ((sortK xs).flatMap EvV.cs) 40))) else none
          | none => none
        | _ => none
      | _ => none) = _
    rw [hb1]; dsimp only; rw [hb2]; dsimp only; rw [hd]; dsimp only; rw [q2', q3']; rfl
  cases he : (m.map (fun e : ByteArray × TEvent => evV e.2)).isEmpty with
  | true =>
    have hm0 : m.map (fun e : ByteArray × TEvent => evV e.2) = [] := List.isEmpty_iff.mp he
    rw [hm0] at hcore hlen ⊢
    have hrun : run EE 1 30 [.func (.func 45) #[] #[.pointer (some ⟨bq, 0, none⟩)], .func (.func 32) #[] #[]] h' = some (.slice none 0 0, h') := by
      rw [run_prim (p := sortedP) rfl]; exact hcore
    obtain ⟨hf', hs'⟩ := hs.sub (List.nil_sublist _)
    exact ⟨1, _, h', [[]], hf', hf', hrun, hs'.ext, hs'.wf, hs'.rebase, nde nd0, none, [], rfl, rfl, AccR.nil _ _ _⟩
  | false =>
    rw [he] at hcore
    have hrun : run EE 1 30 [.func (.func 45) #[] #[.pointer (some ⟨bq, 0, none⟩)], .func (.func 32) #[] #[]] h' = some (.slice (some ⟨h'.n, 0, some 0⟩) (m.map (fun e : ByteArray × TEvent => evV e.2)).length (m.map (fun e : ByteArray × TEvent => evV e.2)).length, h'.alloc (.cells ((sortK (m.map (fun e : ByteArray × TEvent => evV e.2))).flatMap EvV.cs) 40)) := by
      rw [run_prim (p := sortedP) rfl]; exact hcore
    obtain ⟨hf', hs'⟩ := hs.sub (List.nil_sublist _)
    have hs2 := hs'.alloc (.cells ((sortK (m.map (fun e : ByteArray × TEvent => evV e.2))).flatMap EvV.cs) 40)
    refine ⟨1, _, _, [[⟨h'.n, .cells ((sortK (m.map (fun e : ByteArray × TEvent => evV e.2))).flatMap EvV.cs) 40⟩]], _, _, hrun, hs2.ext, hs2.wf, hs2.rebase, ndb (by intro q; cases q) nd0, some ⟨h'.n, 0, some 0⟩, _, by rw [hlen], rfl, ?_⟩
    refine ⟨by rw [hlen, List.length_map]; omega, .inr ⟨h'.n, (sortK (m.map (fun e : ByteArray × TEvent => evV e.2))).map EvV.cs, rfl, ?_, ?_⟩⟩
    · rw [List.flatMap_def]
    · refine ⟨by rw [List.length_map, List.length_map], fun i row x hr hx => ?_⟩
      rw [List.getElem?_map] at hr hx
      cases hi : (sortK (m.map (fun e : ByteArray × TEvent => evV e.2)))[i]? with
      | none => rw [hi] at hr; cases hr
      | some e =>
        rw [hi] at hr hx
        cases hr; cases hx
        rfl
end Go.Proofs.Ytcjcbcmapjcfnaa.V
