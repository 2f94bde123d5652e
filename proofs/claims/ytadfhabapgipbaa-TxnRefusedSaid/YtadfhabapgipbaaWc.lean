/- Walks.
   No condition: these are laws of the clean machine and of this program. -/
import Derived.Test.YtadfhabapgipbaaWb
namespace Go.Proofs.Ytadfhabapgipbaa.V
open Go
set_option linter.unusedVariables false
set_option linter.unusedSimpArgs false
set_option maxRecDepth 100000
theorem s_law07_TxnRefused {h : Heap} (hw : Wf h) (p0 : TReq) (p1 : Int) {a0_4 : Option Addr} {c0_4 : Nat} {a0_5 : Option Addr} {c0_5 : Nat} {a0_6 : Option Addr} {c0_6 : Nat} (f0_4 : RL R_Cmp h a0_4 c0_4 p0.Cmps) (f0_5 : RL R_OpX h a0_5 c0_5 p0.Then) (f0_6 : RL R_OpX h a0_6 c0_6 p0.Else) {r : Bool} (hF : F_law07_TxnRefused p0 p1 = some r) :
    Ev EE 8 [.agg #[.int .i64 p0.Kind, .string p0.R.From, .string p0.R.To, .int .i64 p0.Rev, .slice a0_4 p0.Cmps.length c0_4, .slice a0_5 p0.Then.length c0_5, .slice a0_6 p0.Else.length c0_6], .int .u8 p1] h (fun v _ => v = .bool r) := by
  unfold F_law07_TxnRefused at hF
  refine ev_of hw rfl at_8 rfl rfl (go_seg0 ?_)
  refine go_seq ?_
  refine go_region ?_
  refine gs_box rfl (ot rfl) rfl ?_; intro b2_1
  refine gAc rfl rfl ?_
  refine go_nil ?_
  refine go_seq ?_
  refine go_region ?_
  refine g_callp EE_fr rfl of os0 hb_22 (fun _ => rfl) (fun hf kn w => by exact known_ev rfl hf w) ?_
  refine gA rfl rfl ?_
  refine go_nil ?_
  refine go_seq ?_
  refine go_seq ?_
  refine go_region ?_
  refine gr rfl (r_load (ot rfl) (lm_w (mem_seg 0 rfl) ag_27 sz_27 rfl)) ?_
  replace hF := obind hF
  obtain ⟨x3, hx3, hF⟩ := hF
  refine g_callp (v := .int .i64 x3) EE_fr rfl of (os1 (ot rfl) os0) hb_28 (fun _ => rfl) (fun hf kn w => by exact s_txn_May w p0 (f0_4.ext kn) (f0_5.ext kn) (f0_6.ext kn) hx3) ?_
  refine gr rfl (r_bin (ot rfl) (oc rfl) rfl) ?_
  refine gM rfl rfl ?_
  refine grf rfl rfl rfl rfl (r_fa (ot rfl) (fa_27_0 _ _)) ?_
  refine grf rfl rfl rfl rfl (r_load (og rfl id) (lm_s (mem_seg 0 rfl) ag_3 rfl)) ?_
  refine grf rfl rfl rfl rfl (r_bin (og rfl id) (oc rfl) rfl) ?_
  refine gr rfl (r_pickb (ot rfl) (oc rfl) (og rfl id)) ?_
  refine go_nil ?_
  refine g_cond (b := (bif (x3 != 0) then true else (p0.Kind != 1))) (ot rfl) (fun hc4 => ?_) (fun hc4 => ?_)
  ·
    replace hF := ifT hc4 hF
    refine go_seq ?_
    refine go_region ?_
    refine gM rfl rfl ?_
    refine gA rfl rfl ?_
    refine go_nil ?_
    obtain rfl := someI hF
    exact g_ret (rst rfl rs0) (fun h1 hf hs => ⟨hs.hext, rfl⟩)
  ·
    replace hF := ifF hc4 hF
    refine go_skip ?_
    refine go_seq ?_
    refine go_region ?_
    refine gr rfl (r_load (ot rfl) (lm_w (mem_seg 0 rfl) ag_27 sz_27 rfl)) ?_
    refine gs_alloc rfl zo_27 rfl ?_; intro b6_5
    refine gs_store (ot rfl) (ot rfl) sz_27 rfl rfl rfl rfl rfl .z ?_
    refine go_nil ?_
    refine go_seq ?_
    refine go_region ?_
    refine gM rfl rfl ?_
    refine gr rfl (r_conv (ot rfl) rfl) ?_
    refine gr rfl (r_bin (oc rfl) (ot rfl) rfl) ?_
    refine gr rfl (r_fa (ot rfl) (fa_27_0 _ _)) ?_
    refine gs_store (ot rfl) (ot rfl) sz_3 rfl rfl rfl rfl rfl .z ?_
    refine go_nil ?_
    refine go_seq ?_
    refine go_region ?_
    refine gr rfl (r_load (ot rfl) (lm_w (mem_seg 1 rfl) ag_27 sz_27 rfl)) ?_
    refine gs_alloc rfl zo_27 rfl ?_; intro b7_6
    refine gs_store (ot rfl) (ot rfl) sz_27 rfl rfl rfl rfl rfl .z ?_
    refine go_nil ?_
    refine go_seq ?_
    refine go_region ?_
    refine gs_bslice (cs := []) rfl op0 ut_25 sz_69 zo_69 rfl rfl ?_; intro b28_7
    refine gr rfl (r_fa (ot rfl) (fa_27_4 _ _)) ?_
    refine gr rfl (r_load (ot rfl) (lm_s (mem_seg 3 rfl) ag_25 rfl)) ?_
    replace hF := obind hF
    obtain ⟨x8, hx8, hF⟩ := hF
    obtain ⟨hr8, rfl⟩ := appL_some hx8
    obtain ⟨rw8, hw8, hq8⟩ := RL.first f0_5 (by decide)
    refine gs_app0 (rows2 := rw8) (R := R_OpX) rfl (os1 (ot rfl) (os1 (ot rfl) os0)) rfl ut_25 sz_69 rfl (by decide) by_69 zo_69 rfl zs_25_25 rfl rfl (first_e hq8 (fun h' kn => kn.firstV hq8)) hw8 (AccR.lit _ _ _ _) hr8 (fun p8_ tl8 f8_ => ?_)
    refine gr rfl (r_build (op1 (oc rfl) op0) rfl) ?_
    refine gs_bslice (cs := [.string (⟨#[49, 50, 51, 52, 53, 54, 55, 56, 57]⟩ : ByteArray), .string ByteArray.empty, .bool false]) rfl (op1 (ot rfl) op0) ut_25 sz_69 zo_69 rfl rfl ?_; intro b33_9
    replace hF := obind hF
    obtain ⟨x10, hx10, hF⟩ := hF
    obtain ⟨hr10, rfl⟩ := appL_some hx10
    refine gs_front (.s (.z)) ?_
    refine gs_app (rows2 := [[.string (⟨#[49, 50, 51, 52, 53, 54, 55, 56, 57]⟩ : ByteArray), .string ByteArray.empty, .bool false]]) (R := R_OpX) rfl (os1 (ot rfl) (os1 (ot rfl) os0)) rfl ut_25 sz_69 rfl (by decide) by_69 zo_69 rfl zs_25_25 rfl rfl (first_m (mem_seg 1 rfl) rfl (by decide)) (Rws.one (x := (⟨(⟨#[49, 50, 51, 52, 53, 54, 55, 56, 57]⟩ : ByteArray), ByteArray.empty, false⟩ : OpX)) rfl) f8_ hr10 (fun p10_ tl10 f10_ => ?_)
    refine gr rfl (r_fa (ot rfl) (fa_27_4 _ _)) ?_
    refine gs_store (ot rfl) (ot rfl) sz_25 rfl rfl rfl rfl rfl (.s (.s (.s (.z)))) ?_
    refine go_nil ?_
    refine go_seq ?_
    refine go_region ?_
    refine gr rfl (r_load (ot rfl) (lm_w (mem_seg 5 rfl) ag_27 sz_27 rfl)) ?_
    refine gs_alloc rfl zo_27 rfl ?_; intro b8_11
    refine gs_store (ot rfl) (ot rfl) sz_27 rfl rfl rfl rfl rfl .z ?_
    refine go_nil ?_
    refine go_seq ?_
    refine go_region ?_
    refine gs_bslice (cs := []) rfl op0 ut_25 sz_69 zo_69 rfl rfl ?_; intro b37_12
    refine gr rfl (r_fa (ot rfl) (fa_27_4 _ _)) ?_
    refine gr rfl (r_load (ot rfl) (lm_s (mem_seg 7 rfl) ag_25 rfl)) ?_
    replace hF := obind hF
    obtain ⟨x13, hx13, hF⟩ := hF
    obtain ⟨hr13, rfl⟩ := appL_some hx13
    obtain ⟨rw13, hw13, hq13⟩ := RL.first f0_5 (by decide)
    refine gs_app0 (rows2 := rw13) (R := R_OpX) rfl (os1 (ot rfl) (os1 (ot rfl) os0)) rfl ut_25 sz_69 rfl (by decide) by_69 zo_69 rfl zs_25_25 rfl rfl (first_e hq13 (fun h' kn => kn.firstV hq13)) hw13 (AccR.lit _ _ _ _) hr13 (fun p13_ tl13 f13_ => ?_)
    refine gr rfl (r_build (op1 (oc rfl) (op1 (oc rfl) op0)) rfl) ?_
    refine gs_bslice (cs := [.string (⟨#[97]⟩ : ByteArray), .string (⟨#[49, 50, 51, 52, 53, 54, 55, 56, 57]⟩ : ByteArray), .bool false]) rfl (op1 (ot rfl) op0) ut_25 sz_69 zo_69 rfl rfl ?_; intro b42_14
    replace hF := obind hF
    obtain ⟨x15, hx15, hF⟩ := hF
    obtain ⟨hr15, rfl⟩ := appL_some hx15
    refine gs_front (.s (.z)) ?_
    refine gs_app (rows2 := [[.string (⟨#[97]⟩ : ByteArray), .string (⟨#[49, 50, 51, 52, 53, 54, 55, 56, 57]⟩ : ByteArray), .bool false]]) (R := R_OpX) rfl (os1 (ot rfl) (os1 (ot rfl) os0)) rfl ut_25 sz_69 rfl (by decide) by_69 zo_69 rfl zs_25_25 rfl rfl (first_m (mem_seg 1 rfl) rfl (by decide)) (Rws.one (x := (⟨(⟨#[97]⟩ : ByteArray), (⟨#[49, 50, 51, 52, 53, 54, 55, 56, 57]⟩ : ByteArray), false⟩ : OpX)) rfl) f13_ hr15 (fun p15_ tl15 f15_ => ?_)
    refine gr rfl (r_fa (ot rfl) (fa_27_4 _ _)) ?_
    refine gs_store (ot rfl) (ot rfl) sz_25 rfl rfl rfl rfl rfl (.s (.s (.s (.z)))) ?_
    refine go_nil ?_
    refine go_seq ?_
    refine go_region ?_
    refine gr rfl (r_load (ot rfl) (lm_w (mem_seg 9 rfl) ag_27 sz_27 rfl)) ?_
    refine gs_alloc rfl zo_27 rfl ?_; intro b9_16
    refine gs_store (ot rfl) (ot rfl) sz_27 rfl rfl rfl rfl rfl .z ?_
    refine go_nil ?_
    refine go_seq ?_
    refine go_region ?_
    refine gs_bslice (cs := []) rfl op0 ut_25 sz_69 zo_69 rfl rfl ?_; intro b46_17
    refine gr rfl (r_fa (ot rfl) (fa_27_5 _ _)) ?_
    refine gr rfl (r_load (ot rfl) (lm_s (mem_seg 11 rfl) ag_25 rfl)) ?_
    replace hF := obind hF
    obtain ⟨x18, hx18, hF⟩ := hF
    obtain ⟨hr18, rfl⟩ := appL_some hx18
    obtain ⟨rw18, hw18, hq18⟩ := RL.first f0_6 (by decide)
    refine gs_app0 (rows2 := rw18) (R := R_OpX) rfl (os1 (ot rfl) (os1 (ot rfl) os0)) rfl ut_25 sz_69 rfl (by decide) by_69 zo_69 rfl zs_25_25 rfl rfl (first_e hq18 (fun h' kn => kn.firstV hq18)) hw18 (AccR.lit _ _ _ _) hr18 (fun p18_ tl18 f18_ => ?_)
    refine gr rfl (r_build (op1 (oc rfl) op0) rfl) ?_
    refine gr rfl (r_build (op1 (oc rfl) (op1 (oc rfl) op0)) rfl) ?_
    refine gs_bslice (cs := [.string (⟨#[97]⟩ : ByteArray), .string ByteArray.empty, .bool false, .string (⟨#[97]⟩ : ByteArray), .string ByteArray.empty, .bool true]) rfl (op1 (ot rfl) (op1 (ot rfl) op0)) ut_25 sz_69 zo_69 rfl rfl ?_; intro b52_19
    replace hF := obind hF
    obtain ⟨x20, hx20, hF⟩ := hF
    obtain ⟨hr20, rfl⟩ := appL_some hx20
    refine gs_front (.s (.z)) ?_
    refine gs_pub (.s (.z)) (fun h21 e21 w21 hb21 => ?_)
    have f21_ : RL R_OpX h21 (some ⟨b52_19, 0, none⟩) 2 ([(⟨(⟨#[97]⟩ : ByteArray), ByteArray.empty, false⟩ : OpX), (⟨(⟨#[97]⟩ : ByteArray), ByteArray.empty, true⟩ : OpX)] : List OpX) := RL.of_blk (rows := [[.string (⟨#[97]⟩ : ByteArray), .string ByteArray.empty, .bool false], [.string (⟨#[97]⟩ : ByteArray), .string ByteArray.empty, .bool true]]) (.inl rfl) hb21 rfl (Rws.cons (x := (⟨(⟨#[97]⟩ : ByteArray), ByteArray.empty, false⟩ : OpX)) rfl (Rws.cons (x := (⟨(⟨#[97]⟩ : ByteArray), ByteArray.empty, true⟩ : OpX)) rfl Rws.nil)) (by simp) (by simp) rfl
    obtain ⟨rw20, hw20, hq20⟩ := RL.first f21_ (by decide)
    refine gs_app (rows2 := rw20) (R := R_OpX) rfl (os1 (ot rfl) (os1 (ot rfl) os0)) rfl ut_25 sz_69 rfl (by decide) by_69 zo_69 rfl zs_25_25 rfl rfl (first_e hq20 (fun h' kn => kn.firstV hq20)) hw20 (f18_.ext e21.kn) hr20 (fun p20_ tl20 f20_ => ?_)
    refine gr rfl (r_fa (ot rfl) (fa_27_5 _ _)) ?_
    refine gs_store (ot rfl) (ot rfl) sz_25 rfl rfl rfl rfl rfl (.s (.s (.z))) ?_
    refine go_nil ?_
    refine go_seq ?_
    refine go_region ?_
    refine gr rfl (r_load (ot rfl) (lm_w (mem_seg 12 rfl) ag_27 sz_27 rfl)) ?_
    refine gs_alloc rfl zo_27 rfl ?_; intro b10_22
    refine gs_store (ot rfl) (ot rfl) sz_27 rfl rfl rfl rfl rfl .z ?_
    refine go_nil ?_
    refine go_seq ?_
    refine go_region ?_
    refine gs_bslice (cs := []) rfl op0 ut_24 sz_65 zo_65 rfl rfl ?_; intro b56_23
    refine gr rfl (r_fa (ot rfl) (fa_27_3 _ _)) ?_
    refine gr rfl (r_load (ot rfl) (lm_s (mem_seg 14 rfl) ag_24 rfl)) ?_
    replace hF := obind hF
    obtain ⟨x24, hx24, hF⟩ := hF
    obtain ⟨hr24, rfl⟩ := appL_some hx24
    obtain ⟨rw24, hw24, hq24⟩ := RL.first (f0_4.ext e21.kn) (by decide)
    refine gs_app0 (rows2 := rw24) (R := R_Cmp) rfl (os1 (ot rfl) (os1 (ot rfl) os0)) rfl ut_24 sz_65 rfl (by decide) by_65 zo_65 rfl zs_24_24 rfl rfl (first_e hq24 (fun h' kn => kn.firstV hq24)) hw24 (AccR.lit _ _ _ _) hr24 (fun p24_ tl24 f24_ => ?_)
    refine gr rfl (r_build (op1 (oc rfl) (op1 (oc rfl) op0)) rfl) ?_
    refine gs_bslice (cs := [.int .i64 3, .string (⟨#[97]⟩ : ByteArray), .string ByteArray.empty, .int .i64 0]) rfl (op1 (ot rfl) op0) ut_24 sz_65 zo_65 rfl rfl ?_; intro b61_25
    replace hF := obind hF
    obtain ⟨x26, hx26, hF⟩ := hF
    obtain ⟨hr26, rfl⟩ := appL_some hx26
    refine gs_front (.s (.z)) ?_
    refine gs_app (rows2 := [[.int .i64 3, .string (⟨#[97]⟩ : ByteArray), .string ByteArray.empty, .int .i64 0]]) (R := R_Cmp) rfl (os1 (ot rfl) (os1 (ot rfl) os0)) rfl ut_24 sz_65 rfl (by decide) by_65 zo_65 rfl zs_24_24 rfl rfl (first_m (mem_seg 1 rfl) rfl (by decide)) (Rws.one (x := (⟨3, (⟨#[97]⟩ : ByteArray), ByteArray.empty, 0⟩ : Cmp)) rfl) f24_ hr26 (fun p26_ tl26 f26_ => ?_)
    refine gr rfl (r_fa (ot rfl) (fa_27_3 _ _)) ?_
    refine gs_store (ot rfl) (ot rfl) sz_24 rfl rfl rfl rfl rfl (.s (.s (.s (.z)))) ?_
    refine go_nil ?_
    refine go_seq ?_
    refine go_region ?_
    refine gr rfl (r_load (ot rfl) (lm_w (mem_seg 16 rfl) ag_27 sz_27 rfl)) ?_
    refine gs_alloc rfl zo_27 rfl ?_; intro b11_27
    refine gs_store (ot rfl) (ot rfl) sz_27 rfl rfl rfl rfl rfl .z ?_
    refine go_nil ?_
    refine go_seq ?_
    refine go_region ?_
    refine gs_mslice (cs := [.int .i64 0, .string ByteArray.empty, .string ByteArray.empty, .int .i64 0, .int .i64 0, .string ByteArray.empty, .string ByteArray.empty, .int .i64 0, .int .i64 0, .string ByteArray.empty, .string ByteArray.empty, .int .i64 0, .int .i64 0, .string ByteArray.empty, .string ByteArray.empty, .int .i64 0, .int .i64 0, .string ByteArray.empty, .string ByteArray.empty, .int .i64 0]) rfl (oc rfl) (oc rfl) ut_24 sz_65 by_65 zo_65 rfl rfl ?_; intro b65_28
    refine gr rfl (r_fa (ot rfl) (fa_27_3 _ _)) ?_
    refine gs_store (ot rfl) (ot rfl) sz_24 rfl rfl rfl rfl rfl (.s (.z)) ?_
    refine go_nil ?_
    refine go_seq ?_
    refine go_region ?_
    refine gM rfl rfl ?_
    refine gM rfl rfl ?_
    refine g_do rfl rfl rfl ?_
    refine gr rfl (r_load (ot rfl) (lm_w (mem_seg 17 rfl) ag_27 sz_27 rfl)) ?_
    refine g_do rfl rfl rfl ?_
    replace hF := obind hF
    obtain ⟨x29, hx29, hF⟩ := hF
    refine g_callp (v := .int .i64 x29) EE_fr rfl of (os1 (ot rfl) os0) hb_28 (fun _ => rfl) (fun hf kn w => by exact s_txn_May w (⟨(IntKind.i64.wrap (4 + (IntKind.i64.wrap p1))), p0.R, p0.Rev, p0.Cmps, p0.Then, p0.Else⟩ : TReq) ((f0_4.ext e21.kn).ext kn) ((f0_5.ext e21.kn).ext kn) ((f0_6.ext e21.kn).ext kn) hx29) ?_
    refine g_do rfl rfl rfl ?_
    refine gr rfl (r_bin (ot rfl) (oc rfl) rfl) ?_
    refine gr rfl (r_pkT (ot rfl) (ot rfl)) ?_
    refine gM rfl rfl ?_
    refine gs_accpub (.s (.s (.s (.s (.s (.s (.s (.s (.s (.s (.s (.s (.s (.z)))))))))))))) (f10_.ext e21.kn) (fun h31 e31 w31 f31_ => ?_) rfl
    replace hF := obind hF
    obtain ⟨s32, hF, hK32⟩ := hF
    refine go_joinr 4 (β := Unit) (fun s h' => True) (fun s => [(4, true, .bool false), (8, true, .pointer (some ⟨b8_11, 0, none⟩)), (9, true, .pointer (some ⟨b9_16, 0, none⟩)), (10, true, .pointer (some ⟨b10_22, 0, none⟩)), (11, true, .pointer (some ⟨b11_27, 0, none⟩)), (77, true, .bool s32)]) (fun s => (List.flatten [[⟨b65_28, .cells [.int .i64 0, .string ByteArray.empty, .string ByteArray.empty, .int .i64 0, .int .i64 0, .string ByteArray.empty, .string ByteArray.empty, .int .i64 0, .int .i64 0, .string ByteArray.empty, .string ByteArray.empty, .int .i64 0, .int .i64 0, .string ByteArray.empty, .string ByteArray.empty, .int .i64 0, .int .i64 0, .string ByteArray.empty, .string ByteArray.empty, .int .i64 0] 65⟩], [⟨b11_27, .cells [.int .i64 p0.Kind, .string p0.R.From, .string p0.R.To, .int .i64 p0.Rev, .slice (some ⟨b65_28, 0, none⟩) 5 5, .slice a0_5 p0.Then.length c0_5, .slice a0_6 p0.Else.length c0_6] 27⟩], tl26, [⟨b61_25, .cells [.int .i64 3, .string (⟨#[97]⟩ : ByteArray), .string ByteArray.empty, .int .i64 0] 65⟩], [⟨b56_23, .cells [] 65⟩], [⟨b10_22, .cells [.int .i64 p0.Kind, .string p0.R.From, .string p0.R.To, .int .i64 p0.Rev, .slice p26_ ((([] : List Cmp) ++ p0.Cmps) ++ ([(⟨3, (⟨#[97]⟩ : ByteArray), ByteArray.empty, 0⟩ : Cmp)] : List Cmp)).length ((([] : List Cmp) ++ p0.Cmps) ++ ([(⟨3, (⟨#[97]⟩ : ByteArray), ByteArray.empty, 0⟩ : Cmp)] : List Cmp)).length, .slice a0_5 p0.Then.length c0_5, .slice a0_6 p0.Else.length c0_6] 27⟩], tl20, [⟨b46_17, .cells [] 69⟩], [⟨b9_16, .cells [.int .i64 p0.Kind, .string p0.R.From, .string p0.R.To, .int .i64 p0.Rev, .slice a0_4 p0.Cmps.length c0_4, .slice a0_5 p0.Then.length c0_5, .slice p20_ ((([] : List OpX) ++ p0.Else) ++ ([(⟨(⟨#[97]⟩ : ByteArray), ByteArray.empty, false⟩ : OpX), (⟨(⟨#[97]⟩ : ByteArray), ByteArray.empty, true⟩ : OpX)] : List OpX)).length ((([] : List OpX) ++ p0.Else) ++ ([(⟨(⟨#[97]⟩ : ByteArray), ByteArray.empty, false⟩ : OpX), (⟨(⟨#[97]⟩ : ByteArray), ByteArray.empty, true⟩ : OpX)] : List OpX)).length] 27⟩], tl15, [⟨b42_14, .cells [.string (⟨#[97]⟩ : ByteArray), .string (⟨#[49, 50, 51, 52, 53, 54, 55, 56, 57]⟩ : ByteArray), .bool false] 69⟩], [⟨b37_12, .cells [] 69⟩], [⟨b8_11, .cells [.int .i64 p0.Kind, .string p0.R.From, .string p0.R.To, .int .i64 p0.Rev, .slice a0_4 p0.Cmps.length c0_4, .slice p15_ ((([] : List OpX) ++ p0.Then) ++ ([(⟨(⟨#[97]⟩ : ByteArray), (⟨#[49, 50, 51, 52, 53, 54, 55, 56, 57]⟩ : ByteArray), false⟩ : OpX)] : List OpX)).length ((([] : List OpX) ++ p0.Then) ++ ([(⟨(⟨#[97]⟩ : ByteArray), (⟨#[49, 50, 51, 52, 53, 54, 55, 56, 57]⟩ : ByteArray), false⟩ : OpX)] : List OpX)).length, .slice a0_6 p0.Else.length c0_6] 27⟩], [⟨b33_9, .cells [.string (⟨#[49, 50, 51, 52, 53, 54, 55, 56, 57]⟩ : ByteArray), .string ByteArray.empty, .bool false] 69⟩], [⟨b28_7, .cells [] 69⟩], [⟨b7_6, .cells [.int .i64 p0.Kind, .string p0.R.From, .string p0.R.To, .int .i64 p0.Rev, .slice a0_4 p0.Cmps.length c0_4, .slice p10_ (((([] : List OpX) ++ p0.Then) ++ ([(⟨(⟨#[49, 50, 51, 52, 53, 54, 55, 56, 57]⟩ : ByteArray), ByteArray.empty, false⟩ : OpX)] : List OpX)).length) (((([] : List OpX) ++ p0.Then) ++ ([(⟨(⟨#[49, 50, 51, 52, 53, 54, 55, 56, 57]⟩ : ByteArray), ByteArray.empty, false⟩ : OpX)] : List OpX)).length), .slice a0_6 p0.Else.length c0_6] 27⟩], [⟨b6_5, .cells [.int .i64 (IntKind.i64.wrap (4 + (IntKind.i64.wrap p1))), .string p0.R.From, .string p0.R.To, .int .i64 p0.Rev, .slice a0_4 p0.Cmps.length c0_4, .slice a0_5 p0.Then.length c0_5, .slice a0_6 p0.Else.length c0_6] 27⟩], [⟨b2_1, .cells [.int .i64 p0.Kind, .string p0.R.From, .string p0.R.To, .int .i64 p0.Rev, .slice a0_4 p0.Cmps.length c0_4, .slice a0_5 p0.Then.length c0_5, .slice a0_6 p0.Else.length c0_6] 27⟩]] : List Blk)) ?_ (fun J32 => ?_)
    ·
      rintro _ h32 e32 w32 _
      replace hF := hK32
      refine gM rfl rfl ?_
      refine gs_accpub (.s (.s (.s (.s (.s (.s (.s (.s (.s (.z)))))))))) (((f15_.ext e21.kn).ext e31.kn).ext e32.kn) (fun h34 e34 w34 f34_ => ?_) rfl
      replace hF := obind hF
      obtain ⟨s35, hF, hK35⟩ := hF
      refine go_joinr 4 (β := Unit) (fun s h' => True) (fun s => [(4, true, .bool false), (9, true, .pointer (some ⟨b9_16, 0, none⟩)), (10, true, .pointer (some ⟨b10_22, 0, none⟩)), (11, true, .pointer (some ⟨b11_27, 0, none⟩)), (82, true, .bool s35)]) (fun s => (List.flatten [[⟨b65_28, .cells [.int .i64 0, .string ByteArray.empty, .string ByteArray.empty, .int .i64 0, .int .i64 0, .string ByteArray.empty, .string ByteArray.empty, .int .i64 0, .int .i64 0, .string ByteArray.empty, .string ByteArray.empty, .int .i64 0, .int .i64 0, .string ByteArray.empty, .string ByteArray.empty, .int .i64 0, .int .i64 0, .string ByteArray.empty, .string ByteArray.empty, .int .i64 0] 65⟩], [⟨b11_27, .cells [.int .i64 p0.Kind, .string p0.R.From, .string p0.R.To, .int .i64 p0.Rev, .slice (some ⟨b65_28, 0, none⟩) 5 5, .slice a0_5 p0.Then.length c0_5, .slice a0_6 p0.Else.length c0_6] 27⟩], tl26, [⟨b61_25, .cells [.int .i64 3, .string (⟨#[97]⟩ : ByteArray), .string ByteArray.empty, .int .i64 0] 65⟩], [⟨b56_23, .cells [] 65⟩], [⟨b10_22, .cells [.int .i64 p0.Kind, .string p0.R.From, .string p0.R.To, .int .i64 p0.Rev, .slice p26_ ((([] : List Cmp) ++ p0.Cmps) ++ ([(⟨3, (⟨#[97]⟩ : ByteArray), ByteArray.empty, 0⟩ : Cmp)] : List Cmp)).length ((([] : List Cmp) ++ p0.Cmps) ++ ([(⟨3, (⟨#[97]⟩ : ByteArray), ByteArray.empty, 0⟩ : Cmp)] : List Cmp)).length, .slice a0_5 p0.Then.length c0_5, .slice a0_6 p0.Else.length c0_6] 27⟩], tl20, [⟨b46_17, .cells [] 69⟩], [⟨b9_16, .cells [.int .i64 p0.Kind, .string p0.R.From, .string p0.R.To, .int .i64 p0.Rev, .slice a0_4 p0.Cmps.length c0_4, .slice a0_5 p0.Then.length c0_5, .slice p20_ ((([] : List OpX) ++ p0.Else) ++ ([(⟨(⟨#[97]⟩ : ByteArray), ByteArray.empty, false⟩ : OpX), (⟨(⟨#[97]⟩ : ByteArray), ByteArray.empty, true⟩ : OpX)] : List OpX)).length ((([] : List OpX) ++ p0.Else) ++ ([(⟨(⟨#[97]⟩ : ByteArray), ByteArray.empty, false⟩ : OpX), (⟨(⟨#[97]⟩ : ByteArray), ByteArray.empty, true⟩ : OpX)] : List OpX)).length] 27⟩], [⟨b42_14, .cells [.string (⟨#[97]⟩ : ByteArray), .string (⟨#[49, 50, 51, 52, 53, 54, 55, 56, 57]⟩ : ByteArray), .bool false] 69⟩], [⟨b37_12, .cells [] 69⟩], [⟨b8_11, .cells [.int .i64 p0.Kind, .string p0.R.From, .string p0.R.To, .int .i64 p0.Rev, .slice a0_4 p0.Cmps.length c0_4, .slice p15_ (((([] : List OpX) ++ p0.Then) ++ ([(⟨(⟨#[97]⟩ : ByteArray), (⟨#[49, 50, 51, 52, 53, 54, 55, 56, 57]⟩ : ByteArray), false⟩ : OpX)] : List OpX)).length) (((([] : List OpX) ++ p0.Then) ++ ([(⟨(⟨#[97]⟩ : ByteArray), (⟨#[49, 50, 51, 52, 53, 54, 55, 56, 57]⟩ : ByteArray), false⟩ : OpX)] : List OpX)).length), .slice a0_6 p0.Else.length c0_6] 27⟩], [⟨b33_9, .cells [.string (⟨#[49, 50, 51, 52, 53, 54, 55, 56, 57]⟩ : ByteArray), .string ByteArray.empty, .bool false] 69⟩], [⟨b28_7, .cells [] 69⟩], [⟨b7_6, .cells [.int .i64 p0.Kind, .string p0.R.From, .string p0.R.To, .int .i64 p0.Rev, .slice a0_4 p0.Cmps.length c0_4, .slice p10_ (((([] : List OpX) ++ p0.Then) ++ ([(⟨(⟨#[49, 50, 51, 52, 53, 54, 55, 56, 57]⟩ : ByteArray), ByteArray.empty, false⟩ : OpX)] : List OpX)).length) (((([] : List OpX) ++ p0.Then) ++ ([(⟨(⟨#[49, 50, 51, 52, 53, 54, 55, 56, 57]⟩ : ByteArray), ByteArray.empty, false⟩ : OpX)] : List OpX)).length), .slice a0_6 p0.Else.length c0_6] 27⟩], [⟨b6_5, .cells [.int .i64 (IntKind.i64.wrap (4 + (IntKind.i64.wrap p1))), .string p0.R.From, .string p0.R.To, .int .i64 p0.Rev, .slice a0_4 p0.Cmps.length c0_4, .slice a0_5 p0.Then.length c0_5, .slice a0_6 p0.Else.length c0_6] 27⟩], [⟨b2_1, .cells [.int .i64 p0.Kind, .string p0.R.From, .string p0.R.To, .int .i64 p0.Rev, .slice a0_4 p0.Cmps.length c0_4, .slice a0_5 p0.Then.length c0_5, .slice a0_6 p0.Else.length c0_6] 27⟩]] : List Blk)) ?_ (fun J35 => ?_)
      ·
        rintro _ h35 e35 w35 _
        replace hF := hK35
        refine gM rfl rfl ?_
        refine gs_accpub (.s (.s (.s (.s (.s (.s (.z))))))) ((((f20_.ext e31.kn).ext e32.kn).ext e34.kn).ext e35.kn) (fun h37 e37 w37 f37_ => ?_) rfl
        replace hF := obind hF
        obtain ⟨s38, hF, hK38⟩ := hF
        refine go_joinr 4 (β := Unit) (fun s h' => True) (fun s => [(4, true, .bool false), (10, true, .pointer (some ⟨b10_22, 0, none⟩)), (11, true, .pointer (some ⟨b11_27, 0, none⟩)), (87, true, .bool s38)]) (fun s => (List.flatten [[⟨b65_28, .cells [.int .i64 0, .string ByteArray.empty, .string ByteArray.empty, .int .i64 0, .int .i64 0, .string ByteArray.empty, .string ByteArray.empty, .int .i64 0, .int .i64 0, .string ByteArray.empty, .string ByteArray.empty, .int .i64 0, .int .i64 0, .string ByteArray.empty, .string ByteArray.empty, .int .i64 0, .int .i64 0, .string ByteArray.empty, .string ByteArray.empty, .int .i64 0] 65⟩], [⟨b11_27, .cells [.int .i64 p0.Kind, .string p0.R.From, .string p0.R.To, .int .i64 p0.Rev, .slice (some ⟨b65_28, 0, none⟩) 5 5, .slice a0_5 p0.Then.length c0_5, .slice a0_6 p0.Else.length c0_6] 27⟩], tl26, [⟨b61_25, .cells [.int .i64 3, .string (⟨#[97]⟩ : ByteArray), .string ByteArray.empty, .int .i64 0] 65⟩], [⟨b56_23, .cells [] 65⟩], [⟨b10_22, .cells [.int .i64 p0.Kind, .string p0.R.From, .string p0.R.To, .int .i64 p0.Rev, .slice p26_ ((([] : List Cmp) ++ p0.Cmps) ++ ([(⟨3, (⟨#[97]⟩ : ByteArray), ByteArray.empty, 0⟩ : Cmp)] : List Cmp)).length ((([] : List Cmp) ++ p0.Cmps) ++ ([(⟨3, (⟨#[97]⟩ : ByteArray), ByteArray.empty, 0⟩ : Cmp)] : List Cmp)).length, .slice a0_5 p0.Then.length c0_5, .slice a0_6 p0.Else.length c0_6] 27⟩], [⟨b46_17, .cells [] 69⟩], [⟨b9_16, .cells [.int .i64 p0.Kind, .string p0.R.From, .string p0.R.To, .int .i64 p0.Rev, .slice a0_4 p0.Cmps.length c0_4, .slice a0_5 p0.Then.length c0_5, .slice p20_ (((([] : List OpX) ++ p0.Else) ++ ([(⟨(⟨#[97]⟩ : ByteArray), ByteArray.empty, false⟩ : OpX), (⟨(⟨#[97]⟩ : ByteArray), ByteArray.empty, true⟩ : OpX)] : List OpX)).length) (((([] : List OpX) ++ p0.Else) ++ ([(⟨(⟨#[97]⟩ : ByteArray), ByteArray.empty, false⟩ : OpX), (⟨(⟨#[97]⟩ : ByteArray), ByteArray.empty, true⟩ : OpX)] : List OpX)).length)] 27⟩], [⟨b42_14, .cells [.string (⟨#[97]⟩ : ByteArray), .string (⟨#[49, 50, 51, 52, 53, 54, 55, 56, 57]⟩ : ByteArray), .bool false] 69⟩], [⟨b37_12, .cells [] 69⟩], [⟨b8_11, .cells [.int .i64 p0.Kind, .string p0.R.From, .string p0.R.To, .int .i64 p0.Rev, .slice a0_4 p0.Cmps.length c0_4, .slice p15_ (((([] : List OpX) ++ p0.Then) ++ ([(⟨(⟨#[97]⟩ : ByteArray), (⟨#[49, 50, 51, 52, 53, 54, 55, 56, 57]⟩ : ByteArray), false⟩ : OpX)] : List OpX)).length) (((([] : List OpX) ++ p0.Then) ++ ([(⟨(⟨#[97]⟩ : ByteArray), (⟨#[49, 50, 51, 52, 53, 54, 55, 56, 57]⟩ : ByteArray), false⟩ : OpX)] : List OpX)).length), .slice a0_6 p0.Else.length c0_6] 27⟩], [⟨b33_9, .cells [.string (⟨#[49, 50, 51, 52, 53, 54, 55, 56, 57]⟩ : ByteArray), .string ByteArray.empty, .bool false] 69⟩], [⟨b28_7, .cells [] 69⟩], [⟨b7_6, .cells [.int .i64 p0.Kind, .string p0.R.From, .string p0.R.To, .int .i64 p0.Rev, .slice a0_4 p0.Cmps.length c0_4, .slice p10_ (((([] : List OpX) ++ p0.Then) ++ ([(⟨(⟨#[49, 50, 51, 52, 53, 54, 55, 56, 57]⟩ : ByteArray), ByteArray.empty, false⟩ : OpX)] : List OpX)).length) (((([] : List OpX) ++ p0.Then) ++ ([(⟨(⟨#[49, 50, 51, 52, 53, 54, 55, 56, 57]⟩ : ByteArray), ByteArray.empty, false⟩ : OpX)] : List OpX)).length), .slice a0_6 p0.Else.length c0_6] 27⟩], [⟨b6_5, .cells [.int .i64 (IntKind.i64.wrap (4 + (IntKind.i64.wrap p1))), .string p0.R.From, .string p0.R.To, .int .i64 p0.Rev, .slice a0_4 p0.Cmps.length c0_4, .slice a0_5 p0.Then.length c0_5, .slice a0_6 p0.Else.length c0_6] 27⟩], [⟨b2_1, .cells [.int .i64 p0.Kind, .string p0.R.From, .string p0.R.To, .int .i64 p0.Rev, .slice a0_4 p0.Cmps.length c0_4, .slice a0_5 p0.Then.length c0_5, .slice a0_6 p0.Else.length c0_6] 27⟩]] : List Blk)) ?_ (fun J38 => ?_)
        ·
          rintro _ h38 e38 w38 _
          replace hF := hK38
          refine gM rfl rfl ?_
          refine gs_accpub (.s (.s (.z))) ((((((f26_.ext e31.kn).ext e32.kn).ext e34.kn).ext e35.kn).ext e37.kn).ext e38.kn) (fun h40 e40 w40 f40_ => ?_) rfl
          replace hF := obind hF
          obtain ⟨s41, hF, hK41⟩ := hF
          refine go_joinr 4 (β := Unit) (fun s h' => True) (fun s => [(4, true, .bool false), (11, true, .pointer (some ⟨b11_27, 0, none⟩)), (92, true, .bool s41)]) (fun s => (List.flatten [[⟨b65_28, .cells [.int .i64 0, .string ByteArray.empty, .string ByteArray.empty, .int .i64 0, .int .i64 0, .string ByteArray.empty, .string ByteArray.empty, .int .i64 0, .int .i64 0, .string ByteArray.empty, .string ByteArray.empty, .int .i64 0, .int .i64 0, .string ByteArray.empty, .string ByteArray.empty, .int .i64 0, .int .i64 0, .string ByteArray.empty, .string ByteArray.empty, .int .i64 0] 65⟩], [⟨b11_27, .cells [.int .i64 p0.Kind, .string p0.R.From, .string p0.R.To, .int .i64 p0.Rev, .slice (some ⟨b65_28, 0, none⟩) 5 5, .slice a0_5 p0.Then.length c0_5, .slice a0_6 p0.Else.length c0_6] 27⟩], [⟨b61_25, .cells [.int .i64 3, .string (⟨#[97]⟩ : ByteArray), .string ByteArray.empty, .int .i64 0] 65⟩], [⟨b56_23, .cells [] 65⟩], [⟨b10_22, .cells [.int .i64 p0.Kind, .string p0.R.From, .string p0.R.To, .int .i64 p0.Rev, .slice p26_ (((([] : List Cmp) ++ p0.Cmps) ++ ([(⟨3, (⟨#[97]⟩ : ByteArray), ByteArray.empty, 0⟩ : Cmp)] : List Cmp)).length) (((([] : List Cmp) ++ p0.Cmps) ++ ([(⟨3, (⟨#[97]⟩ : ByteArray), ByteArray.empty, 0⟩ : Cmp)] : List Cmp)).length), .slice a0_5 p0.Then.length c0_5, .slice a0_6 p0.Else.length c0_6] 27⟩], [⟨b46_17, .cells [] 69⟩], [⟨b9_16, .cells [.int .i64 p0.Kind, .string p0.R.From, .string p0.R.To, .int .i64 p0.Rev, .slice a0_4 p0.Cmps.length c0_4, .slice a0_5 p0.Then.length c0_5, .slice p20_ (((([] : List OpX) ++ p0.Else) ++ ([(⟨(⟨#[97]⟩ : ByteArray), ByteArray.empty, false⟩ : OpX), (⟨(⟨#[97]⟩ : ByteArray), ByteArray.empty, true⟩ : OpX)] : List OpX)).length) (((([] : List OpX) ++ p0.Else) ++ ([(⟨(⟨#[97]⟩ : ByteArray), ByteArray.empty, false⟩ : OpX), (⟨(⟨#[97]⟩ : ByteArray), ByteArray.empty, true⟩ : OpX)] : List OpX)).length)] 27⟩], [⟨b42_14, .cells [.string (⟨#[97]⟩ : ByteArray), .string (⟨#[49, 50, 51, 52, 53, 54, 55, 56, 57]⟩ : ByteArray), .bool false] 69⟩], [⟨b37_12, .cells [] 69⟩], [⟨b8_11, .cells [.int .i64 p0.Kind, .string p0.R.From, .string p0.R.To, .int .i64 p0.Rev, .slice a0_4 p0.Cmps.length c0_4, .slice p15_ (((([] : List OpX) ++ p0.Then) ++ ([(⟨(⟨#[97]⟩ : ByteArray), (⟨#[49, 50, 51, 52, 53, 54, 55, 56, 57]⟩ : ByteArray), false⟩ : OpX)] : List OpX)).length) (((([] : List OpX) ++ p0.Then) ++ ([(⟨(⟨#[97]⟩ : ByteArray), (⟨#[49, 50, 51, 52, 53, 54, 55, 56, 57]⟩ : ByteArray), false⟩ : OpX)] : List OpX)).length), .slice a0_6 p0.Else.length c0_6] 27⟩], [⟨b33_9, .cells [.string (⟨#[49, 50, 51, 52, 53, 54, 55, 56, 57]⟩ : ByteArray), .string ByteArray.empty, .bool false] 69⟩], [⟨b28_7, .cells [] 69⟩], [⟨b7_6, .cells [.int .i64 p0.Kind, .string p0.R.From, .string p0.R.To, .int .i64 p0.Rev, .slice a0_4 p0.Cmps.length c0_4, .slice p10_ (((([] : List OpX) ++ p0.Then) ++ ([(⟨(⟨#[49, 50, 51, 52, 53, 54, 55, 56, 57]⟩ : ByteArray), ByteArray.empty, false⟩ : OpX)] : List OpX)).length) (((([] : List OpX) ++ p0.Then) ++ ([(⟨(⟨#[49, 50, 51, 52, 53, 54, 55, 56, 57]⟩ : ByteArray), ByteArray.empty, false⟩ : OpX)] : List OpX)).length), .slice a0_6 p0.Else.length c0_6] 27⟩], [⟨b6_5, .cells [.int .i64 (IntKind.i64.wrap (4 + (IntKind.i64.wrap p1))), .string p0.R.From, .string p0.R.To, .int .i64 p0.Rev, .slice a0_4 p0.Cmps.length c0_4, .slice a0_5 p0.Then.length c0_5, .slice a0_6 p0.Else.length c0_6] 27⟩], [⟨b2_1, .cells [.int .i64 p0.Kind, .string p0.R.From, .string p0.R.To, .int .i64 p0.Rev, .slice a0_4 p0.Cmps.length c0_4, .slice a0_5 p0.Then.length c0_5, .slice a0_6 p0.Else.length c0_6] 27⟩]] : List Blk)) ?_ (fun J41 => ?_)
          ·
            rintro _ h41 e41 w41 _
            replace hF := hK41
            refine gM rfl rfl ?_
            refine gs_pub .z (fun h43 e43 w43 hb43 => ?_)
            have f43_ : RL R_Cmp h43 (some ⟨b65_28, 0, none⟩) 5 ([(⟨0, ByteArray.empty, ByteArray.empty, 0⟩ : Cmp), (⟨0, ByteArray.empty, ByteArray.empty, 0⟩ : Cmp), (⟨0, ByteArray.empty, ByteArray.empty, 0⟩ : Cmp), (⟨0, ByteArray.empty, ByteArray.empty, 0⟩ : Cmp), (⟨0, ByteArray.empty, ByteArray.empty, 0⟩ : Cmp)] : List Cmp) := RL.of_blk (rows := [[.int .i64 0, .string ByteArray.empty, .string ByteArray.empty, .int .i64 0], [.int .i64 0, .string ByteArray.empty, .string ByteArray.empty, .int .i64 0], [.int .i64 0, .string ByteArray.empty, .string ByteArray.empty, .int .i64 0], [.int .i64 0, .string ByteArray.empty, .string ByteArray.empty, .int .i64 0], [.int .i64 0, .string ByteArray.empty, .string ByteArray.empty, .int .i64 0]]) (.inl rfl) hb43 rfl (Rws.cons (x := (⟨0, ByteArray.empty, ByteArray.empty, 0⟩ : Cmp)) rfl (Rws.cons (x := (⟨0, ByteArray.empty, ByteArray.empty, 0⟩ : Cmp)) rfl (Rws.cons (x := (⟨0, ByteArray.empty, ByteArray.empty, 0⟩ : Cmp)) rfl (Rws.cons (x := (⟨0, ByteArray.empty, ByteArray.empty, 0⟩ : Cmp)) rfl (Rws.cons (x := (⟨0, ByteArray.empty, ByteArray.empty, 0⟩ : Cmp)) rfl Rws.nil))))) (by simp) (by simp) rfl
            replace hF := obind hF
            obtain ⟨s44, hF, hK44⟩ := hF
            refine go_joinr 4 (β := Unit) (fun s h' => True) (fun s => [(4, true, .bool false), (97, true, .bool s44)]) (fun s => (List.flatten [[⟨b11_27, .cells [.int .i64 p0.Kind, .string p0.R.From, .string p0.R.To, .int .i64 p0.Rev, .slice (some ⟨b65_28, 0, none⟩) 5 5, .slice a0_5 p0.Then.length c0_5, .slice a0_6 p0.Else.length c0_6] 27⟩], [⟨b61_25, .cells [.int .i64 3, .string (⟨#[97]⟩ : ByteArray), .string ByteArray.empty, .int .i64 0] 65⟩], [⟨b56_23, .cells [] 65⟩], [⟨b10_22, .cells [.int .i64 p0.Kind, .string p0.R.From, .string p0.R.To, .int .i64 p0.Rev, .slice p26_ (((([] : List Cmp) ++ p0.Cmps) ++ ([(⟨3, (⟨#[97]⟩ : ByteArray), ByteArray.empty, 0⟩ : Cmp)] : List Cmp)).length) (((([] : List Cmp) ++ p0.Cmps) ++ ([(⟨3, (⟨#[97]⟩ : ByteArray), ByteArray.empty, 0⟩ : Cmp)] : List Cmp)).length), .slice a0_5 p0.Then.length c0_5, .slice a0_6 p0.Else.length c0_6] 27⟩], [⟨b46_17, .cells [] 69⟩], [⟨b9_16, .cells [.int .i64 p0.Kind, .string p0.R.From, .string p0.R.To, .int .i64 p0.Rev, .slice a0_4 p0.Cmps.length c0_4, .slice a0_5 p0.Then.length c0_5, .slice p20_ (((([] : List OpX) ++ p0.Else) ++ ([(⟨(⟨#[97]⟩ : ByteArray), ByteArray.empty, false⟩ : OpX), (⟨(⟨#[97]⟩ : ByteArray), ByteArray.empty, true⟩ : OpX)] : List OpX)).length) (((([] : List OpX) ++ p0.Else) ++ ([(⟨(⟨#[97]⟩ : ByteArray), ByteArray.empty, false⟩ : OpX), (⟨(⟨#[97]⟩ : ByteArray), ByteArray.empty, true⟩ : OpX)] : List OpX)).length)] 27⟩], [⟨b42_14, .cells [.string (⟨#[97]⟩ : ByteArray), .string (⟨#[49, 50, 51, 52, 53, 54, 55, 56, 57]⟩ : ByteArray), .bool false] 69⟩], [⟨b37_12, .cells [] 69⟩], [⟨b8_11, .cells [.int .i64 p0.Kind, .string p0.R.From, .string p0.R.To, .int .i64 p0.Rev, .slice a0_4 p0.Cmps.length c0_4, .slice p15_ (((([] : List OpX) ++ p0.Then) ++ ([(⟨(⟨#[97]⟩ : ByteArray), (⟨#[49, 50, 51, 52, 53, 54, 55, 56, 57]⟩ : ByteArray), false⟩ : OpX)] : List OpX)).length) (((([] : List OpX) ++ p0.Then) ++ ([(⟨(⟨#[97]⟩ : ByteArray), (⟨#[49, 50, 51, 52, 53, 54, 55, 56, 57]⟩ : ByteArray), false⟩ : OpX)] : List OpX)).length), .slice a0_6 p0.Else.length c0_6] 27⟩], [⟨b33_9, .cells [.string (⟨#[49, 50, 51, 52, 53, 54, 55, 56, 57]⟩ : ByteArray), .string ByteArray.empty, .bool false] 69⟩], [⟨b28_7, .cells [] 69⟩], [⟨b7_6, .cells [.int .i64 p0.Kind, .string p0.R.From, .string p0.R.To, .int .i64 p0.Rev, .slice a0_4 p0.Cmps.length c0_4, .slice p10_ (((([] : List OpX) ++ p0.Then) ++ ([(⟨(⟨#[49, 50, 51, 52, 53, 54, 55, 56, 57]⟩ : ByteArray), ByteArray.empty, false⟩ : OpX)] : List OpX)).length) (((([] : List OpX) ++ p0.Then) ++ ([(⟨(⟨#[49, 50, 51, 52, 53, 54, 55, 56, 57]⟩ : ByteArray), ByteArray.empty, false⟩ : OpX)] : List OpX)).length), .slice a0_6 p0.Else.length c0_6] 27⟩], [⟨b6_5, .cells [.int .i64 (IntKind.i64.wrap (4 + (IntKind.i64.wrap p1))), .string p0.R.From, .string p0.R.To, .int .i64 p0.Rev, .slice a0_4 p0.Cmps.length c0_4, .slice a0_5 p0.Then.length c0_5, .slice a0_6 p0.Else.length c0_6] 27⟩], [⟨b2_1, .cells [.int .i64 p0.Kind, .string p0.R.From, .string p0.R.To, .int .i64 p0.Rev, .slice a0_4 p0.Cmps.length c0_4, .slice a0_5 p0.Then.length c0_5, .slice a0_6 p0.Else.length c0_6] 27⟩]] : List Blk)) ?_ (fun J44 => ?_)
            ·
              rintro _ h44 e44 w44 _
              replace hF := hK44
              refine gA rfl rfl ?_
              refine go_nil ?_
              obtain rfl := someI hF
              exact g_ret (rst rfl rs0) (fun h1 hf hs => ⟨(e21.trans (e31.trans (e32.trans (e34.trans (e35.trans (e37.trans (e38.trans (e40.trans (e41.trans (e43.trans (e44.trans hs.hext))))))))))), rfl⟩)
            ·
              rcases Bool.eq_false_or_eq_true s41 with hb42 | hb42
              ·
                replace hF := ifT hb42 hF
                refine go_re 93 (v2 := .bool true) rfl (congrArg Value.bool hb42) ?_
                refine g_do rfl rfl rfl ?_
                refine gr rfl (r_load (ot rfl) (lm_w (mem_seg 0 rfl) ag_27 sz_27 rfl)) ?_
                refine g_do rfl rfl rfl ?_
                replace hF := obind hF
                obtain ⟨x45, hx45, hF⟩ := hF
                refine g_callp (v := .int .i64 x45) EE_fr rfl of (os1 (ot rfl) os0) hb_28 (fun _ => rfl) (fun hf kn w => by exact s_txn_May w (⟨p0.Kind, p0.R, p0.Rev, ([(⟨0, ByteArray.empty, ByteArray.empty, 0⟩ : Cmp), (⟨0, ByteArray.empty, ByteArray.empty, 0⟩ : Cmp), (⟨0, ByteArray.empty, ByteArray.empty, 0⟩ : Cmp), (⟨0, ByteArray.empty, ByteArray.empty, 0⟩ : Cmp), (⟨0, ByteArray.empty, ByteArray.empty, 0⟩ : Cmp)] : List Cmp), p0.Then, p0.Else⟩ : TReq) (f43_.ext kn) (((((((((((f0_5.ext e21.kn).ext e31.kn).ext e32.kn).ext e34.kn).ext e35.kn).ext e37.kn).ext e38.kn).ext e40.kn).ext e41.kn).ext e43.kn).ext kn) (((((((((((f0_6.ext e21.kn).ext e31.kn).ext e32.kn).ext e34.kn).ext e35.kn).ext e37.kn).ext e38.kn).ext e40.kn).ext e41.kn).ext e43.kn).ext kn) hx45) ?_
                refine g_do rfl rfl rfl ?_
                refine gr rfl (r_bin (ot rfl) (oc rfl) rfl) ?_
                refine gr rfl (r_pkT (ot rfl) (ot rfl)) ?_
                obtain rfl := someI hF
                exact Goes.weak (J44 () _ (HExt.refl _) w43 trivial) (Sub.cons (Sub.cons (Sub.nil _) rfl) rfl)
              ·
                replace hF := ifF hb42 hF
                refine go_re 93 (v2 := .bool false) rfl (congrArg Value.bool hb42) ?_
                refine g_no rfl rfl rfl rfl rfl ?_
                refine g_no rfl rfl rfl rfl rfl ?_
                refine g_no rfl rfl rfl rfl rfl ?_
                refine gr rfl (r_pkF (ot rfl) (oc rfl)) ?_
                obtain rfl := someI hF
                exact Goes.weak (J44 () _ (HExt.refl _) w43 trivial) (Sub.cons (Sub.cons (Sub.nil _) rfl) rfl)
          ·
            rcases Bool.eq_false_or_eq_true s38 with hb39 | hb39
            ·
              replace hF := ifT hb39 hF
              refine go_re 88 (v2 := .bool true) rfl (congrArg Value.bool hb39) ?_
              refine g_do rfl rfl rfl ?_
              refine gr rfl (r_load (ot rfl) (lm_w (mem_seg 4 rfl) ag_27 sz_27 rfl)) ?_
              refine g_do rfl rfl rfl ?_
              replace hF := obind hF
              obtain ⟨x46, hx46, hF⟩ := hF
              refine g_callp (v := .int .i64 x46) EE_fr rfl of (os1 (ot rfl) os0) hb_28 (fun _ => rfl) (fun hf kn w => by exact s_txn_May w (⟨p0.Kind, p0.R, p0.Rev, ((([] : List Cmp) ++ p0.Cmps) ++ ([(⟨3, (⟨#[97]⟩ : ByteArray), ByteArray.empty, 0⟩ : Cmp)] : List Cmp)), p0.Then, p0.Else⟩ : TReq) (f40_.ext kn) (((((((((f0_5.ext e21.kn).ext e31.kn).ext e32.kn).ext e34.kn).ext e35.kn).ext e37.kn).ext e38.kn).ext e40.kn).ext kn) (((((((((f0_6.ext e21.kn).ext e31.kn).ext e32.kn).ext e34.kn).ext e35.kn).ext e37.kn).ext e38.kn).ext e40.kn).ext kn) hx46) ?_
              refine g_do rfl rfl rfl ?_
              refine gr rfl (r_bin (ot rfl) (oc rfl) rfl) ?_
              refine gr rfl (r_pkT (ot rfl) (ot rfl)) ?_
              obtain rfl := someI hF
              exact Goes.weak (J41 () _ (HExt.refl _) w40 trivial) (Sub.cons (Sub.cons (Sub.cons (Sub.nil _) rfl) rfl) rfl)
            ·
              replace hF := ifF hb39 hF
              refine go_re 88 (v2 := .bool false) rfl (congrArg Value.bool hb39) ?_
              refine g_no rfl rfl rfl rfl rfl ?_
              refine g_no rfl rfl rfl rfl rfl ?_
              refine g_no rfl rfl rfl rfl rfl ?_
              refine gr rfl (r_pkF (ot rfl) (oc rfl)) ?_
              obtain rfl := someI hF
              exact Goes.weak (J41 () _ (HExt.refl _) w40 trivial) (Sub.cons (Sub.cons (Sub.cons (Sub.nil _) rfl) rfl) rfl)
        ·
          rcases Bool.eq_false_or_eq_true s35 with hb36 | hb36
          ·
            replace hF := ifT hb36 hF
            refine go_re 83 (v2 := .bool true) rfl (congrArg Value.bool hb36) ?_
            refine g_do rfl rfl rfl ?_
            refine gr rfl (r_load (ot rfl) (lm_w (mem_seg 7 rfl) ag_27 sz_27 rfl)) ?_
            refine g_do rfl rfl rfl ?_
            replace hF := obind hF
            obtain ⟨x47, hx47, hF⟩ := hF
            refine g_callp (v := .int .i64 x47) EE_fr rfl of (os1 (ot rfl) os0) hb_28 (fun _ => rfl) (fun hf kn w => by exact s_txn_May w (⟨p0.Kind, p0.R, p0.Rev, p0.Cmps, p0.Then, ((([] : List OpX) ++ p0.Else) ++ ([(⟨(⟨#[97]⟩ : ByteArray), ByteArray.empty, false⟩ : OpX), (⟨(⟨#[97]⟩ : ByteArray), ByteArray.empty, true⟩ : OpX)] : List OpX))⟩ : TReq) (((((((f0_4.ext e21.kn).ext e31.kn).ext e32.kn).ext e34.kn).ext e35.kn).ext e37.kn).ext kn) (((((((f0_5.ext e21.kn).ext e31.kn).ext e32.kn).ext e34.kn).ext e35.kn).ext e37.kn).ext kn) (f37_.ext kn) hx47) ?_
            refine g_do rfl rfl rfl ?_
            refine gr rfl (r_bin (ot rfl) (oc rfl) rfl) ?_
            refine gr rfl (r_pkT (ot rfl) (ot rfl)) ?_
            obtain rfl := someI hF
            exact Goes.weak (J38 () _ (HExt.refl _) w37 trivial) (Sub.cons (Sub.cons (Sub.cons (Sub.cons (Sub.nil _) rfl) rfl) rfl) rfl)
          ·
            replace hF := ifF hb36 hF
            refine go_re 83 (v2 := .bool false) rfl (congrArg Value.bool hb36) ?_
            refine g_no rfl rfl rfl rfl rfl ?_
            refine g_no rfl rfl rfl rfl rfl ?_
            refine g_no rfl rfl rfl rfl rfl ?_
            refine gr rfl (r_pkF (ot rfl) (oc rfl)) ?_
            obtain rfl := someI hF
            exact Goes.weak (J38 () _ (HExt.refl _) w37 trivial) (Sub.cons (Sub.cons (Sub.cons (Sub.cons (Sub.nil _) rfl) rfl) rfl) rfl)
      ·
        rcases Bool.eq_false_or_eq_true s32 with hb33 | hb33
        ·
          replace hF := ifT hb33 hF
          refine go_re 78 (v2 := .bool true) rfl (congrArg Value.bool hb33) ?_
          refine g_do rfl rfl rfl ?_
          refine gr rfl (r_load (ot rfl) (lm_w (mem_seg 11 rfl) ag_27 sz_27 rfl)) ?_
          refine g_do rfl rfl rfl ?_
          replace hF := obind hF
          obtain ⟨x48, hx48, hF⟩ := hF
          refine g_callp (v := .int .i64 x48) EE_fr rfl of (os1 (ot rfl) os0) hb_28 (fun _ => rfl) (fun hf kn w => by exact s_txn_May w (⟨p0.Kind, p0.R, p0.Rev, p0.Cmps, ((([] : List OpX) ++ p0.Then) ++ ([(⟨(⟨#[97]⟩ : ByteArray), (⟨#[49, 50, 51, 52, 53, 54, 55, 56, 57]⟩ : ByteArray), false⟩ : OpX)] : List OpX)), p0.Else⟩ : TReq) (((((f0_4.ext e21.kn).ext e31.kn).ext e32.kn).ext e34.kn).ext kn) (f34_.ext kn) (((((f0_6.ext e21.kn).ext e31.kn).ext e32.kn).ext e34.kn).ext kn) hx48) ?_
          refine g_do rfl rfl rfl ?_
          refine gr rfl (r_bin (ot rfl) (oc rfl) rfl) ?_
          refine gr rfl (r_pkT (ot rfl) (ot rfl)) ?_
          obtain rfl := someI hF
          exact Goes.weak (J35 () _ (HExt.refl _) w34 trivial) (Sub.cons (Sub.cons (Sub.cons (Sub.cons (Sub.cons (Sub.nil _) rfl) rfl) rfl) rfl) rfl)
        ·
          replace hF := ifF hb33 hF
          refine go_re 78 (v2 := .bool false) rfl (congrArg Value.bool hb33) ?_
          refine g_no rfl rfl rfl rfl rfl ?_
          refine g_no rfl rfl rfl rfl rfl ?_
          refine g_no rfl rfl rfl rfl rfl ?_
          refine gr rfl (r_pkF (ot rfl) (oc rfl)) ?_
          obtain rfl := someI hF
          exact Goes.weak (J35 () _ (HExt.refl _) w34 trivial) (Sub.cons (Sub.cons (Sub.cons (Sub.cons (Sub.cons (Sub.nil _) rfl) rfl) rfl) rfl) rfl)
    ·
      rcases Bool.eq_false_or_eq_true (x29 == 1) with hb30 | hb30
      ·
        replace hF := ifT hb30 hF
        refine go_re 73 (v2 := .bool true) rfl (congrArg Value.bool hb30) ?_
        refine g_do rfl rfl rfl ?_
        refine gr rfl (r_load (ot rfl) (lm_w (mem_seg 15 rfl) ag_27 sz_27 rfl)) ?_
        refine g_do rfl rfl rfl ?_
        replace hF := obind hF
        obtain ⟨x49, hx49, hF⟩ := hF
        refine g_callp (v := .int .i64 x49) EE_fr rfl of (os1 (ot rfl) os0) hb_28 (fun _ => rfl) (fun hf kn w => by exact s_txn_May w (⟨p0.Kind, p0.R, p0.Rev, p0.Cmps, ((([] : List OpX) ++ p0.Then) ++ ([(⟨(⟨#[49, 50, 51, 52, 53, 54, 55, 56, 57]⟩ : ByteArray), ByteArray.empty, false⟩ : OpX)] : List OpX)), p0.Else⟩ : TReq) (((f0_4.ext e21.kn).ext e31.kn).ext kn) (f31_.ext kn) (((f0_6.ext e21.kn).ext e31.kn).ext kn) hx49) ?_
        refine g_do rfl rfl rfl ?_
        refine gr rfl (r_bin (ot rfl) (oc rfl) rfl) ?_
        refine gr rfl (r_pkT (ot rfl) (ot rfl)) ?_
        obtain rfl := someI hF
        exact Goes.weak (J32 () _ (HExt.refl _) w31 trivial) (Sub.cons (Sub.cons (Sub.cons (Sub.cons (Sub.cons (Sub.cons (Sub.nil _) rfl) rfl) rfl) rfl) rfl) rfl)
      ·
        replace hF := ifF hb30 hF
        refine go_re 73 (v2 := .bool false) rfl (congrArg Value.bool hb30) ?_
        refine g_no rfl rfl rfl rfl rfl ?_
        refine g_no rfl rfl rfl rfl rfl ?_
        refine g_no rfl rfl rfl rfl rfl ?_
        refine gr rfl (r_pkF (ot rfl) (oc rfl)) ?_
        obtain rfl := someI hF
        exact Goes.weak (J32 () _ (HExt.refl _) w31 trivial) (Sub.cons (Sub.cons (Sub.cons (Sub.cons (Sub.cons (Sub.cons (Sub.nil _) rfl) rfl) rfl) rfl) rfl) rfl)
end Go.Proofs.Ytadfhabapgipbaa.V
