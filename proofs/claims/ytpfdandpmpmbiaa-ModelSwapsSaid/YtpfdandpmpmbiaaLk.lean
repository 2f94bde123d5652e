/- The plain law of ModelSwaps.
   No condition: this is a law of plain functions. -/
import Derived.Test.YtpfdandpmpmbiaaHt
import Derived.Test.YtpfdandpmpmbiaaFl
namespace Go.Proofs.Ytpfdandpmpmbiaa.V
open Go
set_option linter.unusedVariables false
set_option linter.unusedSimpArgs false

theorem may_put {k v : ByteArray} (h1 : 1 ≤ k.size) (h8 : k.size ≤ 8) (hv : v.size ≤ 8) : F_txn_May ⟨1, ⟨ByteArray.empty, ByteArray.empty⟩, 0, [], [⟨k, v, false⟩], []⟩ = some 0 := by
  have hk : eqB k ByteArray.empty = false := by
    cases e : eqB k ByteArray.empty
    · rfl
    · rw [eqB_iff] at e; subst e; simp at h1
  have g8 : (k.size : Int) ≤ 8 := by omega
  have gv : ¬ 8 < (v.size : Int) := by omega
  simp [F_txn_May, F_txn_compares, F_slices_ContainsFunc_96_txn_compares_1, F_slices_IndexFunc_111_txn_compares_1, F_slices_IndexFunc_111_txn_compares_1_L1, F_txn_ops, F_txn_ops_L1, lpK, F_key_May, hk, g8, gv, mget, mfind]
theorem may_swap {k v w : ByteArray} (h1 : 1 ≤ k.size) (h8 : k.size ≤ 8) (hv : v.size ≤ 8) (hw : w.size ≤ 8) : F_txn_May ⟨1, ⟨ByteArray.empty, ByteArray.empty⟩, 0, [⟨1, k, v, 0⟩], [⟨k, w, false⟩], []⟩ = some 0 := by
  have hk : eqB k ByteArray.empty = false := by
    cases e : eqB k ByteArray.empty
    · rfl
    · rw [eqB_iff] at e; subst e; simp at h1
  have g8 : (k.size : Int) ≤ 8 := by omega
  have gv : ¬ 8 < (v.size : Int) := by omega
  have gw : ¬ 8 < (w.size : Int) := by omega
  simp [F_txn_May, F_txn_compares, F_slices_ContainsFunc_96_txn_compares_1, F_slices_IndexFunc_111_txn_compares_1, F_slices_IndexFunc_111_txn_compares_1_L1, F_txn_compares_1, F_txn_ops, F_txn_ops_L1, lpK, F_key_May, hk, g8, gv, gw, mget, mfind]
theorem holds_one {n : Nat} {m : List TKV} (hm : So m) (hl : m.length ≤ 1000) (hn : 1000 < n) (K A : ByteArray) : F_txn_Holds n m [⟨1, K, A, 0⟩] = some ((look m K).2 && eqB (look m K).1.Val A) := by
  unfold F_txn_Holds F_slices_ContainsFunc_96_txn_Holds_1 F_slices_IndexFunc_111_txn_Holds_1
  rw [F_slices_IndexFunc_111_txn_Holds_1_L1]
  unfold F_txn_Holds_1
  rw [find_eq hm _ hl hn]
  simp only [Option.bind_some]
  rw [if_pos (by rfl)]
  simp only [Option.bind_some]
  cases (look m K).2 <;> cases eqB (look m K).1.Val A <;> rfl
theorem look_ev {E : List TEvent} {rev : Int} {K V : ByteArray} {m : List TKV} (hm : IsAt (E ++ [⟨rev, K, V, false⟩]) rev all0 m) : look m K = (⟨K, V, rev⟩, true) := by
  rw [look_is hm, onK_app, atT_apd]
  have h1 : onK K [(⟨rev, K, V, false⟩ : TEvent)] = [⟨rev, K, V, false⟩] := by unfold onK; simp
  have h2 : atT [(⟨rev, K, V, false⟩ : TEvent)] rev = some ⟨rev, K, V, false⟩ := by
    unfold atT
    rw [show atT [] rev = none from rfl]
    dsimp only
    rw [if_pos (Int.le_refl _)]
  rw [h1, h2]
  rfl
/-- A transaction that puts one key if its compares hold. -/
theorem txn1 {n : Nat} (hn : 1000 < n) {s : Int} {h : Ohist_Hist} (I : HI h) (hl : (hev h).length ≤ 500) (hr : h.bounds_rev + 1 - h.bounds_hor ≤ 16) (s0 : 0 ≤ s) (s1 : s ≤ 1000) {K V : ByteArray} {cs : List TCmp} (w : W_TReq ⟨1, all0, 0, cs, [⟨K, V, false⟩], []⟩)
    (hmay : F_txn_May ⟨1, all0, 0, cs, [⟨K, V, false⟩], []⟩ = some 0) (b : Bool) (hH : ∀ m, IsAt (hev h) h.bounds_rev all0 m → F_txn_Holds n m cs = some b) :
    ∃ h', F_model_Model_Serve n ⟨s⟩ h ⟨1, all0, 0, cs, [⟨K, V, false⟩], []⟩ = some (⟨heM (s + 1) h', 0, b, []⟩, ⟨s + 1⟩, h') ∧ HI h' ∧ h'.bounds_hor = h.bounds_hor ∧
      (b = true → hev h' = hev h ++ [⟨h.bounds_rev + 1, K, V, false⟩] ∧ h'.bounds_rev = h.bounds_rev + 1) ∧ (b = false → h' = h) := by
  have hne := I.ne
  have hrv := I.rev
  have hws : IntKind.i64.wrap (s + 1) = s + 1 := wrap_id (by omega) (by omega)
  have kd1 : KdO [(⟨K, V, false⟩ : TOp)] := List.pairwise_singleton _ _
  have hc := change_ok hn (s + 1) I (by omega) w kd1 (by simp) List.Pairwise.nil (by simp)
  generalize hF : F_model_Model_change n ⟨s + 1⟩ h ⟨1, all0, 0, cs, [⟨K, V, false⟩], []⟩ = o at hc
  cases hc with
  | over m b' l ha hm hp hle h0 h1 => omega
  | full m b' l ha hm hp hle h0 h1 h2 => omega
  | done m b' l ha hm hp hle h0 h' hA I' L hr' hh hs' he =>
    have hbb : b' = b := by
      have q := hp
      unfold F_txn_Plan at q
      dsimp only at q
      rw [hH m hm] at q
      simp only [Option.bind_some] at q
      rw [Option.bind_eq_some_iff] at q
      obtain ⟨x, _, q⟩ := q
      rw [Option.bind_eq_some_iff] at q
      obtain ⟨y, _, q⟩ := q
      exact (Prod.mk.inj (Option.some.inj q)).1.symm
    subst hbb
    have hS := serve_change (n := n) (s := s) hmay (by show (1 : Int) ≠ 2; decide) (by show (1 : Int) ≠ 3; decide) hws rfl hF
    refine ⟨h', by rw [hS]; rfl, I', hh, fun hb => ?_, fun hb => ?_⟩
    · rw [hb] at hle
      dsimp only at hle
      rw [if_pos rfl] at hle
      subst hle
      have hpl : planO m [(⟨K, V, false⟩ : TOp)] = [⟨K, V, false⟩] := by
        unfold planO
        rw [List.filter_cons, if_pos (by cases (look m K).2 <;> rfl)]; rfl
      rw [hpl] at he hr' hA
      have he2 : effL h [(⟨K, V, false⟩ : TOp)] = [⟨h.bounds_rev + 1, K, V, false⟩] := he
      obtain ⟨h2, a, _, _, d, _⟩ := apply_ok I [(⟨K, V, false⟩ : TOp)] (fun o ho => by rw [List.mem_singleton] at ho; subst ho; exact (w.2.2.2.2.1.1 _ List.mem_cons_self).1) (by simp; omega)
      rw [hA] at a
      have : h' = h2 := (Prod.mk.inj (Option.some.inj a)).2
      subst this
      rw [he2] at d hr'
      exact ⟨d, by rw [hr', if_neg (by simp)]⟩
    · rw [hb] at hle
      dsimp only at hle
      rw [if_neg (by simp)] at hle
      subst hle
      exact hs' rfl
def kK : ByteArray := ⟨#[107]⟩
theorem kK_list : kK.toList = [107] := by rw [ByteArray.toList_eq]; rfl
theorem inK (k : ByteArray) : inR ⟨⟨#[107]⟩, ⟨#[107, 0]⟩⟩ k = true ↔ k = kK := by
  have t1 : (⟨#[107]⟩ : ByteArray).toList = [107] := by rw [ByteArray.toList_eq]
  have t2 : (⟨#[107, 0]⟩ : ByteArray).toList = [107, 0] := by rw [ByteArray.toList_eq]
  have t3 : ByteArray.empty.toList = [] := by rw [ByteArray.toList_eq]; rfl
  have e0 : eqB (⟨#[107, 0]⟩ : ByteArray) ByteArray.empty = false := by unfold eqB; rw [t2, t3]; rfl
  unfold inR
  dsimp only
  rw [leB_not, e0, Bool.false_or, Bool.and_eq_true]
  unfold lessB
  rw [t1, t2]
  constructor
  · rintro ⟨h1, h2⟩
    apply toList_inj
    rw [kK_list]
    cases hl : k.toList with
    | nil => rw [hl] at h1; simp [Op.bytesLess] at h1
    | cons a l =>
      rw [hl] at h1 h2
      simp only [Op.bytesLess, Bool.not_eq_true', Bool.or_eq_false_iff, decide_eq_false_iff_not, Bool.or_eq_true, Bool.and_eq_true, decide_eq_true_eq, beq_iff_eq] at h1 h2
      rcases h2 with h2 | ⟨ha, h2⟩
      · exact absurd h2 h1.1
      · subst ha
        cases l with
        | nil => rfl
        | cons b l =>
          exfalso
          simp only [Op.bytesLess, Bool.or_eq_true, Bool.and_eq_true, decide_eq_true_eq, beq_iff_eq] at h2
          rcases h2 with h2 | ⟨_, h2⟩
          · exact absurd h2 (by simp)
          · cases l <;> simp [Op.bytesLess] at h2
  · intro h
    subst h
    rw [kK_list]
    exact ⟨rfl, rfl⟩
theorem neqAB (x y : Int) : eqB ((⟨#[119]⟩ : ByteArray) ++ txtU [x]) ((⟨#[118]⟩ : ByteArray) ++ txtU [y]) = false := by
  rw [eqB_ne]
  intro h
  have := congrArg (fun z : ByteArray => z.data.toList.head?) h
  simp [ByteArray.data_append, txtU] at this
theorem sz2 (b : UInt8) (x : Int) : ((⟨#[b]⟩ : ByteArray) ++ txtU [x]).size = 2 := by
  rw [ByteArray.size_append]; rfl
theorem add2 (b : UInt8) (x : Int) : addS (⟨#[b]⟩ : ByteArray) (txtU [x]) = some ((⟨#[b]⟩ : ByteArray) ++ txtU [x]) := by
  unfold addS
  have := sz2 b x
  rw [ByteArray.size_append] at this
  rw [if_pos (by omega)]
theorem w_all0 : W_TRange all0 := ⟨Nat.zero_le _, Nat.zero_le _⟩
theorem w_req {cs : List TCmp} {K V : ByteArray} (hc : ∀ c ∈ cs, W_TCmp c) (hl : cs.length ≤ 4) (hK : K.size ≤ 8) (hV : V.size ≤ 8) : W_TReq ⟨1, all0, 0, cs, [⟨K, V, false⟩], []⟩ := by
  have hm : maxLen = 9223372036854775807 := rfl
  refine ⟨rfl, w_all0, rfl, ⟨hc, by dsimp only; omega⟩, ⟨fun a ha => ?_, by simp; omega⟩, ⟨fun a ha => absurd ha List.not_mem_nil, by simp⟩⟩
  rw [List.mem_singleton] at ha
  subst ha
  exact ⟨by dsimp only; omega, by dsimp only; omega, trivial⟩
theorem plain_ModelSwaps (p0 : List TReq) (p1 : A3_Int) (w0 : (∀ a ∈ p0, W_TReq a) ∧ p0.length ≤ maxLen) (w1 : W_A3_Int p1) : ∃ n, F_law08_ModelSwaps n p0 p1 = some true := by
  refine ⟨2000, ?_⟩
  unfold F_law08_ModelSwaps
  rcases few8 p0 with f | ⟨f, hl⟩
  · rw [f]; rfl
  rw [f]
  simp only [Option.bind_some, Bool.not_true, Bool.false_eq_true, if_false]
  obtain ⟨s, h, e, M, hlen, hs⟩ := ran8 (n := 2000) (by omega) w0.1 hl
  have I := M.hi
  have hh0 := I.hor0
  have hh1 := I.hor1
  have hs0 := M.s0
  have hml : maxLen = 9223372036854775807 := rfl
  rw [e]
  simp only [Option.bind_some, eta_h, eta_m, head_eq, add2, F_txn_Put, F_txn_Swap]
  have hA := sz2 118 (IntKind.u8.wrap ((Int.tmod p1.x0 26) + 97))
  have hB := sz2 119 (IntKind.u8.wrap ((Int.tmod p1.x1 26) + 97))
  have hC := sz2 119 (IntKind.u8.wrap ((Int.tmod p1.x2 26) + 97))
  have hBA := neqAB (IntKind.u8.wrap ((Int.tmod p1.x1 26) + 97)) (IntKind.u8.wrap ((Int.tmod p1.x0 26) + 97))
  generalize (⟨#[118]⟩ : ByteArray) ++ txtU [IntKind.u8.wrap ((Int.tmod p1.x0 26) + 97)] = A at hA hBA ⊢
  generalize (⟨#[119]⟩ : ByteArray) ++ txtU [IntKind.u8.wrap ((Int.tmod p1.x1 26) + 97)] = B at hB hBA ⊢
  generalize (⟨#[119]⟩ : ByteArray) ++ txtU [IntKind.u8.wrap ((Int.tmod p1.x2 26) + 97)] = C at hC ⊢
  -- compacted
  have hm1 : F_txn_May ⟨3, ⟨ByteArray.empty, ByteArray.empty⟩, (heM s h).Rev, [], [], []⟩ = some 0 := by
    unfold F_txn_May
    rw [if_neg (by show ¬ ((3 : Int) == 1) = true; decide), if_neg (by show ¬ ((3 : Int) == 2) = true; decide), if_pos (by show ((3 : Int) == 3) = true; decide)]
    simp only [Option.bind_some]
    rw [decide_eq_true (show (heM s h).Rev ≥ 0 from (by show h.bounds_rev ≥ 0; omega))]; rfl
  obtain ⟨h1, hc1, I1, e1, r1, o1⟩ : ∃ h1, F_hist_Hist_Compact h h.bounds_rev = some (0, h1) ∧ HI h1 ∧ hev h1 = hev h ∧ h1.bounds_rev = h.bounds_rev ∧ h1.bounds_hor = h.bounds_rev := by
    rcases compact_ok I h.bounds_rev with ⟨c, a⟩ | ⟨c, d, a⟩ | ⟨c, d, a, I'⟩
    · omega
    · omega
    · exact ⟨_, a, I', rfl, rfl, by show (if h.bounds_rev > h.bounds_hor then h.bounds_rev else h.bounds_hor) = h.bounds_rev; split <;> omega⟩
  have hS1 := serve_compact (n := 2000) (s := s) (h := h) (q := ⟨3, ⟨ByteArray.empty, ByteArray.empty⟩, (heM s h).Rev, [], [], []⟩) hm1 rfl (wrap_id (by omega) (by omega)) hc1
  rw [hS1]
  simp only [Option.bind_some, eta_h, eta_m]
  -- put
  obtain ⟨h2, hS2, I2, o2, t2, _⟩ := txn1 (n := 2000) (by omega) (s := s + 1) I1 (by rw [e1]; omega) (by omega) (by omega) (by omega) (K := kK) (V := A) (cs := []) (w_req (fun c hc => absurd hc List.not_mem_nil) (by simp) (by decide) (by omega)) (may_put (by decide) (by decide) (by omega)) true (fun m _ => rfl)
  obtain ⟨e2, r2⟩ := t2 rfl
  have hk : (⟨#[107]⟩ : ByteArray) = kK := rfl
  unfold all0 at hS2
  rw [hk, hS2]
  simp only [Option.bind_some, eta_h, eta_m]
  -- the first swap
  have wS : ∀ W : ByteArray, W.size = 2 → W_TReq ⟨1, all0, 0, [⟨1, kK, A, 0⟩], [⟨kK, W, false⟩], []⟩ := fun W hW => w_req (fun c hc => by
    rw [List.mem_singleton] at hc
    subst hc
    exact ⟨rfl, by show (1 : Nat) ≤ maxLen; omega, by dsimp only; omega, rfl⟩) (by simp) (by decide) (by omega)
  have l2 : (hev h2).length ≤ 300 := by rw [e2, List.length_append, e1]; simp; omega
  obtain ⟨h3, hS3, I3, o3, t3, _⟩ := txn1 (n := 2000) (by omega) (s := s + 1 + 1) I2 (by omega) (by omega) (by omega) (by omega) (K := kK) (V := B) (cs := [⟨1, kK, A, 0⟩]) (wS B hB) (may_swap (by decide) (by decide) (by omega) (by omega)) true (fun m hm => by
    rw [holds_one hm.so (by have := hm.le; omega) (by omega)]
    rw [e2, r2] at hm
    rw [look_ev hm]
    simp)
  obtain ⟨e3, r3⟩ := t3 rfl
  unfold all0 at hS3
  rw [hS3]
  simp only [Option.bind_some, eta_h, eta_m]
  -- the other one
  have l3 : (hev h3).length ≤ 301 := by rw [e3, List.length_append]; simp; omega
  obtain ⟨h4, hS4, I4, o4, _, t4⟩ := txn1 (n := 2000) (by omega) (s := s + 1 + 1 + 1) I3 (by omega) (by omega) (by omega) (by omega) (K := kK) (V := C) (cs := [⟨1, kK, A, 0⟩]) (wS C hC) (may_swap (by decide) (by decide) (by omega) (by omega)) false (fun m hm => by
    rw [holds_one hm.so (by have := hm.le; omega) (by omega)]
    rw [e3, r3] at hm
    rw [look_ev hm]
    simp [hBA])
  have h43 := t4 rfl
  subst h43
  unfold all0 at hS4
  rw [hS4]
  simp only [Option.bind_some, eta_h, eta_m]
  -- what there is
  have hm5 : F_txn_May ⟨2, ⟨kK, ⟨#[107, 0]⟩⟩, 0, [], [], []⟩ = some 0 := by
    have : F_key_MayRange ⟨kK, ⟨#[107, 0]⟩⟩ = some true := by kernel_rfl
    unfold F_txn_May
    rw [if_neg (by show ¬ ((2 : Int) == 1) = true; decide), if_pos (by show ((2 : Int) == 2) = true; decide), this]
    rfl
  obtain ⟨m5, ha5, hm5'⟩ := at_mid I4 (by omega) (n := 2000) (by omega) ⟨kK, ⟨#[107, 0]⟩⟩ (rev := h4.bounds_rev) I4.hor1 (Int.le_refl _)
  have hS5 := serve_read (n := 2000) (s := s + 1 + 1 + 1 + 1) (h := h4) (q := ⟨2, ⟨kK, ⟨#[107, 0]⟩⟩, 0, [], [], []⟩) hm5 rfl (m := m5) (e := 0) ha5 (fun q => absurd rfl q)
  rw [hS5]
  have hone : m5 = [⟨kK, B, h4.bounds_rev⟩] := by
    refine so_ext hm5'.so (List.pairwise_singleton _ _) (fun t => ?_)
    rw [hm5'.mem, List.mem_singleton]
    have hat : atT (onK kK (hev h4)) h4.bounds_rev = some ⟨h4.bounds_rev, kK, B, false⟩ := by
      rw [e3, ← r3, onK_app, atT_apd]
      have q1 : onK kK [(⟨h4.bounds_rev, kK, B, false⟩ : TEvent)] = [⟨h4.bounds_rev, kK, B, false⟩] := by unfold onK; simp
      have q2 : atT [(⟨h4.bounds_rev, kK, B, false⟩ : TEvent)] h4.bounds_rev = some ⟨h4.bounds_rev, kK, B, false⟩ := by
        unfold atT
        rw [show atT [] h4.bounds_rev = none from rfl]
        dsimp only
        rw [if_pos (Int.le_refl _)]
      rw [q1, q2]
    constructor
    · rintro ⟨ev, a, b, c, d⟩
      have hk := (inK t.Key).mp d
      rw [hk, hat] at a
      cases a
      exact c
    · rintro rfl
      exact ⟨_, hat, rfl, rfl, (inK kK).mpr rfl⟩
  subst hone
  have hg : ∀ x : TKV, getI [x] 0 = some x := fun x => rfl
  simp only [Option.bind_some, hg, eqB_self]
  simp [heM]
end Go.Proofs.Ytpfdandpmpmbiaa.V
