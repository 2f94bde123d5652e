/- What the document's Cut computes: a walk over its code, by the clean machine's laws.
   No condition: these are laws of the clean machine and of this program. -/
import Derived.Test.YtcjcbcmapjcfnaaPT
import Derived.Test.YtcjcbcmapjcfnaaVn
namespace Go.Proofs.Ytcjcbcmapjcfnaa.V
open Go
set_option linter.unusedVariables false
set_option linter.unusedSimpArgs false
set_option maxRecDepth 100000
set_option maxHeartbeats 4000000

/-- A row's words: where it lies, how long it is, and its room. -/
abbrev SV := Option Addr × Nat × Nat
def R_SV : Rep SV := Rep.flat 1 22 (fun x => [.slice x.1 x.2.1 x.2.2]) (fun _ => ⟨rfl, rfl⟩)

inductive Cl (h : Heap) : List SV → List (List TEvent) → Prop
  | nil : Cl h [] []
  | cons {w : SV} {x : List TEvent} {ws : List SV} {xs : List (List TEvent)} (e : w.2.1 = x.length) (f : RL R_TEvent h w.1 w.2.2 x) (r : Cl h ws xs) : Cl h (w :: ws) (x :: xs)
theorem Cl.ext {h h' : Heap} {ws : List SV} {xs : List (List TEvent)} (c : Cl h ws xs) (k : Kn h h') : Cl h' ws xs := by
  induction c with
  | nil => exact .nil
  | cons e f r ih => exact .cons e (f.ext k) ih
theorem Cl.len {h : Heap} {ws : List SV} {xs : List (List TEvent)} (c : Cl h ws xs) : ws.length = xs.length := by
  induction c with
  | nil => rfl
  | cons e f r ih => simp [ih]
theorem Cl.snoc {h : Heap} {ws : List SV} {xs : List (List TEvent)} (c : Cl h ws xs) {w : SV} {x : List TEvent} (e : w.2.1 = x.length) (f : RL R_TEvent h w.1 w.2.2 x) : Cl h (ws ++ [w]) (xs ++ [x]) := by
  induction c with
  | nil => exact .cons e f .nil
  | cons e2 f2 r ih => exact .cons e2 f2 ih
theorem Cl.get {h : Heap} {ws : List SV} {xs : List (List TEvent)} (c : Cl h ws xs) : ∀ {i : Nat} {x : List TEvent}, xs[i]? = some x → ∃ w, ws[i]? = some w ∧ w.2.1 = x.length ∧ RL R_TEvent h w.1 w.2.2 x := by
  induction c with
  | nil => intro i x hx; simp at hx
  | cons e f r ih =>
    intro i x hx
    cases i with
    | zero => simp at hx; subst hx; exact ⟨_, rfl, e, f⟩
    | succ i => simp at hx; obtain ⟨w, h1, h2⟩ := ih hx; exact ⟨w, by simpa using h1, h2⟩
theorem Cl.rl {h : Heap} {ws : List SV} {xs : List (List TEvent)} (c : Cl h ws xs) {a : Option Addr} {n : Nat} (f : RL R_SV h a n ws) : RL (Rep.sl R_TEvent 22) h a n xs := by
  refine ⟨by rw [← c.len]; exact f.1, by rw [← c.len]; exact f.2.1, fun i x hx => ?_, f.2.2.2⟩
  obtain ⟨w, hw, e, fw⟩ := c.get hx
  obtain ⟨a0, a', row, h1, h2, h3, h4⟩ := f.2.2.1 i w hw
  refine ⟨a0, a', row, h1, h2, h3, w.1, w.2.2, ?_, fw⟩
  have : row = [.slice w.1 w.2.1 w.2.2] := h4
  rw [this, e]

def curw (p : Option Addr) : Option (List TEvent) → List SV
  | none => []
  | some c => [(p, c.length, c.length)]
def curOK (h : Heap) (S : List Blk) (p : Option Addr) : Option (List TEvent) → Prop
  | none => S = []
  | some c => AccR R_TEvent 40 h S (.slice p c.length c.length) c
theorem curOK_ext {h h' : Heap} {S : List Blk} {p : Option Addr} {cur : Option (List TEvent)} (o : curOK h S p cur) (k : Kn h h') : curOK h' S p cur := by
  cases cur with
  | none => exact o
  | some c => exact AccR.ext (R := R_TEvent) o k
structure CutS where
  r : List TEvent
  i : Nat
  cl : List (List TEvent)
  cur : Option (List TEvent)
  ws : List SV
  a : Option Addr
  p : Option Addr
  n : Nat
  S1 : List Blk
  S2 : List Blk
  h : Heap
def CutI (h0 : Heap) (p0 : List TEvent) (res : List (List TEvent)) (s : CutS) : Prop :=
  s.r = List.drop s.i p0 ∧ HExt h0 s.h ∧ Wf s.h ∧ F_ref05_Cut_L1 p0 s.r s.i s.cl s.cur = some res ∧ s.n = (s.ws ++ curw s.p s.cur).length ∧
  AccR R_SV 22 s.h s.S1 (.slice s.a (s.ws ++ curw s.p s.cur).length (s.ws ++ curw s.p s.cur).length) (s.ws ++ curw s.p s.cur) ∧ Cl s.h s.ws s.cl ∧ curOK s.h s.S2 s.p s.cur
section
variable {X : Cx} {st : List It} {l : L}
/-- The last row is closed. -/
theorem gs_close {h : Heap} (hw : Wf h) {S1 S2 : List Blk} {ws : List SV} {cl : List (List TEvent)} {p : Option Addr} {cur : Option (List TEvent)} (c : Cl h ws cl) (o : curOK h S2 p cur)
    (kk : ∀ h1, HExt h h1 → Wf h1 → Cl h1 (ws ++ curw p cur) (cl ++ cur.toList) → Goes X st l [S1].flatten h1) : Goes X st l [S1, S2].flatten h := by
  cases cur with
  | none =>
    have : S2 = [] := o
    subst this
    have := kk h (HExt.refl _) hw (by simpa [curw] using c)
    simpa using this
  | some y =>
    refine gs_accpub (.s .z) o (fun h1 e1 w1 f1 => ?_) rfl
    exact kk h1 e1 w1 ((c.ext e1.kn).snoc rfl f1)
end
theorem setI_last {α : Type} (ws : List α) (x y : α) (n : Nat) (hn : n = ws.length) : setI (ws ++ [x]) (n : Int) y = ws ++ [y] := by
  subst hn
  unfold setI
  simp
theorem wrap_pred (n : Nat) (h : n < 9223372036854775807) : Value.int .i64 (IntKind.i64.wrap (((n + 1 : Nat) : Int) - 1)) = .int .i64 (n : Int) := by
  rw [wrap_id (by omega) (by omega)]
  congr 1
  omega
theorem s_ref05_Cut {h : Heap} (hw : Wf h) (p0 : (List TEvent)) {a0_0 : Option Addr} {c0_0 : Nat} (f0_0 : RL R_TEvent h a0_0 c0_0 p0) {r : (List (List TEvent))} (hF : F_ref05_Cut p0 = some r) :
    Ev EE 12 [.slice a0_0 p0.length c0_0] h (fun v h1 => ∃ a0 c0, v = .slice a0 r.length c0 ∧ RL (Rep.sl R_TEvent 22) h1 a0 c0 r) := by
  unfold F_ref05_Cut at hF
  refine ev_of hw rfl at_12 rfl rfl (go_seg0 ?_)
  refine go_seq ?_
  refine go_region ?_
  refine gAc rfl rfl ?_
  refine go_nil ?_
  refine go_seq ?_
  refine go_region ?_
  refine gAc rfl rfl ?_
  refine go_nil ?_
  refine go_seq ?_
  refine go_seq ?_
  refine go_region ?_
  refine gAc rfl rfl ?_
  refine go_nil ?_
  refine go_joinc (β := Option Addr × List Blk × List SV) (fun s h' => AccR R_SV 22 h' s.2.1 (.slice s.1 s.2.2.length s.2.2.length) s.2.2 ∧ Cl h' s.2.2 r) (fun s => [(2, true, .slice none 0 0), (3, true, .slice s.1 s.2.2.length s.2.2.length)]) (fun s => (List.flatten [s.2.1] : List Blk)) ?_ (fun J2 => ?_)
  ·
    rintro ⟨a2, S2, ws2⟩ h2 e2 w2 ⟨f2, c2⟩
    refine go_seq ?_
    refine go_region ?_
    refine gM rfl rfl ?_
    refine gA rfl rfl ?_
    refine go_nil ?_
    refine gs_accpub .z f2 (fun h3 e3 w3 f3_ => ?_) rfl
    have c3 := c2.ext e3.kn
    have f3 := c3.rl f3_
    exact g_ret (rst rfl rs0) (fun h1 hf hs => ⟨(e2.trans (e3.trans hs.hext)), ⟨a2, ws2.length, by rw [← c3.len]; rfl, (f3.ext hs.hext.kn)⟩⟩)
  ·
    refine go_block ?_
    refine go_loop (α := CutS) (CutI h p0 r) (fun a => a.r.length) (fun a => [(0, true, .slice a0_0 p0.length c0_0), (2, true, .slice none 0 0), (3, true, .slice a.a a.n a.n), (4, true, .int .i64 (a.i : Int))]) (fun a => (List.flatten [a.S1, a.S2] : List Blk)) (fun a => a.h) ?_ ⟨p0, 0, [], none, [], none, none, 0, [], [], h⟩ ⟨rfl, HExt.refl _, hw, hF, rfl, (AccR.nil _ _ _), .nil, rfl⟩ (Sub.cons (Sub.cons (Sub.cons (Sub.cons (Sub.nil _) rfl) rfl) rfl) rfl) rfl rfl
    rintro ⟨r4, i4, cl4, cur4, ws4, a4, p4, n4, S4, T4, h4⟩ ⟨hr4, e4, w4, hF, hn4, f4, c4, o4⟩ ih4
    dsimp only at hr4 e4 w4 hF hn4 f4 c4 o4 ih4 ⊢
    subst hn4
    rcases r4 with _ | ⟨z4, r4⟩
    ·
      have hi4 := drop_nil hr4
      rw [F_ref05_Cut_L1.eq_1] at hF
      refine go_seq ?_
      refine go_seq ?_
      refine go_region ?_
      refine gM rfl rfl ?_
      refine gM rfl rfl ?_
      refine gr rfl (r_len rfl (os1 (ot rfl) os0) (fun _ _ => ln_22)) ?_
      refine gr rfl (r_bin (ot rfl) (ot rfl) rfl) ?_
      refine go_cast (.bool false) (congrArg Value.bool (decide_eq_false hi4)) ?_
      refine go_nil ?_
      refine g_cond (b := false) (ot rfl) (fun hc5 => ?_) (fun hc5 => ?_)
      · cases hc5
      refine go_exit rfl ?_
      obtain rfl := someI hF
      refine gs_close w4 c4 o4 (fun h5 e5 w5 c5 => ?_)
      exact Goes.weak (J2 (a4, S4, ws4 ++ curw p4 cur4) _ (e4.trans e5) w5 ⟨f4.ext e5.kn, c5⟩) (Sub.cons (Sub.cons (Sub.nil _) rfl) rfl)
    ·
      obtain ⟨hi4, hx4, hr4⟩ := drop_cons hr4
      have hb4 := (f0_0.ext e4.kn).1
      rw [F_ref05_Cut_L1.eq_2] at hF
      refine go_seq ?_
      refine go_seq ?_
      refine go_region ?_
      refine gM rfl rfl ?_
      refine gM rfl rfl ?_
      refine gr rfl (r_len rfl (os1 (ot rfl) os0) (fun _ _ => ln_22)) ?_
      refine gr rfl (r_bin (ot rfl) (ot rfl) rfl) ?_
      refine go_cast (.bool true) (congrArg Value.bool (decide_eq_true (Int.ofNat_lt.mpr hi4))) ?_
      refine go_nil ?_
      refine g_cond (b := true) (ot rfl) (fun hc6 => ?_) (fun hc6 => ?_)
      rotate_left
      · cases hc6
      refine go_skip ?_
      refine go_seq ?_
      refine go_block ?_
      refine go_seq ?_
      replace hF := obind hF
      obtain ⟨s10, hF, hK10⟩ := hF
      refine go_joinc (β := Option Addr × Option Addr × List SV × List Blk × List Blk) (fun s h' => AccR R_SV 22 h' s.2.2.2.1 (.slice s.1 (s.2.2.1 ++ [(s.2.1, s10.2.length, s10.2.length)]).length (s.2.2.1 ++ [(s.2.1, s10.2.length, s10.2.length)]).length) (s.2.2.1 ++ [(s.2.1, s10.2.length, s10.2.length)]) ∧ Cl h' s.2.2.1 s10.1 ∧ AccR R_TEvent 40 h' s.2.2.2.2 (.slice s.2.1 s10.2.length s10.2.length) s10.2) (fun s => [(0, true, .slice a0_0 p0.length c0_0), (2, true, .slice none 0 0), (3, true, .slice s.1 (s.2.2.1 ++ [(s.2.1, s10.2.length, s10.2.length)]).length (s.2.2.1 ++ [(s.2.1, s10.2.length, s10.2.length)]).length), (4, true, .int .i64 (i4 : Int))]) (fun s => (List.flatten [s.2.2.2.1, s.2.2.2.2] : List Blk)) ?_ (fun J10 => ?_)
      ·
        rintro ⟨a10, p10, ws10, S10, T10⟩ h10 e10 w10 ⟨f10, c10, o10⟩
        dsimp only at f10 c10 o10 ⊢
        replace hF := hK10
        obtain ⟨cl10, y10⟩ := s10
        dsimp only at f10 c10 o10 hF ⊢
        replace hF := obind hF
        obtain ⟨x13, hx13, hF⟩ := hF
        obtain ⟨hr13, hz13_⟩ := appL_some hx13; subst x13
        have hl10 : (ws10 ++ [((p10, y10.length, y10.length) : SV)]).length = ws10.length + 1 := by simp
        have hl11 := f10.1
        have hg10 : getI (ws10 ++ [((p10, y10.length, y10.length) : SV)]) (ws10.length : Int) = some (p10, y10.length, y10.length) := by rw [getI_nat]; simp
        refine go_seq ?_
        refine go_region ?_
        refine gM rfl rfl ?_
        refine gr rfl (r_len rfl (os1 (ot rfl) os0) (fun _ _ => ln_27)) ?_
        refine gr rfl (r_bin (ot rfl) (oc rfl) rfl) ?_
        refine go_cast (.int .i64 (ws10.length : Int)) (by rw [hl10]; exact wrap_pred _ (by rw [hl10] at hl11; omega)) ?_
        refine gA rfl rfl ?_
        refine go_nil ?_
        obtain ⟨b14, rows14, row14, rfl, rfl, hR14, hrow14, hC14, h014, hlt14, hk14, hd14, hb14⟩ := AccR.open f10 hg10
        obtain rfl := hC14
        refine go_regA1 (L := [(0, []), (1, []), (2, []), (3, []), (4, []), (5, []), (6, []), (7, []), (8, []), (9, []), (10, []), (11, []), (12, []), (13, [])]) (by kernel_rfl) (by kernel_rfl) (fun _ => rfl) ?_; intro b44
        refine go_sop rfl rfl ?_
        refine gM rfl rfl ?_
        refine go_nil ?_
        refine go_sop rfl rfl ?_
        refine gM rfl rfl ?_
        refine go_nil ?_
        refine go_sop rfl rfl ?_
        refine gM rfl rfl ?_
        refine go_nil ?_
        refine go_sop rfl rfl ?_
        refine gM rfl rfl ?_
        refine go_nil ?_
        refine go_sop rfl rfl ?_
        refine gr rfl (r_ia (ot rfl) (ot rfl) (ia_acc (k := 1) ut_27 sz_22 h014 hlt14)) ?_
        refine go_nil ?_
        refine go_sop rfl rfl ?_
        refine gr rfl (r_load (ot rfl) (lm_s (mem_seg 1 rfl) ag_22 (acc_cell (j := 0) hd14 rfl))) ?_
        refine go_nil ?_
        refine go_sop rfl rfl ?_
        refine gM rfl rfl ?_
        refine go_nil ?_
        refine go_sop rfl rfl ?_
        refine gM rfl rfl ?_
        refine go_nil ?_
        refine go_sop rfl rfl ?_
        obtain ⟨q11, row11, i11, cl11, rc11, sp11⟩ := ix (ik := .i64) (cap := c0_0) (E := EE) ((f0_0.ext e4.kn).ext e10.kn) ((getI_nat _ _).trans hx4) ut_22 sz_40 rfl
        obtain rfl := rc11
        refine gr rfl (r_ia (ot rfl) (ot rfl) i11) ?_
        refine go_nil ?_
        refine go_sop rfl rfl ?_
        refine gr rfl (r_load (ot rfl) (v := .agg #[.int .i64 z4.Rev, .string z4.Key, .string z4.Val, .bool z4.Del]) (lo_e (fun hf kn => ld_of (r := [.int .i64 z4.Rev, .string z4.Key, .string z4.Val, .bool z4.Del]) ag_40 sz_40 (kn.cellsAt cl11)))) ?_
        refine go_nil ?_
        refine go_sbslice (cs := [.int .i64 z4.Rev, .string z4.Key, .string z4.Val, .bool z4.Del]) rfl rfl rfl (op1 (ot rfl) op0) ut_22 sz_40 zo_40 rfl rfl .z ?_
        refine go_sop rfl rfl ?_
        refine gs_front (.s (.s .z)) ?_
        refine gs_app (rows2 := [[.int .i64 z4.Rev, .string z4.Key, .string z4.Val, .bool z4.Del]]) (R := R_TEvent) rfl (os1 (ot rfl) (os1 (ot rfl) os0)) rfl ut_22 sz_40 rfl (by decide) by_40 zo_40 rfl zs_22_22 rfl rfl (first_m (mem_seg 1 rfl) rfl (by decide)) (Rws.one (x := z4) rfl) o10 hr13 (fun p13_ tl13 f13_ => ?_)
        refine go_nil ?_
        refine go_sop rfl rfl ?_
        refine gr rfl (r_ia (ot rfl) (ot rfl) (ia_acc (k := 1) ut_27 sz_22 h014 hlt14)) ?_
        refine go_nil ?_
        refine go_sop rfl rfl ?_
        refine gs_store (vs := [.slice p13_ (y10 ++ [z4]).length (y10 ++ [z4]).length]) (cs' := splice rows14.flatten ((ws10.length : Int).toNat * 1) [.slice p13_ (y10 ++ [z4]).length (y10 ++ [z4]).length]) (ot rfl) (ot rfl) sz_22 rfl rfl (Nat.ble_eq_true_of_le hb14) rfl rfl (.s (.s .z)) ?_
        refine go_nil ?_
        refine go_snil ?_
        have f15 := AccR.put (elem := 22) (b := b14) (x := ((p13_, (y10 ++ [z4]).length, (y10 ++ [z4]).length) : SV)) hl11 hR14 h014 hlt14 rfl
        rw [setI_last _ _ _ _ rfl] at f15
        refine go_endb ?_
        refine go_region ?_
        refine gM rfl rfl ?_
        refine gr rfl (r_bin (ot rfl) (oc rfl) rfl) ?_
        refine gA rfl rfl ?_
        refine go_nil ?_
        refine go_re 4 (v2 := .int .i64 ((i4 + 1 : Nat) : Int)) rfl (wrap_succ hi4 hb4) ?_
        refine go_re 3 (v2 := .slice (some ⟨b14, 0, some 0⟩) (ws10 ++ [((p13_, (y10 ++ [z4]).length, (y10 ++ [z4]).length) : SV)]).length (ws10 ++ [((p13_, (y10 ++ [z4]).length, (y10 ++ [z4]).length) : SV)]).length) rfl (by rw [hl10]; simp) ?_
        refine gs_front (.s (.s .z)) ?_
        refine gs_sub (.cons_cons _ (.cons_cons _ (.cons _ (.refl _)))) ?_
        exact Goes.weak (ih4 ⟨r4, i4 + 1, cl10, some (y10 ++ [z4]), ws10, _, p13_, _, _, tl13, h10⟩ ⟨hr4, (e4.trans e10), w10, hF, rfl, f15, c10, f13_⟩ (Nat.lt_succ_self _)) (Sub.cons (Sub.cons (Sub.cons (Sub.cons (Sub.nil _) rfl) rfl) rfl) rfl)
      ·
        refine go_seq ?_
        refine go_regionq (by kernel_rfl) ?_
        refine gM rfl rfl ?_
        refine gr rfl (r_bin (ot rfl) (oc rfl) rfl) ?_
        refine gM rfl rfl ?_
        replace hF := obind hF
        obtain ⟨s7, hF, hK7⟩ := hF
        refine go_joinr 13 (β := Unit) (fun s h' => True) (fun s => [(0, true, .slice a0_0 p0.length c0_0), (2, true, .slice none 0 0), (3, true, .slice a4 (ws4 ++ curw p4 cur4).length (ws4 ++ curw p4 cur4).length), (4, true, .int .i64 (i4 : Int)), (27, true, .bool s7)]) (fun s => (List.flatten [S4, T4] : List Blk)) ?_ (fun J7 => ?_)
        ·
          rintro _ h7 e7 w7 _
          replace hF := hK7
          refine go_nil ?_
          refine g_cond (b := s7) (ot rfl) (fun hc8 => ?_) (fun hc8 => ?_)
          ·
            replace hF := ifT hc8 hF
            refine gs_close w7 (c4.ext e7.kn) (curOK_ext o4 e7.kn) (fun h8 e8 w8 c8 => ?_)
            replace hF := obind hF
            obtain ⟨x9, hx9, hF⟩ := hF
            obtain ⟨hr9, hz9_⟩ := appL_some hx9; subst x9
            have hc9 := c8.len
            obtain rfl := someI hF
            refine go_region ?_
            refine gM rfl rfl ?_
            refine gs_bslice (cs := [.slice none 0 0]) rfl (op1 (oc rfl) op0) ut_27 sz_22 zo_22 rfl rfl ?_; intro b29
            refine gs_front (.s .z) ?_
            refine gs_app (rows2 := [[.slice none 0 0]]) (R := R_SV) rfl (os1 (ot rfl) (os1 (ot rfl) os0)) rfl ut_27 sz_22 rfl (by decide) by_22 zo_22 rfl zs_27_27 rfl rfl (first_m (mem_seg 1 rfl) rfl (by decide)) (Rws.one (x := ((none, 0, 0) : SV)) rfl) ((f4.ext e7.kn).ext e8.kn) (by rw [hc9]; exact hr9) (fun p9_ tl9 f9_ => ?_)
            refine gA rfl rfl ?_
            refine go_nil ?_
            refine gs_sub (.cons_cons _ (.cons _ (.refl _))) ?_
            have J := J10 (p9_, none, ws4 ++ curw p4 cur4, tl9, []) h8 (e7.trans e8) w8 ⟨f9_, c8, AccR.nil _ _ _⟩
            dsimp only at J
            rw [show List.flatten [tl9, ([] : List Blk)] = List.flatten [tl9] from by simp] at J
            exact Goes.weak J (Sub.cons (Sub.cons (Sub.cons (Sub.cons (Sub.nil _) rfl) rfl) rfl) rfl)
          ·
            replace hF := ifF hc8 hF
            cases cur4 with
            | none => exact absurd hF (by simp [curT])
            | some y4 =>
              unfold curT at hF
              obtain rfl := someI hF
              refine go_skip ?_
              exact Goes.weak (J10 (a4, p4, ws4, S4, T4) h7 e7 w7 ⟨f4.ext e7.kn, c4.ext e7.kn, AccR.ext o4 e7.kn⟩) (Sub.cons (Sub.cons (Sub.cons (Sub.cons (Sub.nil _) rfl) rfl) rfl) rfl)
        ·
          rcases Bool.eq_false_or_eq_true ((i4 : Int) == 0) with hb6 | hb6
          ·
            replace hF := ifT hb6 hF
            refine go_re 14 (v2 := .bool true) rfl (congrArg Value.bool hb6) ?_
            refine g_no rfl rfl rfl rfl rfl ?_
            refine g_no rfl rfl rfl rfl rfl ?_
            refine g_no rfl rfl rfl rfl rfl ?_
            refine g_no rfl rfl rfl rfl rfl ?_
            refine g_no rfl rfl rfl rfl rfl ?_
            refine g_no rfl rfl rfl rfl rfl ?_
            refine g_no rfl rfl rfl rfl rfl ?_
            refine g_no rfl rfl rfl rfl rfl ?_
            refine g_no rfl rfl rfl rfl rfl ?_
            refine g_no rfl rfl rfl rfl rfl ?_
            refine g_no rfl rfl rfl rfl rfl ?_
            refine g_no rfl rfl rfl rfl rfl ?_
            refine gr rfl (r_pkT (ot rfl) (oc rfl)) ?_
            obtain rfl := someI hF
            exact Goes.weak (J7 () _ (HExt.refl _) w4 trivial) (Sub.cons (Sub.cons (Sub.cons (Sub.cons (Sub.cons (Sub.nil _) rfl) rfl) rfl) rfl) rfl)
          ·
            replace hF := ifF hb6 hF
            refine go_re 14 (v2 := .bool false) rfl (congrArg Value.bool hb6) ?_
            refine g_do rfl rfl rfl ?_
            refine gM rfl rfl ?_
            refine g_do rfl rfl rfl ?_
            refine gM rfl rfl ?_
            refine g_do rfl rfl rfl ?_
            obtain ⟨q12, row12, i12, cl12, rc12, sp12⟩ := ix (ik := .i64) (cap := c0_0) (E := EE) (f0_0.ext e4.kn) ((getI_nat _ _).trans hx4) ut_22 sz_40 rfl
            obtain rfl := rc12
            refine gr rfl (r_ia (ot rfl) (ot rfl) i12) ?_
            refine g_do rfl rfl rfl ?_
            refine gr rfl (r_fa (ot rfl) (fs_40_0 sp12)) ?_
            refine g_do rfl rfl rfl ?_
            refine gr rfl (r_load (ot rfl) (v := .int .i64 z4.Rev) (lo_e (fun hf kn => ld_field (r := [.int .i64 z4.Rev, .string z4.Key, .string z4.Val, .bool z4.Del]) ag_3 (kn.cellsAt cl12) rfl))) ?_
            refine g_do rfl rfl rfl ?_
            refine gM rfl rfl ?_
            refine g_do rfl rfl rfl ?_
            refine gM rfl rfl ?_
            refine g_do rfl rfl rfl ?_
            refine gr rfl (r_bin (ot rfl) (oc rfl) rfl) ?_
            refine g_do rfl rfl rfl ?_
            replace hF := obind hF
            obtain ⟨x11, hx11, hF⟩ := hF
            obtain ⟨q11, row11, i11, cl11, rc11, sp11⟩ := ix (ik := .i64) (cap := c0_0) (E := EE) (f0_0.ext e4.kn) hx11 ut_22 sz_40 rfl
            obtain rfl := rc11
            refine gr rfl (r_ia (ot rfl) (ot rfl) i11) ?_
            refine g_do rfl rfl rfl ?_
            refine gr rfl (r_fa (ot rfl) (fs_40_0 sp11)) ?_
            refine g_do rfl rfl rfl ?_
            refine gr rfl (r_load (ot rfl) (v := .int .i64 x11.Rev) (lo_e (fun hf kn => ld_field (r := [.int .i64 x11.Rev, .string x11.Key, .string x11.Val, .bool x11.Del]) ag_3 (kn.cellsAt cl11) rfl))) ?_
            refine g_do rfl rfl rfl ?_
            refine gr rfl (r_bin (ot rfl) (ot rfl) rfl) ?_
            refine gr rfl (r_pkF (ot rfl) (ot rfl)) ?_
            obtain rfl := someI hF
            exact Goes.weak (J7 () _ (HExt.refl _) w4 trivial) (Sub.cons (Sub.cons (Sub.cons (Sub.cons (Sub.cons (Sub.nil _) rfl) rfl) rfl) rfl) rfl)
end Go.Proofs.Ytcjcbcmapjcfnaa.V
