/- slices.Insert of one element, told: of what grows, a new row. .. and what follows it, in one text.
   No condition beyond those that each part names. -/
import Derived.Test.YtcjcbcmapjcfnaaVu
import Derived.Laws.Externs
import Derived.Lib.Overlaps
/-! ## slices.Insert of one element, told: of what grows, a new row. -/
namespace Go.Proofs.Ytcjcbcmapjcfnaa.V
open Go
set_option linter.unusedVariables false
set_option linter.unusedSimpArgs false

/-- One element's cells, put in. -/
def insC (k i : Nat) (cs vr : List Value) : List Value := cs.take (i * k) ++ (vr ++ cs.drop (i * k))
theorem insC_len {k i n : Nat} {cs vr : List Value} (hc : cs.length = n * k) (hv : vr.length = k) (hi : i ≤ n) : (insC k i cs vr).length = (n + 1) * k := by
  have : i * k ≤ n * k := Nat.mul_le_mul_right k hi
  unfold insC
  rw [List.length_append, List.length_append, List.length_take, List.length_drop, Nat.succ_mul]; omega

def insOk (k bytes : Nat) (elem : TypeId) (lim b vb n c : Nat) (i : Int) (cs vr : List Value) (T : TypeId) : Bool :=
  Nat.ble lim b && Nat.beq T elem && Nat.beq cs.length (n * k) && Nat.beq c n && Nat.beq vr.length k && cs.all (plainN 4) && vr.all (plainN 4) && !Nat.beq b vb && decide (0 ≤ i ∧ i < (n : Int)) && roomy (n + 1) bytes && Nat.blt 0 k && cs.all cellOk && vr.all cellOk
structure InsOk (k bytes : Nat) (elem : TypeId) (lim b vb n c : Nat) (i : Int) (cs vr : List Value) (T : TypeId) : Prop where
  limb : lim ≤ b
  Te : T = elem
  csl : cs.length = n * k
  ce : c = n
  vrl : vr.length = k
  csp : cs.all (plainN 4) = true
  vrp : vr.all (plainN 4) = true
  ne : b ≠ vb
  i0 : 0 ≤ i
  i1 : i < (n : Int)
  room : roomy (n + 1) bytes = true
  k0 : 0 < k
  cso : cs.all cellOk = true
  vro : vr.all cellOk = true
theorem insOk_spec {k bytes : Nat} {elem : TypeId} {lim b vb n c : Nat} {i : Int} {cs vr : List Value} {T : TypeId} : insOk k bytes elem lim b vb n c i cs vr T = true ↔ InsOk k bytes elem lim b vb n c i cs vr T := by
  unfold insOk
  simp only [Bool.and_eq_true, decide_eq_true_eq, Bool.not_eq_true']
  constructor
  · rintro ⟨⟨⟨⟨⟨⟨⟨⟨⟨⟨⟨⟨h1, h2⟩, h3⟩, h4⟩, h5⟩, h6⟩, h7⟩, h8⟩, h9, h10⟩, h11⟩, h12⟩, h13⟩, h14⟩
    exact ⟨Nat.le_of_ble_eq_true h1, Nat.eq_of_beq_eq_true h2, Nat.eq_of_beq_eq_true h3, Nat.eq_of_beq_eq_true h4, Nat.eq_of_beq_eq_true h5, h6, h7, (fun e => by subst e; rw [Nat.beq_refl] at h8; cases h8), h9, h10, h11, by rwa [Nat.blt_eq] at h12, h13, h14⟩
  · rintro ⟨h1, h2, h3, h4, h5, h6, h7, h8, h9, h10, h11, h12, h13, h14⟩
    subst h2 h4
    exact ⟨⟨⟨⟨⟨⟨⟨⟨⟨⟨⟨⟨Nat.ble_eq_true_of_le h1, Nat.beq_refl _⟩, by rw [h3]; exact Nat.beq_refl _⟩, Nat.beq_refl _⟩, by rw [h5]; exact Nat.beq_refl _⟩, h6⟩, h7⟩, Trie.nb h8⟩, h9, h10⟩, h11⟩, by rw [Nat.blt_eq]; exact h12⟩, h13⟩, h14⟩

def insIn (k bytes : Nat) (elem : TypeId) (a : Option Addr) (n c : Nat) (i : Int) (vv : Value) (h : Heap) : Option (Value × Heap) :=
  match a, vv with
  | some ⟨b, 0, some 0⟩, .slice (some ⟨vb, 0, none⟩) 1 1 => match h.get b, h.get vb with
    | some (.cells cs T), some (.cells vr Tv) => bif insOk k bytes elem h.lim b vb n c i cs vr T then
        some (.slice (some ⟨h.n, 0, some 0⟩) (n + 1) (n + 1), (h.set b .dead).alloc (.cells (insC k i.toNat cs vr) elem)) else none
    | _, _ => none
  | _, _ => none

noncomputable def insP (k bytes : Nat) (elem : TypeId) (E : Env) (g : FuncId) : List Value → Heap → Option (Value × Heap)
  | [.slice a n c, .int .i64 i, vv], h => if i = (n : Int) then runAny E g [.slice a n c, .int .i64 i, vv] h else insIn k bytes elem a n c i vv h
  | _, _ => none

theorem insIn_inv {k bytes : Nat} {elem : TypeId} {a : Option Addr} {n c : Nat} {i : Int} {vv : Value} {h : Heap} {v : Value} {h' : Heap} (hk : insIn k bytes elem a n c i vv h = some (v, h')) :
    ∃ b vb cs vr T Tv, a = some ⟨b, 0, some 0⟩ ∧ vv = .slice (some ⟨vb, 0, none⟩) 1 1 ∧ h.get b = some (.cells cs T) ∧ h.get vb = some (.cells vr Tv) ∧ InsOk k bytes elem h.lim b vb n c i cs vr T ∧
      v = .slice (some ⟨h.n, 0, some 0⟩) (n + 1) (n + 1) ∧ h' = (h.set b .dead).alloc (.cells (insC k i.toNat cs vr) elem) := by
  unfold insIn at hk
  split at hk
  case h_2 => cases hk
  rename_i b vb
  split at hk
  case h_2 => cases hk
  rename_i cs T vr Tv hb hv
  obtain ⟨hq, hk⟩ := bif_some hk
  cases hk
  exact ⟨b, vb, cs, vr, T, Tv, rfl, rfl, hb, hv, insOk_spec.mp hq, rfl, rfl⟩
theorem insIn_mk {k bytes : Nat} {elem : TypeId} {b vb n c : Nat} {i : Int} {cs vr : List Value} {T Tv : TypeId} {h : Heap} (hb : h.get b = some (.cells cs T)) (hv : h.get vb = some (.cells vr Tv)) (q : InsOk k bytes elem h.lim b vb n c i cs vr T) :
    insIn k bytes elem (some ⟨b, 0, some 0⟩) n c i (.slice (some ⟨vb, 0, none⟩) 1 1) h = some (.slice (some ⟨h.n, 0, some 0⟩) (n + 1) (n + 1), (h.set b .dead).alloc (.cells (insC k i.toNat cs vr) elem)) := by
  unfold insIn
  simp only [hb, hv, insOk_spec.mpr q, cond_true]

theorem insP_framed {k bytes : Nat} {elem : TypeId} {E : Env} (hE : FramedE E) (g : FuncId) : Framed (fun _ => insP k bytes elem E g) := by
  intro S f h g0 args v f' m hc
  simp only [insP] at hc ⊢
  split at hc
  case h_2 => cases hc
  rename_i a n c i vv
  by_cases e : i = (n : Int)
  · rw [if_pos e] at hc
    obtain ⟨h', e1, m1, k1⟩ := runAny_framed hE g S f h g _ v f' m hc
    exact ⟨h', by rw [if_pos e]; exact e1, m1, k1⟩
  · rw [if_neg e] at hc
    obtain ⟨b, vb, cs, vr, T, Tv, rfl, rfl, hb, hv, q, rfl, rfl⟩ := insIn_inv hc
    have q' : InsOk k bytes elem h.lim b vb n c i cs vr T := by rw [m.lim]; exact q
    have := insIn_mk (m.cells hb) (m.cells hv) q'
    obtain ⟨m1, k1⟩ := m.set (m.out hb (by intro e; cases e)) .dead
    obtain ⟨m2, k2⟩ := m1.alloc (.cells (insC k i.toNat cs vr) elem)
    refine ⟨_, by rw [if_neg e, this, m.n], m2, k1.trans k2⟩

/-- What is asked of the program's own text: where there is no room (A), and where there is (B). -/
structure InsRun (k bytes : Nat) (elem : TypeId) (E : Env) (g : FuncId) : Prop where
  size : sz E.P elem = some k
  A : ∀ (b vb n i : Nat) (cs vr : List Value) (Tv : TypeId) (h : Heap), Wf h → h.get b = some (.cells cs elem) → h.get vb = some (.cells vr Tv) → cs.length = n * k → vr.length = k → i < n → roomy (n + 1) bytes = true → 0 < k → cs.all cellOk = true → vr.all cellOk = true →
    EvO E g [.slice (some ⟨b, 0, none⟩) n n, .int .i64 i, .slice (some ⟨vb, 0, none⟩) 1 1] [] h (fun v S h1 => ∃ b2, v = .slice (some ⟨b2, 0, some 0⟩) (n + 1) (n + 1) ∧ S = [[⟨b2, .cells (insC k i cs vr) elem⟩]])
  B : ∀ (B s n c i VB vs : Nat) (C VC : Array Value) (T VT : TypeId) (fr vfr : Nat × Nat) (cs vr : List Value) (w : World), w.heap[B]? = some (.cells C T fr) → Unfrozen C.size fr → s + c * k ≤ C.size → cs.length = n * k → (∀ (j : Nat) (v : Value), cs[j]? = some v → C[s + j]? = some v) →
    w.heap[VB]? = some (.cells VC VT vfr) → Unfrozen VC.size vfr → vs + k ≤ VC.size → vr.length = k → (∀ (j : Nat) (v : Value), vr[j]? = some v → VC[vs + j]? = some v) → VB ≠ B → i < n → n + 1 ≤ c → n + 1 < 9223372036854775808 → (∀ v ∈ cs, v.oneCell' = true) → (∀ v ∈ vr, v.oneCell' = true) →
    Calls E.P g #[.slice (some ⟨B, s, none⟩) n c, .int .i64 i, .slice (some ⟨VB, vs, none⟩) 1 1] w (fun e w' => e = .returned (.slice (some ⟨B, s, none⟩) (n + 1) c) ∧
      ∃ (C' : Array Value) (d : Nat), w' = { w with drawn := d, heap := w.heap.setIfInBounds B (.cells C' T fr) } ∧ C'.toList = splice (splice C.toList (s + (i + 1) * k) (cs.drop (i * k))) (s + i * k) vr)

theorem plainAt {cs : List Value} (h : cs.all (plainN 4) = true) {i : Nat} {v : Value} (hv : cs[i]? = some v) : plainN 4 v = true := List.all_eq_true.mp h v (List.mem_of_getElem? hv)
theorem insC_plain {k i : Nat} {cs vr : List Value} (h1 : cs.all (plainN 4) = true) (h2 : vr.all (plainN 4) = true) : (insC k i cs vr).all (plainN 4) = true := by
  unfold insC
  rw [List.all_append, List.all_append, Bool.and_eq_true, Bool.and_eq_true]
  exact ⟨List.all_eq_true.mpr fun v hv => List.all_eq_true.mp h1 v (List.mem_of_mem_take hv), h2, List.all_eq_true.mpr fun v hv => List.all_eq_true.mp h1 v (List.mem_of_mem_drop hv)⟩
theorem insC_get {k i n : Nat} {cs vr : List Value} {C : List Value} {s : Nat} (hc : cs.length = n * k) (hv : vr.length = k) (hi : i < n) (hs : s + (n + 1) * k ≤ C.length) (hcs : ∀ (j : Nat) (v : Value), cs[j]? = some v → C[s + j]? = some v) :
    ∀ (j : Nat) (v : Value), (insC k i cs vr)[j]? = some v → (splice (splice C (s + (i + 1) * k) (cs.drop (i * k))) (s + i * k) vr)[s + j]? = some v := by
  intro j v hj
  have hik : (i + 1) * k ≤ n * k := Nat.mul_le_mul_right k hi
  rw [Nat.succ_mul] at hik hs
  have hd : (cs.drop (i * k)).length = n * k - i * k := by rw [List.length_drop, hc]
  have l1 : (splice C (s + (i + 1) * k) (cs.drop (i * k))).length = C.length := splice_len _ _ _ (by rw [hd, Nat.succ_mul]; omega)
  rw [splice_get _ _ _ (by rw [l1, hv]; omega), splice_get _ _ _ (by rw [hd, Nat.succ_mul]; omega), hv, hd]
  unfold insC at hj
  rw [List.getElem?_append, List.length_take, hc, Nat.min_eq_left (by omega)] at hj
  by_cases q1 : j < i * k
  · rw [if_pos q1, List.getElem?_take, if_pos q1] at hj
    rw [if_neg (by omega), if_neg (by rw [Nat.succ_mul]; omega)]
    exact hcs j v hj
  · rw [if_neg q1, List.getElem?_append, hv] at hj
    by_cases q2 : j - i * k < k
    · rw [if_pos q2] at hj
      rw [if_pos (by omega), show s + j - (s + i * k) = j - i * k by omega]; exact hj
    · rw [if_neg q2, List.getElem?_drop] at hj
      have hlt : i * k + (j - i * k - k) < cs.length := by
        rcases Nat.lt_or_ge (i * k + (j - i * k - k)) cs.length with r | r
        · exact r
        · rw [List.getElem?_eq_none r] at hj; cases hj
      rw [if_neg (by omega), if_pos (by rw [Nat.succ_mul]; omega), List.getElem?_drop, show i * k + (s + j - (s + (i + 1) * k)) = i * k + (j - i * k - k) by rw [Nat.succ_mul]; omega]
      exact hj

theorem insP_ok {k bytes : Nat} {elem : TypeId} {E : Env} (hE : SideOK E) {g : FuncId} (hr : InsRun k bytes elem E g) :
    ∀ args hp v hp', insP k bytes elem E g args hp = some (v, hp') → ∀ Wr β w (args' : Array Value), Sim E.P Wr β hp w → VRs β args args'.toList → Calls E.P g args' w (Out E.P Wr β hp hp' v w) := by
  intro args hp v hp' hk Wr β w args' S ha
  unfold insP at hk
  split at hk
  case h_2 => cases hk
  rename_i a n c i vv
  by_cases e : i = (n : Int)
  · rw [if_pos e] at hk
    obtain ⟨m, hm⟩ := runAny_to hk
    exact run_ok hE m g _ _ _ _ hm Wr β w args' S ha
  · rw [if_neg e] at hk
    obtain ⟨b, vb, cs, vr, T, Tv, rfl, rfl, hb, hv, q, rfl, rfl⟩ := insIn_inv hk
    obtain ⟨qT, qc⟩ : T = elem ∧ c = n := ⟨q.Te, q.ce⟩
    subst qT qc
    obtain ⟨ii, rfl⟩ : ∃ ii : Nat, i = (ii : Int) := ⟨i.toNat, by have := q.i0; omega⟩
    have hii : ii < c := by have := q.i1; omega
    have e1 : ((ii : Int)).toNat = ii := rfl
    rw [e1]
    -- what is handed in
    have : ∃ v1 v2 v3, args' = #[v1, v2, v3] ∧ VR β (.slice (some ⟨b, 0, some 0⟩) c c) v1 ∧ VR β (.int .i64 (ii : Int)) v2 ∧ VR β (.slice (some ⟨vb, 0, none⟩) 1 1) v3 := by
      cases args' with
      | mk l =>
        cases ha with
        | cons h1 r => cases r with
          | cons h2 r => cases r with
            | cons h3 r => cases r with
              | nil => exact ⟨_, _, _, rfl, h1, h2, h3⟩
    obtain ⟨v1, v2, v3, rfl, hv1, hv2, hv3⟩ := this
    cases hv2
    have hck := sz_cells hr.size
    have alvb : alive hp b := ⟨_, hb, by intro q; cases q⟩
    have alvv : alive hp vb := ⟨_, hv, by intro q; cases q⟩
    obtain ⟨B, s, C, fr, b1, b2, b3, b4, b5⟩ := S.live _ _ _ hb
    obtain ⟨VB, vs, VC, vfr, d1, d2, d3, d4, d5⟩ := S.live _ _ _ hv
    have hne : VB ≠ B := S.inj vb b _ _ alvv alvb d1 b1 (fun e => q.ne e.symm)
    cases hv1 with
    | slice hA => cases hA
    | @slack _ _ B' s' N' k' hβ _ _ c' hcc hnn =>
    rw [b1] at hβ; cases hβ
    rw [hck] at hnn
    cases hv3 with
    | @slice _ a3 hA3 _ _ =>
    cases hA3 with
    | @new _ _ VB' vs' VN' vk' hβ3 =>
    rw [d1] at hβ3; cases hβ3
    have hplain := insC_plain (k := k) (i := ii) q.csp q.vrp
    by_cases room : c + 1 ≤ c'
    · -- there is room
      have hcell : ∀ (j : Nat) (v : Value), cs[j]? = some v → C[s + j]? = some v := by
        intro j v hj
        obtain ⟨v', g1, g2⟩ := b5 j v hj
        rw [plain_eq 4 (plainAt q.csp hj) g2] at g1; exact g1
      have hvell : ∀ (j : Nat) (v : Value), vr[j]? = some v → VC[vs + j]? = some v := by
        intro j v hj
        obtain ⟨v', g1, g2⟩ := d5 j v hj
        rw [plain_eq 4 (plainAt q.vrp hj) g2] at g1; exact g1
      have one : ∀ {l : List Value}, l.all (plainN 4) = true → l.all cellOk = true → ∀ v ∈ l, v.oneCell' = true := by
        intro l hp ho v hm
        exact cellOk_one (VR.plain (β := β) 4 v (List.all_eq_true.mp hp v hm)) (List.all_eq_true.mp ho v hm)
      have hvs : vs + k ≤ VC.size := by have := d4; rw [q.vrl] at this; exact this
      have hcall := hr.B B (s + 0) c c' ii VB (vs + 0) C VC T Tv fr vfr cs vr w b2 b3 (by omega) q.csl (by simpa using hcell) d2 d3 (by omega) q.vrl (by simpa using hvell) hne hii room (roomy_lt q.room) (one q.csp q.cso) (one q.vrp q.vro)
      refine hcall.mono ?_
      rintro ex w' ⟨rfl, C', d, rfl, hC'⟩
      have hC2 := hC'
      simp only [Nat.add_zero] at hC2
      have hmul : (c + 1) * k ≤ c' * k := Nat.mul_le_mul_right k room
      have hsz : C'.size = C.size := by
        have h1 := congrArg List.length hC'
        have hik : (ii + 1) * k ≤ c * k := Nat.mul_le_mul_right k hii
        have hd : (cs.drop (ii * k)).length = c * k - ii * k := by rw [List.length_drop, q.csl]
        rw [Nat.succ_mul] at hik hmul
        rw [splice_len _ _ _ (by rw [splice_len _ _ _ (by rw [hd, Nat.succ_mul]; simp; omega), q.vrl]; simp; omega), splice_len _ _ _ (by rw [hd, Nat.succ_mul]; simp; omega)] at h1
        simpa using h1
      have hB : B < w.heap.size := lt_of_get b2
      have S1 := S.kill alvb
      have free : ∀ b' x', alive (hp.set b .dead) b' → β b' = some x' → x'.B ≠ B := by
        intro b' x' a' hb'
        rcases alive_set a' with ⟨_, hd⟩ | ⟨n1, a1⟩
        · exact (hd rfl).elim
        · exact S.inj b' b _ _ a1 alvb hb' b1 n1
      have hW : Wr B := S.wr b _ alvb q.limb b1
      have S2 := S1.scribble (w' := { w with drawn := d, heap := w.heap.setIfInBounds B (.cells C' T fr) }) free hW (by simp) (fun k hk => by simp only; rw [Array.getElem?_setIfInBounds, if_neg (fun e => hk e.symm)])
      have hget : ({ w with drawn := d, heap := w.heap.setIfInBounds B (.cells C' T fr) } : World).heap[B]? = some (.cells C' T fr) := by simp [hB]
      have hle := le_upd (⟨B, s, C.size, k⟩ : Img) S.dom
      obtain ⟨g1, g2⟩ := S2.addO (o := .cells (insC k ii cs vr) T) (x := ⟨B, s, C.size, k⟩) free hW (by simpa using hB) ⟨C', fr, hsz.symm, hck.symm, hget, by rw [hsz]; exact b3, by rw [insC_len q.csl q.vrl (Nat.le_of_lt hii), hsz]; show s + (c + 1) * k ≤ C.size; omega, fun j v hj => by
        have hg := insC_get (C := C.toList) (s := s) q.csl q.vrl hii (by simp; omega) (fun j v h => by rw [Array.getElem?_toList]; exact hcell j v h) j v hj
        rw [← hC2, Array.getElem?_toList] at hg
        exact ⟨v, hg, VR.plain 4 v (plainAt hplain hj)⟩⟩
      refine ⟨_, _, rfl, g2, g1, ?_, ⟨rfl, rfl, rfl, by simp, fun k hk => ?_⟩, ⟨rfl, Nat.le_succ _⟩⟩
      · have hu : upd β (hp.set b .dead).n ⟨B, s, C.size, k⟩ hp.n = some ⟨B, s, C.size, k⟩ := by unfold upd; exact if_pos rfl
        have := VR.slack (o := 0) hu (c + 1) (c := c + 1) (c' := c') room (by omega)
        simpa using this
      · have hne2 : ¬ B = k := fun e => hk (e ▸ hW)
        simp only; rw [Array.getElem?_setIfInBounds, if_neg hne2]
    · -- there is none
      have hcc' : c' = c := by omega
      subst hcc'
      have hwf : Wf { hp with lim := hp.n } := ⟨fun b o h => S.tdom b o h, Nat.le_refl _⟩
      obtain ⟨m, vr1, h2, segs', hx, hf', hrun, hex, hw2, hs2, nd, b2', rfl, rfl⟩ := hr.A b vb c' ii cs vr Tv { hp with lim := hp.n } hwf hb hv q.csl q.vrl hii q.room q.k0 q.cso q.vro _ _ (Has.nil hwf)
      have hs2 : Has [⟨b2', .cells (insC k ii cs vr) T⟩] hx h2 hf' := hs2
      obtain ⟨hg2, hl2⟩ := hs2.blk _ List.mem_cons_self
      dsimp only at hg2 hl2
      refine (run_ok hE m g _ _ _ _ hrun _ β w _ S.shut (.cons (.slice (.new b1) _ _) (.cons (.int _ _) (.cons (.slice (.new d1) _ _) .nil)))).mono ?_
      rintro ex w' ⟨v', β1, rfl, hu, S1, hvv, hf, hl⟩
      have ext : Ext w w' := ⟨hf.os, hf.tape, hf.output, hf.size, fun k hk => hf.block k (Nat.not_le.mpr hk)⟩
      have alv2 : alive h2 b2' := ⟨_, hg2, by intro q; cases q⟩
      obtain ⟨x2, hx2, C2, fr2, o1, o2, o3, o4, o5, o6⟩ := S1.get hg2 (by intro q; cases q)
      have hxB : w.heap.size ≤ x2.B := S1.wr b2' x2 alv2 hl2 hx2
      have Sk := (S.ext ext).kill alvb
      obtain ⟨g1, g2⟩ := Sk.addO (o := .cells (insC k ii cs vr) T) (x := x2) (fun b' x' _ hb' => by have := S.img b' x' hb'; omega) (S.fresh _ hxB) (S1.img b2' x2 hx2) ⟨C2, fr2, o1, o2, o3, o4, o5, fun j v hj => by
        obtain ⟨v'', p1, p2⟩ := o6 j v hj
        rw [plain_eq 4 (plainAt hplain hj) p2] at p1
        exact ⟨v, p1, VR.plain 4 v (plainAt hplain hj)⟩⟩
      refine ⟨v', _, rfl, g2, g1, ?_, Ext.frame S ext, ⟨rfl, Nat.le_succ _⟩⟩
      cases hvv with
      | slice hA => cases hA
      | @slack _ _ B2 s2 N2 k2 hβ2 _ _ c2 hc2 hn2 =>
        rw [hx2] at hβ2; cases hβ2
        have hu2 : upd β (hp.set b .dead).n ⟨B2, s2, N2, k2⟩ hp.n = some ⟨B2, s2, N2, k2⟩ := by unfold upd; exact if_pos rfl
        exact .slack hu2 (c' + 1) hc2 hn2
end Go.Proofs.Ytcjcbcmapjcfnaa.V

/-! ## Rules for walks through the library's own texts that write rows. -/
namespace Go.Proofs.Ytcjcbcmapjcfnaa.V
open Go
set_option linter.unusedVariables false
set_option linter.unusedSimpArgs false

section
variable {X : Cx} {st : List It} {l : L} {own rest : List Blk} {h0 : Heap}
variable {r : Array Oper} {os : List Oper} {d : Option Nat} {ty : TypeId} {pos : String} {aft : Array Edge}
def putL (d : Option Nat) (v : Value) (l : L) : L := match d with | some d => (d, true, v) :: l | none => l
/-- An operation that writes the first of this call's blocks. -/
theorem g_wr {op : Op} {v : Value} {b : Nat} {o o' : O} (hn : ∀ e, d = some e → Nat.blt e X.nt = true)
    (ho : ∀ fr h hf, Agree l fr → Has (⟨b, o⟩ :: rest) h0 h hf → opV X.E (run X.E 0) fr h op = some (v, h.set b o'))
    (kk : Goes X (.ops r false os :: st) (putL d v l) (⟨b, o'⟩ :: rest) h0) : Goes X (.ops r false (⟨d, op, ty, pos, aft, none⟩ :: os) :: st) l (⟨b, o⟩ :: rest) h0 := by
  intro fr h hf ag hs
  have h1 := ho fr h hf ag hs
  cases d with
  | none => exact step_op rfl h1 rfl (kk _ _ _ ag (hs.storeH o'))
  | some e => exact step_op rfl h1 (put_some (hn e rfl) _ _) (kk _ _ _ (ag.set e true v) (hs.storeH o'))
/-- .. that makes a block. -/
theorem g_al {op : Op} {v : Nat → Value} {o : O} (hn : ∀ e, d = some e → Nat.blt e X.nt = true)
    (ho : ∀ fr h hf, Agree l fr → Has own h0 h hf → opV X.E (run X.E 0) fr h op = some (v h.n, h.alloc o))
    (kk : ∀ b, Goes X (.ops r false os :: st) (putL d (v b) l) (⟨b, o⟩ :: own) h0) : Goes X (.ops r false (⟨d, op, ty, pos, aft, none⟩ :: os) :: st) l own h0 := by
  intro fr h hf ag hs
  have h1 := ho fr h hf ag hs
  cases d with
  | none => exact step_op rfl h1 rfl (kk _ _ _ _ ag (hs.alloc o))
  | some e => exact step_op rfl h1 (put_some (hn e rfl) _ _) (kk _ _ _ _ (ag.set e true _) (hs.alloc o))
end

/-! ### Parts of rows -/
theorem bound_some {ik : IntKind} {d y n : Nat} (h : n ≤ y) : boundV (some (.int ik (n : Int))) d y = some n := by
  simp only [boundV]; rw [if_pos ⟨by omega, by omega⟩]; rfl
theorem sl_any {E : Env} {h : Heap} {t elem k len c : Nat} {a : Addr} {o1 o2 : Option Value} {lo hi : Nat} {a' : Addr} (hu : E.P.underlying t = some (.slice elem)) (hk : sz E.P elem = some k) (hh : boundV o2 len c = some hi) (hl : boundV o1 0 hi = some lo)
    (hc : hi ≤ c) (hs : slackOk h a elem = true) (ha : sliceAddr a c lo (lo * k) = some a') : sliceV E h t (.slice (some a) len c) o1 o2 none = some (.slice (some a') (hi - lo) (c - lo)) := by
  unfold sliceV
  rw [hu]; dsimp only
  rw [show boundV none c c = some c from rfl]; dsimp only
  simp only [Option.isSome_none, Bool.false_and, cond_false, hh, hl, hk, Bool.false_or]
  rw [Nat.ble_eq_true_of_le hc, hs]
  simp only [Bool.and_self, cond_true, ha]
theorem sl_max {E : Env} {h : Heap} {t elem k len c : Nat} {a : Addr} {o1 o2 o3 : Value} {lo hi m : Nat} {a' : Addr} (hu : E.P.underlying t = some (.slice elem)) (hk : sz E.P elem = some k) (hm : boundV (some o3) c c = some m) (hh : boundV (some o2) len m = some hi) (hl : boundV (some o1) 0 hi = some lo)
    (hc : hi ≤ m) (ha : sliceAddr (exactA a) m lo (lo * k) = some a') : sliceV E h t (.slice (some a) len c) (some o1) (some o2) (some o3) = some (.slice (some a') (hi - lo) (m - lo)) := by
  unfold sliceV
  rw [hu]; dsimp only
  rw [hm]; dsimp only
  simp only [Option.isSome_some, Option.isNone_some, Bool.and_false, cond_false, hh, hl, hk, Bool.true_or, cond_true]
  rw [Nat.ble_eq_true_of_le hc]
  simp only [Bool.and_self, cond_true, ha]
theorem slack_own {h : Heap} {b o : Nat} {cs : List Value} {elem : TypeId} (hb : h.get b = some (.cells cs elem)) : slackOk h ⟨b, o, some 0⟩ elem = true := by
  unfold slackOk; dsimp only; rw [hb]; exact Nat.beq_refl _
theorem slack_none (h : Heap) (b o : Nat) (elem : TypeId) : slackOk h ⟨b, o, none⟩ elem = true := rfl
theorem sa_slack {b o m l k : Nat} (h : l < m) : sliceAddr ⟨b, o, some 0⟩ m l k = some ⟨b, o + k, some 0⟩ := by
  unfold sliceAddr; dsimp only; rw [Trie.nb (by omega : ¬ m = l)]; rfl
theorem sa_none {b o m l k : Nat} (h : l < m) : sliceAddr ⟨b, o, none⟩ m l k = some ⟨b, o + k, none⟩ := by
  unfold sliceAddr; dsimp only; rw [Trie.nb (by omega : ¬ m = l)]; rfl
/-- The first cells of a row that lies in a block. -/
theorem first_blk {h : Heap} {b o k n : Nat} {sp : Option Nat} {cs : List Value} {T : TypeId} {len c : Nat} (hsp : sp = none ∨ sp = some 0) (hb : h.get b = some (.cells cs T)) (hl : o + n * k ≤ cs.length) : firstV h k n (.slice (some ⟨b, o, sp⟩) len c) = some ((cs.drop o).take (n * k)) := by
  unfold firstV
  dsimp only
  cases e : Nat.beq (n * k) 0 with
  | true => rw [Nat.eq_of_beq_eq_true e, List.take_zero]; rfl
  | false =>
    have : elemAddr ⟨b, o, sp⟩ 0 = some ⟨b, o, none⟩ := by rcases hsp with q | q <;> subst q <;> rfl
    simp only [cond_false, this, cellsAt, hb, Nat.ble_eq_true_of_le hl, cond_true]
theorem store_own {h : Heap} {b o : Nat} {cs vs : List Value} {T : TypeId} (hb : h.get b = some (.cells cs T)) (hlim : h.lim ≤ b) (hl : o + vs.length ≤ cs.length) (hv : vs.all cellOk = true) : storeCells h ⟨b, o, none⟩ vs = some (h.set b (.cells (splice cs o vs) T)) := by
  unfold storeCells
  dsimp only
  rw [hb]; dsimp only
  rw [Nat.ble_eq_true_of_le hlim, Nat.ble_eq_true_of_le hl, hv]; rfl
theorem splice_nil (cs : List Value) (o : Nat) (h : o ≤ cs.length) : splice cs o [] = cs := by
  unfold splice; rw [List.length_nil, Nat.add_zero, List.nil_append, List.take_append_drop]
theorem set_same (h : Heap) : ∀ {b : Nat} {o : O}, h.get b = some o → True := fun _ => trivial

/-- Appended within the room that there is. -/
theorem app_in {E : Env} {h : Heap} {ts : Array TypeId} {sT elem k bytes n m c b : Nat} {z x : Value} {cs vs : List Value} (ht : ts[0]? = some sT) (hu : E.P.underlying sT = some (.slice elem)) (hk : sz E.P elem = some k) (hby : bytesOf E.P elem = some bytes) (hz : zeroOf E.P elem = some z) (hzs : zerosV E.P ts = some false)
    (hlen : lenOfV x = some m) (hf : firstV h k m x = some vs) (hvl : vs.length = m * k) (hfit : n + m ≤ c) (hb : h.get b = some (.cells cs elem)) (hlim : h.lim ≤ b) (hl : n * k + m * k ≤ cs.length) (hv : vs.all cellOk = true) (hpos : 0 < m * k) :
    appendV E h ts (.slice (some ⟨b, 0, some 0⟩) n c) x = some (.slice (some ⟨b, 0, some 0⟩) (n + m) c, h.set b (.cells (splice cs (n * k) vs) elem)) := by
  have hnew : newV E h elem k bytes false x = some (m, vs) := by simp only [newV, cond_false, hlen, hf]
  have hbeq : Nat.beq vs.length (m * k) = true := by rw [hvl]; exact Nat.beq_refl _
  have hst := store_own (o := n * k) hb hlim (by omega) hv
  simp only [appendV, ht, hu, hk, hby, hz, hzs, hnew, hbeq, cond_true]
  rw [Nat.ble_eq_true_of_le hfit]
  simp only [cond_true, putV, Trie.nb (show ¬ m * k = 0 by omega), cond_false, elemAddr, Nat.zero_add, hst]
theorem app_in0 {E : Env} {h : Heap} {ts : Array TypeId} {sT elem k bytes n c : Nat} {z x : Value} {a : Option Addr} (ht : ts[0]? = some sT) (hu : E.P.underlying sT = some (.slice elem)) (hk : sz E.P elem = some k) (hby : bytesOf E.P elem = some bytes) (hz : zeroOf E.P elem = some z) (hzs : zerosV E.P ts = some false)
    (hlen : lenOfV x = some 0) (hf : firstV h k 0 x = some []) (hfit : n ≤ c) : appendV E h ts (.slice a n c) x = some (.slice a n c, h) := by
  have hnew : newV E h elem k bytes false x = some (0, []) := by simp only [newV, cond_false, hlen, hf]
  have hbeq : Nat.beq ([] : List Value).length (0 * k) = true := by rw [Nat.zero_mul]; rfl
  simp only [appendV, ht, hu, hk, hby, hz, hzs, hnew, hbeq, cond_true, Nat.add_zero]
  rw [Nat.ble_eq_true_of_le hfit]
  simp only [cond_true, putV, Nat.zero_mul]
  rfl
/-- Copied into a row of a block. -/
theorem copy_own {E : Env} {h : Heap} {ts : Array TypeId} {sT elem k len c m mm b o : Nat} {x : Value} {cs vs : List Value} {T : TypeId} {sp : Option Nat} (hsp : sp = none ∨ sp = some 0) (ht : ts[0]? = some sT) (hu : E.P.underlying sT = some (.slice elem)) (hk : sz E.P elem = some k) (hlen : lenOfV x = some m) (hmm : Nat.min m len = mm)
    (hf : firstV h k mm x = some vs) (hvl : vs.length = mm * k) (hb : h.get b = some (.cells cs T)) (hlim : h.lim ≤ b) (hl : o + vs.length ≤ cs.length) (hv : vs.all cellOk = true) (hpos : 0 < mm * k) :
    copyV E h ts (.slice (some ⟨b, o, sp⟩) len c) x = some (goInt mm, h.set b (.cells (splice cs o vs) T)) := by
  subst hmm
  have hst := store_own hb hlim hl hv
  have hbeq : Nat.beq vs.length (Nat.min m len * k) = true := by rw [hvl]; exact Nat.beq_refl _
  have hel : elemAddr ⟨b, o, sp⟩ 0 = some ⟨b, o, none⟩ := by rcases hsp with q | q <;> subst q <;> rfl
  simp only [copyV, ht, hu, hk, hlen, hf, hbeq, Bool.not_true, cond_false, Trie.nb (show ¬ Nat.min m len * k = 0 by omega), hel, hst]
/-- Appended zeros, where there is no room, to what lies elsewhere. -/
theorem app_zeros {E : Env} {h : Heap} {ts : Array TypeId} {sT elem k bytes len n c b : Nat} {ik : IntKind} {z : Value} {cs : List Value} {T : TypeId} (ht : ts[0]? = some sT) (hu : E.P.underlying sT = some (.slice elem)) (hk : sz E.P elem = some k) (hby : bytesOf E.P elem = some bytes) (hz : zeroOf E.P elem = some z) (hzz : Nat.beq z.cells.size k = true) (hzs : zerosV E.P ts = some true)
    (hn : n ≤ 140737488355328 ∧ n * bytes ≤ 281474976710656) (hr : roomy (len + n) bytes = true) (hfit : c < len + n) (hb : h.get b = some (.cells cs T)) (hl : len * k ≤ cs.length) :
    appendV E h ts (.slice (some ⟨b, 0, none⟩) len c) (.int ik (n : Int)) = some (.slice (some ⟨h.n, 0, some 0⟩) (len + n) (len + n), h.alloc (.cells (cs.take (len * k) ++ repZ z.cells.toList n) elem)) := by
  have hzk := Nat.eq_of_beq_eq_true hzz
  have hnew : newV E h elem k bytes true (.int ik (n : Int)) = some (n, repZ z.cells.toList n) := by
    have hc : (0 : Int) ≤ n ∧ (n : Int) ≤ 140737488355328 ∧ (n : Int) * (bytes : Int) ≤ 281474976710656 := ⟨by omega, by omega, by have h2 := hn.2; have h3 : ((n * bytes : Nat) : Int) = (n : Int) * (bytes : Int) := Int.natCast_mul n bytes; omega⟩
    simp only [newV, cond_true, if_pos hc, hz, hzz, Int.toNat_natCast]
  have hlen : Nat.beq (repZ z.cells.toList n).length (n * k) = true := by rw [repZ_len, Array.length_toList, hzk]; exact Nat.beq_refl _
  have hno : Nat.ble (len + n) c = false := by
    cases e : Nat.ble (len + n) c
    · rfl
    · exact absurd (Nat.le_of_ble_eq_true e) (by omega)
  have hf := first_blk (h := h) (b := b) (o := 0) (k := k) (n := len) (len := len) (c := c) (.inl rfl) hb (by omega)
  rw [List.drop_zero] at hf
  simp only [appendV, ht, hu, hk, hby, hz, hzs, hnew, hlen, cond_true, hno, cond_false, hr, hzz, Bool.and_self, growV, isSlack, hf]
/-- Cleared, of a block. -/
theorem clear_own {E : Env} {h : Heap} {ts : Array TypeId} {sT elem k n c b o : Nat} {z : Value} {cs : List Value} {T : TypeId} {sp : Option Nat} (hsp : sp = none ∨ sp = some 0) (ht : ts[0]? = some sT) (hu : E.P.underlying sT = some (.slice elem)) (hz : zeroOf E.P elem = some z) (hzz : z.cells.size = k)
    (hn : 0 < n) (hb : h.get b = some (.cells cs T)) (hlim : h.lim ≤ b) (hl : o + n * k ≤ cs.length) (hzo : z.cells.toList.all cellOk = true) :
    clearV E h ts (.slice (some ⟨b, o, sp⟩) n c) = some (.tuple #[], h.set b (.cells (splice cs o (repZ z.cells.toList n)) T)) := by
  have hall : ∀ n, (repZ z.cells.toList n).all cellOk = true := by
    intro n
    induction n with
    | zero => rfl
    | succ n ih => show (z.cells.toList ++ repZ z.cells.toList n).all cellOk = true; rw [List.all_append, hzo, ih]; rfl
  have hst := store_own (o := o) (vs := repZ z.cells.toList n) hb hlim (by rw [repZ_len, Array.length_toList, hzz]; exact hl) (hall n)
  have hel : elemAddr ⟨b, o, sp⟩ 0 = some ⟨b, o, none⟩ := by rcases hsp with q | q <;> subst q <;> rfl
  simp only [clearV, ht, hu, Trie.nb (show ¬ n = 0 by omega), cond_false, hz, hel, hst]
end Go.Proofs.Ytcjcbcmapjcfnaa.V

/-! ## slices.Insert and slices.Delete of what grows, by types. -/
namespace Go.Proofs.Ytcjcbcmapjcfnaa.V
open Go
set_option linter.unusedVariables false
set_option linter.unusedSimpArgs false

theorem opV_append {E : Env} {call : FuncId → List Value → Heap → Option (Value × Heap)} {fr : Fr} {h : Heap} {xs : Array Operand} {ts : Array TypeId} {s x : Value} {r : Value × Heap} (e : evs fr xs.toList = some [s, x]) (hr : appendV E h ts s x = some r) : opV E call fr h (.call ⟨.builtin .append, xs, ts⟩) = some r := by
  simp only [opV, readV, writeV, e, hr]
theorem opV_copy {E : Env} {call : FuncId → List Value → Heap → Option (Value × Heap)} {fr : Fr} {h : Heap} {xs : Array Operand} {ts : Array TypeId} {s x : Value} {r : Value × Heap} (e : evs fr xs.toList = some [s, x]) (hr : copyV E h ts s x = some r) : opV E call fr h (.call ⟨.builtin .copy, xs, ts⟩) = some r := by
  simp only [opV, readV, writeV, e, hr]
theorem opV_clear {E : Env} {call : FuncId → List Value → Heap → Option (Value × Heap)} {fr : Fr} {h : Heap} {xs : Array Operand} {ts : Array TypeId} {x : Value} {r : Value × Heap} (e : evs fr xs.toList = some [x]) (hr : clearV E h ts x = some r) : opV E call fr h (.call ⟨.builtin .clear, xs, ts⟩) = some r := by
  simp only [opV, readV, writeV, e, hr]

section
variable {X : Cx} {st : List It} {l : L} {own rest : List Blk} {h0 : Heap}
variable {r : Array Oper} {os : List Oper} {d : Option Nat} {ty : TypeId} {pos : String} {aft : Array Edge}
/-- An operation behind which this call's blocks are others. -/
theorem g_wo {op : Op} {v : Value} {own' : List Blk} (hn : ∀ e, d = some e → Nat.blt e X.nt = true)
    (ho : ∀ fr h hf, Agree l fr → Has own h0 h hf → ∃ h2, opV X.E (run X.E 0) fr h op = some (v, h2) ∧ Has own' h0 h2 hf)
    (kk : Goes X (.ops r false os :: st) (putL d v l) own' h0) : Goes X (.ops r false (⟨d, op, ty, pos, aft, none⟩ :: os) :: st) l own h0 := by
  intro fr h hf ag hs
  obtain ⟨h2, h1, hs2⟩ := ho fr h hf ag hs
  cases d with
  | none => exact step_op rfl h1 rfl (kk _ _ _ ag hs2)
  | some e => exact step_op rfl h1 (put_some (hn e rfl) _ _) (kk _ _ _ (ag.set e true v) hs2)
end

theorem flat_take {k : Nat} : ∀ (rows : List (List Value)) (i : Nat), (∀ r ∈ rows, r.length = k) → (rows.take i).flatten = rows.flatten.take (i * k) := by
  intro rows
  induction rows with
  | nil => intro i _; simp
  | cons x rows ih =>
    intro i hr
    have hx := hr x List.mem_cons_self
    cases i with
    | zero => simp
    | succ i =>
      rw [List.take_succ_cons, List.flatten_cons, List.flatten_cons, ih i (fun y hy => hr y (List.mem_cons_of_mem _ hy)), Nat.succ_mul, show i * k + k = x.length + i * k by omega, List.take_length_add_append]
theorem flat_drop {k : Nat} : ∀ (rows : List (List Value)) (i : Nat), (∀ r ∈ rows, r.length = k) → (rows.drop i).flatten = rows.flatten.drop (i * k) := by
  intro rows
  induction rows with
  | nil => intro i _; simp
  | cons x rows ih =>
    intro i hr
    have hx := hr x List.mem_cons_self
    cases i with
    | zero => simp
    | succ i =>
      rw [List.drop_succ_cons, List.flatten_cons, ih i (fun y hy => hr y (List.mem_cons_of_mem _ hy)), Nat.succ_mul, show i * k + k = x.length + i * k by omega, List.drop_length_add_append]
namespace Rws
variable {α : Type} {R : Rep α} {h : Heap} {rows : List (List Value)} {xs : List α}
theorem take (s : Rws R h rows xs) (n : Nat) : Rws R h (rows.take n) (xs.take n) := by
  refine ⟨by rw [List.length_take, List.length_take, s.len], fun i row x hr hx => ?_⟩
  rw [List.getElem?_take] at hr hx
  split at hr
  · rename_i q; rw [if_pos q] at hx; exact s.C i row x hr hx
  · cases hr
theorem drop (s : Rws R h rows xs) (n : Nat) : Rws R h (rows.drop n) (xs.drop n) := by
  refine ⟨by rw [List.length_drop, List.length_drop, s.len], fun i row x hr hx => ?_⟩
  rw [List.getElem?_drop] at hr hx
  exact s.C _ row x hr hx
theorem plain (s : Rws R h rows xs) (hpl : ∀ h row x, R.C h row x → row.all (plainN 4) = true) : rows.flatten.all (plainN 4) = true := by
  rw [List.all_eq_true]
  intro v hv
  obtain ⟨row, hr, hv⟩ := List.mem_flatten.mp hv
  obtain ⟨x, hx⟩ := s.at_ hr
  exact List.all_eq_true.mp (hpl _ _ _ hx) v hv
end Rws

def insL {α : Type} (B : Nat) (xs : List α) (i : Int) (x : α) : Option (List α) := if 0 ≤ i ∧ i ≤ (xs.length : Int) ∧ roomy (xs.length + 1) B = true then some (xs.take i.toNat ++ x :: xs.drop i.toNat) else none
def delL {α : Type} (xs : List α) (i j : Int) : Option (List α) := if 0 ≤ i ∧ i < j ∧ j ≤ (xs.length : Int) then some (xs.take i.toNat ++ xs.drop j.toNat) else none

theorem evo_insP {α : Type} {R : Rep α} {k bytes : Nat} {elem : TypeId} {EB E : Env} {g : FuncId} (hp : E.prim g = some (insP k bytes elem EB g)) (hk : R.k = k) (hk0 : 0 < k) (hpl : ∀ h row x, R.C h row x → row.all (plainN 4) = true)
    {h : Heap} {t : List Blk} {q : Option Addr} {xs ys : List α} {i : Int} {x : α} {row : List Value} {bv Tv : Nat}
    (hC : ∀ {t : List Blk} {q : Option Addr}, AccR R elem h t (.slice q xs.length xs.length) xs → roomy (xs.length + 1) bytes = true → EvO EB g [.slice q xs.length xs.length, .int .i64 (xs.length : Int), .slice (some ⟨bv, 0, none⟩) 1 1] [t, [⟨bv, .cells row Tv⟩]] h (fun v S h1 => ∃ q' t', v = .slice q' (xs ++ [x]).length (xs ++ [x]).length ∧ S = [t'] ∧ AccR R elem h1 t' (.slice q' (xs ++ [x]).length (xs ++ [x]).length) (xs ++ [x])))
    (a : AccR R elem h t (.slice q xs.length xs.length) xs) (hc : R.C h row x) (hy : insL bytes xs i x = some ys) :
    EvO E g [.slice q xs.length xs.length, .int .i64 i, .slice (some ⟨bv, 0, none⟩) 1 1] [t, [⟨bv, .cells row Tv⟩]] h (fun v S h1 => ∃ q' t', v = .slice q' ys.length ys.length ∧ S = [t'] ∧ AccR R elem h1 t' (.slice q' ys.length ys.length) ys) := by
  obtain ⟨⟨i0, i1, hr⟩, hy⟩ := ite_some' hy
  intro h' hf' hs
  by_cases e : i = (xs.length : Int)
  · subst e
    have hyy : ys = xs ++ [x] := by rw [hy]; simp
    subst hyy
    obtain ⟨m, v, h2, segs', h1, hf2, hrun, e1, w1, hs2, nd, hq⟩ := hC a hr h' hf' hs
    refine ⟨1, v, h2, segs', h1, hf2, ?_, e1, w1, hs2, nd, hq⟩
    rw [run_prim hp]
    simp only [insP, if_true]
    exact runAny_of hrun
  · obtain ⟨hxl, ⟨g1, _, _⟩ | ⟨b, rows, g1, g2, g3⟩⟩ := a
    · subst g1
      have : i = 0 := by simp at i1; omega
      exact absurd (by rw [this]; rfl) e
    · have hq : q = some ⟨b, 0, some 0⟩ := by simpa using g1
      subst hq g2
      have hs : Has (⟨b, .cells rows.flatten elem⟩ :: [⟨bv, .cells row Tv⟩]) h h' hf' := hs
      obtain ⟨hb, hlim⟩ := hs.blk _ List.mem_cons_self
      obtain ⟨hv, _⟩ := hs.blk ⟨bv, .cells row Tv⟩ (by simp)
      have hne : b ≠ bv := by
        have nd := hs.nd
        simp at nd; exact nd
      obtain ⟨ii, rfl⟩ : ∃ ii : Nat, i = (ii : Int) := ⟨i.toNat, by omega⟩
      have hii : ii < xs.length := by omega
      have hrowk : row.length = k := by rw [R.len hc, hk]
      have g3' := g3.ext hs.ext.kn
      have ok : InsOk k bytes elem h'.lim b bv xs.length xs.length (ii : Int) rows.flatten row elem :=
        ⟨hlim, rfl, by rw [g3.flen, hk], rfl, hrowk, g3.plain hpl, hpl _ _ _ hc, hne, by omega, by omega, hr, hk0, g3.all, R.ok hc⟩
      have hin := insIn_mk hb hv ok
      have hfl : insC k ii rows.flatten row = (rows.take ii ++ row :: rows.drop ii).flatten := by
        unfold insC
        rw [List.flatten_append, List.flatten_cons, flat_take rows ii (fun r hr => by rw [g3.k r hr, hk]), flat_drop rows ii (fun r hr => by rw [g3.k r hr, hk])]
      have e1 : ((ii : Int)).toNat = ii := rfl
      rw [e1] at hin hy
      have hrun : run E 1 g [.slice (some ⟨b, 0, some 0⟩) xs.length xs.length, .int .i64 (ii : Int), .slice (some ⟨bv, 0, none⟩) 1 1] h' = some (.slice (some ⟨h'.n, 0, some 0⟩) (xs.length + 1) (xs.length + 1), (h'.set b .dead).alloc (.cells (insC k ii rows.flatten row) elem)) := by
        rw [run_prim hp]
        simp only [insP, if_neg e]
        exact hin
      have hs1 := (hs.killH).alloc (.cells (insC k ii rows.flatten row) elem)
      obtain ⟨hf2, hs2⟩ := hs1.sub (own' := [⟨h'.n, .cells (insC k ii rows.flatten row) elem⟩]) (by
        show [_].Sublist [_, _]
        exact List.Sublist.cons_cons _ (List.nil_sublist _))
      have hyl : ys.length = xs.length + 1 := by rw [hy, List.length_append, List.length_cons, List.length_take, List.length_drop]; omega
      have hR : Rws R hf2 (rows.take ii ++ row :: rows.drop ii) ys := by
        rw [hy]
        exact ((g3.ext hs2.ext.kn).take ii).app (Rws.cons (R.mono hs2.ext.kn hc) ((g3.ext hs2.ext.kn).drop ii))
      rw [← hyl] at hrun
      refine ⟨1, _, _, [[⟨h'.n, .cells (insC k ii rows.flatten row) elem⟩]], hf2, hf2, hrun, hs2.ext, hs2.wf, hs2.rebase, ndb (by intro q; cases q) nd0, _, _, rfl, rfl, ?_, .inr ⟨h'.n, _, rfl, by rw [hfl], hR⟩⟩
      rw [hyl]; exact roomy_lt hr

theorem evo_delP {α : Type} {R : Rep α} {k : Nat} {elem : TypeId} {EB E : Env} {g : FuncId} (hp : E.prim g = some (shrinkP k EB g)) (hk : R.k = k)
    {h : Heap} {t : List Blk} {q : Option Addr} {xs ys : List α} {i j : Int}
    (hB : ∀ {b n i j : Nat} {cs : List Value}, cs.length = n * k → cs.all cellOk = true → i < j → j ≤ n → n < 9223372036854775808 →
      EvO EB g [.slice (some ⟨b, 0, some 0⟩) n n, .int .i64 (i : Int), .int .i64 (j : Int)] [[⟨b, .cells cs elem⟩]] h (fun v S h1 => v = .slice (some ⟨b, 0, some 0⟩) (i + (n - j)) n ∧ ∃ cs', S = [[⟨b, .cells cs' elem⟩]] ∧ cs'.take ((i + (n - j)) * k) = cs.take (i * k) ++ cs.drop (j * k)))
    (a : AccR R elem h t (.slice q xs.length xs.length) xs) (hy : delL xs i j = some ys) :
    EvO E g [.slice q xs.length xs.length, .int .i64 i, .int .i64 j] [t] h (fun v S h1 => ∃ q' t', v = .slice q' ys.length ys.length ∧ S = [t'] ∧ AccR R elem h1 t' (.slice q' ys.length ys.length) ys) := by
  obtain ⟨⟨i0, ij, jl⟩, hy⟩ := ite_some' hy
  intro h' hf' hs
  obtain ⟨hxl, ⟨g1, _, _⟩ | ⟨b, rows, g1, g2, g3⟩⟩ := a
  · subst g1; simp at jl; omega
  · have hq : q = some ⟨b, 0, some 0⟩ := by simpa using g1
    subst hq g2
    obtain ⟨ii, rfl⟩ : ∃ ii : Nat, i = (ii : Int) := ⟨i.toNat, by omega⟩
    obtain ⟨jj, rfl⟩ : ∃ jj : Nat, j = (jj : Int) := ⟨j.toNat, by omega⟩
    have hij : ii < jj := by omega
    have hjl : jj ≤ xs.length := by omega
    obtain ⟨m, v, h2, segs', h1, hf2, hrun, e1, w1, hs2, nd, rfl, cs', rfl, hcs⟩ := hB (b := b) (i := ii) (j := jj) (by rw [g3.flen, hk]) g3.all hij hjl hxl h' hf' hs
    have hs2 : Has [⟨b, .cells cs' elem⟩] h1 h2 hf2 := hs2
    obtain ⟨hb, hlim⟩ := hs2.blk _ List.mem_cons_self
    dsimp only at hb hlim
    have hyl : ys.length = ii + (xs.length - jj) := by
      rw [hy, List.length_append, List.length_take, List.length_drop]
      show min ii xs.length + (xs.length - jj) = _
      omega
    have e0 : ((ii : Int)).toNat = ii := rfl
    have e2 : ((jj : Int)).toNat = jj := rfl
    rw [e0, e2] at hy
    have hrun2 : run E 1 g [.slice (some ⟨b, 0, some 0⟩) xs.length xs.length, .int .i64 (ii : Int), .int .i64 (jj : Int)] h' = some (.slice (some ⟨b, 0, some 0⟩) ys.length ys.length, h2.set b (.cells (cs'.take (ys.length * k)) elem)) := by
      rw [run_prim hp]
      unfold shrinkP
      rw [runAny_of hrun, Option.bind_some, shrink_slack, hb, hyl]
      dsimp only
      rw [Nat.ble_eq_true_of_le hlim, Nat.ble_eq_true_of_le (show ii + (xs.length - jj) ≤ xs.length by omega)]
      rfl
    have hfl : cs'.take (ys.length * k) = (rows.take ii ++ rows.drop jj).flatten := by
      rw [hyl, hcs, List.flatten_append, flat_take rows ii (fun r hr => by rw [g3.k r hr, hk]), flat_drop rows jj (fun r hr => by rw [g3.k r hr, hk])]
    have hR : Rws R h1 (rows.take ii ++ rows.drop jj) ys := by
      rw [hy]
      exact ((g3.ext e1.kn).take ii).app ((g3.ext e1.kn).drop jj)
    refine ⟨1, _, _, [[⟨b, .cells (cs'.take (ys.length * k)) elem⟩]], h1, hf2, hrun2, e1, w1, hs2.storeH _, ndb (by intro q; cases q) nd0, _, _, rfl, rfl, by omega, .inr ⟨b, _, rfl, by rw [hfl], hR⟩⟩

/-! ### For walks through the library's own texts -/
theorem del_cells {k n i j : Nat} {cs zs : List Value} (hcs : cs.length = n * k) (hij : i < j) (hj : j ≤ n) (hz : zs.length = (n - (i + (n - j))) * k) :
    (splice (splice cs (i * k) (cs.drop (j * k))) (0 + (i + (n - j)) * k) zs).take ((i + (n - j)) * k) = cs.take (i * k) ++ cs.drop (j * k) := by
  have h1 : i * k ≤ j * k := Nat.mul_le_mul_right k (Nat.le_of_lt hij)
  have h2 : j * k ≤ n * k := Nat.mul_le_mul_right k hj
  have h3 : (i + (n - j)) * k = i * k + (n * k - j * k) := by rw [Nat.add_mul, Nat.sub_mul]
  have hd : (cs.drop (j * k)).length = n * k - j * k := by rw [List.length_drop, hcs]
  rw [Nat.zero_add, h3]
  unfold splice
  rw [hd]
  have l1 : (cs.take (i * k)).length = i * k := by rw [List.length_take, hcs]; omega
  have e : (cs.take (i * k) ++ (cs.drop (j * k) ++ cs.drop (i * k + (n * k - j * k)))).take (i * k + (n * k - j * k)) = cs.take (i * k) ++ cs.drop (j * k) := by
    rw [← List.append_assoc, List.take_append_of_le_length (by rw [List.length_append, l1, hd]; omega), List.take_of_length_le (by rw [List.length_append, l1, hd]; omega)]
  rw [e, List.take_append_of_le_length (by rw [List.length_append, l1, hd]; omega), List.take_of_length_le (by rw [List.length_append, l1, hd]; omega)]
theorem insA_cells {k n i : Nat} {cs vr zs : List Value} (hcs : cs.length = n * k) (hv : vr.length = k) (hi : i < n) (hz : zs.length = (n + 1 - i) * k) :
    splice (splice (cs.take (i * k) ++ zs) (0 + i * k) vr) (0 + (i + 1) * k) (cs.drop (i * k)) = insC k i cs vr := by
  have h1 : i * k ≤ n * k := Nat.mul_le_mul_right k (Nat.le_of_lt hi)
  have h2 : (n + 1 - i) * k = n * k + k - i * k := by rw [Nat.sub_mul, Nat.succ_mul]
  have h3 : (i + 1) * k = i * k + k := Nat.succ_mul _ _
  have l1 : (cs.take (i * k)).length = i * k := by rw [List.length_take, hcs]; omega
  have ld : (cs.drop (i * k)).length = n * k - i * k := by rw [List.length_drop, hcs]
  rw [Nat.zero_add, Nat.zero_add, h3]
  have e1 : splice (cs.take (i * k) ++ zs) (i * k) vr = (cs.take (i * k) ++ vr) ++ zs.drop k := by
    unfold splice
    rw [List.take_append_of_le_length (by omega), List.take_of_length_le (by omega), hv, List.drop_append, List.drop_eq_nil_of_le (by omega), List.nil_append, l1, show i * k + k - i * k = k by omega, List.append_assoc]
  rw [e1]
  have l2 : (cs.take (i * k) ++ vr).length = i * k + k := by rw [List.length_append, l1, hv]
  have lz : (zs.drop k).length = n * k - i * k := by rw [List.length_drop, hz, h2]; omega
  have hdn : (cs.take (i * k) ++ vr ++ zs.drop k).drop (i * k + k + (n * k - i * k)) = [] := List.drop_eq_nil_of_le (by rw [List.length_append, l2, lz]; omega)
  unfold splice insC
  rw [List.take_append_of_le_length (by omega), List.take_of_length_le (by omega), ld, hdn, List.append_nil, List.append_assoc]
theorem AccR.cutEnd {α : Type} {R : Rep α} {E : Env} {elem T k : Nat} {h : Heap} {t : List Blk} {q : Option Addr} {xs : List α} (a : AccR R elem h t (.slice q xs.length xs.length) xs) (hu : E.P.underlying T = some (.slice elem)) (hk : sz E.P elem = some k) :
    ∃ v, ∀ (own : List Blk) (h0 h' hf : Heap), Has own h0 h' hf → (∀ e ∈ t, e ∈ own) → sliceV E h' T (.slice q xs.length xs.length) (some (.int .i64 (xs.length : Int))) none none = some v := by
  obtain ⟨hxl, ⟨g1, ⟨p0, g2, hp0⟩, g3⟩ | ⟨b, rows, g1, g2, g3⟩⟩ := a
  · subst g1
    have hq : q = p0 := by simpa using g2
    subst hq
    cases q with
    | none => exact ⟨.slice none 0 0, fun own h0 h' hf hs ht => by unfold sliceV; rw [hu]; dsimp only; simp only [hk]; rfl⟩
    | some a0 =>
      obtain ⟨b, o, sp⟩ := a0
      have : sp = none := hp0 _ rfl
      subst this
      exact ⟨.slice (some ⟨b, o, none⟩) (0 - 0) (0 - 0), fun own h0 h' hf hs ht => sl_any (lo := 0) (hi := 0) hu hk rfl rfl (Nat.le_refl _) rfl rfl⟩
  · have hq : q = some ⟨b, 0, some 0⟩ := by simpa using g1
    subst hq g2
    refine ⟨.slice (some ⟨0, 0, some 2⟩) (xs.length - xs.length) (xs.length - xs.length), fun own h0 h' hf hs ht => ?_⟩
    have hb := (hs.blk _ (ht _ List.mem_cons_self)).1
    refine sl_any (lo := xs.length) (hi := xs.length) hu hk rfl (bound_some (Nat.le_refl _)) (Nat.le_refl _) (slack_own hb) ?_
    unfold sliceAddr
    dsimp only
    rw [Nat.beq_refl]; rfl
section
variable {E : Env} {l : L} {own : List Blk} {h0 : Heap}
theorem r_cap {g : Bool} {xs : Array Operand} {ts : Array TypeId} {t : TypeId} {a v : Value} (ht : ts[0]? = some t) (hx : OPs l g xs.toList [a]) (hc : capV E t a = some v) : RV E l own h0 g (.call ⟨.builtin .cap, xs, ts⟩) v := by
  intro fr h' hf ag hs q
  unfold readV; dsimp only; rw [hx fr ag q]; dsimp only; rw [ht]; exact hc
end

def lpK2 {α β γ : Type} (x : Lp α β) (k : α → Option (Lp γ β)) : Option (Lp γ β) := match x with | .go s => k s | .out r => some (.out r)
def remI (a b : Int) : Option Int := if b = 0 then none else some (a.tmod b)
theorem remI_bin {E : Env} {t : TypeId} {k : IntKind} {a b c : Int} (h : remI a b = some c) : binV E .rem t (.int k a) (.int k b) = some (.int k c) := by
  unfold remI at h
  split at h
  · cases h
  · rename_i q
    cases h
    simp only [binV, intBin, if_neg q, if_true]

/-- A part of a slice that may be empty, with no more behind it. -/
def subL0 {α : Type} (xs : List α) (l h : Int) : Option (List α) := if 0 ≤ l ∧ l ≤ h ∧ h ≤ (xs.length : Int) then some ((xs.drop l.toNat).take (h.toNat - l.toNat)) else none
theorem subL0_ok {α : Type} {R : Rep α} {E : Env} {h : Heap} {t e k c : Nat} {a : Option Addr} {xs ys : List α} {l u : Int} (hs : RL R h a c xs) (hy : subL0 xs l u = some ys) (h0 : xs = [] → c = 0)
    (hu : E.P.underlying t = some (.slice e)) (hz : sz E.P e = some k) (hk : k = R.k) (hT : e = R.T) : ∃ a' c', SubOK R E h t a xs ys c l u a' c' := by
  subst hk hT
  unfold subL0 at hy
  split at hy
  · rename_i q
    cases hy
    obtain ⟨q1, q2, q3⟩ := q
    have hlen : ((xs.drop l.toNat).take (u.toNat - l.toNat)).length = u.toNat - l.toNat := by rw [List.length_take, List.length_drop]; omega
    have hc := hs.2.1
    have key : ∃ a', (∀ hf, Kn h hf → cutA hf R.T R.k c l.toNat u.toNat a = some (.slice a' (u.toNat - l.toNat) (c - l.toNat))) ∧ RL R h a' (c - l.toNat) ((xs.drop l.toNat).take (u.toNat - l.toNat)) := by
      have hget : ∀ i x, ((xs.drop l.toNat).take (u.toNat - l.toNat))[i]? = some x → xs[l.toNat + i]? = some x := by
        intro i x hx
        rw [List.getElem?_take] at hx
        split at hx
        · rw [List.getElem?_drop] at hx; exact hx
        · cases hx
      cases a with
      | none =>
        refine ⟨none, fun hf kn => rfl, ⟨by have := hs.1; rw [hlen]; omega, by rw [hlen]; omega, fun i x hx => ?_, fun a0 e => by cases e⟩⟩
        obtain ⟨a0, _, _, e, _⟩ := hs.2.2.1 _ x (hget i x hx)
        cases e
      | some a0 =>
        have hsl : ∀ hf, Kn h hf → slackOk hf a0 R.T = true := by
          intro hf kn
          unfold slackOk
          split
          · rename_i e
            obtain ⟨cs, hcs⟩ := hs.2.2.2 a0 rfl e
            rw [kn.get _ _ hcs (by intro q; cases q)]; exact Nat.beq_refl _
          · rfl
        obtain ⟨b, o, sp⟩ := a0
        have hble : Nat.ble u.toNat c = true := Nat.ble_eq_true_of_le (by omega)
        -- nothing left, or something
        by_cases hml : c = l.toNat
        · have hn : u.toNat - l.toNat = 0 := by omega
          have h0 : ((xs.drop l.toNat).take (u.toNat - l.toNat)) = [] := by rw [hn]; rfl
          have hb : Nat.beq c l.toNat = true := by rw [hml]; exact Nat.beq_refl _
          have hemp : ∀ a', (∀ a0, a' = some a0 → a0.spot = some 0 → ∃ cs, h.get a0.block = some (.cells cs R.T)) → RL R h a' (c - l.toNat) ((xs.drop l.toNat).take (u.toNat - l.toNat)) := by
            intro a' hz; rw [h0]; exact ⟨by simp, Nat.zero_le _, fun i x hx => by simp at hx, hz⟩
          cases sp with
          | none => exact ⟨some ⟨b, o, none⟩, fun hf kn => by simp only [cutA, hble, hsl hf kn, Bool.and_self, cond_true, cond_false, sliceAddr, hb], hemp _ (fun a0 e1 e2 => by cases e1; cases e2)⟩
          | some s =>
            match s with
            | 0 => exact ⟨some ⟨0, 0, some 2⟩, fun hf kn => by simp only [cutA, hble, hsl hf kn, Bool.and_self, cond_true, cond_false, sliceAddr, hb], hemp _ (fun a0 e1 e2 => by cases e1; cases e2)⟩
            | 1 => exact ⟨some ⟨b, o, some 1⟩, fun hf kn => by simp only [cutA, hble, hsl hf kn, Bool.and_self, cond_true, cond_false, sliceAddr, hb], hemp _ (fun a0 e1 e2 => by cases e1; cases e2)⟩
            | s + 2 => exact ⟨some ⟨b, o, some (s + 2)⟩, fun hf kn => by simp only [cutA, hble, hsl hf kn, Bool.and_self, cond_true, cond_false, sliceAddr, hb], hemp _ (fun a0 e1 e2 => by cases e1; cases e2)⟩
        · have hb : Nat.beq c l.toNat = false := Trie.nb hml
          have mk : ∀ sp' : Option Nat, (∀ j, elemAddr ⟨b, o, sp⟩ ((l.toNat + j) * R.k) = elemAddr ⟨b, o + l.toNat * R.k, sp'⟩ (j * R.k)) → (sp' = some 0 → sp = some 0) →
              RL R h (some ⟨b, o + l.toNat * R.k, sp'⟩) (c - l.toNat) ((xs.drop l.toNat).take (u.toNat - l.toNat)) := by
            intro sp' he hz
            refine ⟨by have := hs.1; rw [hlen]; omega, by rw [hlen]; omega, fun i x hx => ?_, fun a0 e1 e2 => ?_⟩
            · obtain ⟨a0, a', row, h1, h2, h3, h4⟩ := hs.2.2.1 _ x (hget i x hx)
              cases h1
              exact ⟨_, a', row, rfl, by rw [← he]; exact h2, h3, h4⟩
            · cases e1
              exact hs.2.2.2 ⟨b, o, sp⟩ rfl (hz e2)
          have ar : ∀ j, o + (l.toNat + j) * R.k = o + l.toNat * R.k + j * R.k := by intro j; rw [Nat.add_mul]; omega
          cases sp with
          | none => exact ⟨some ⟨b, o + l.toNat * R.k, none⟩, fun hf kn => by simp only [cutA, hble, hsl hf kn, Bool.and_self, cond_true, cond_false, sliceAddr, hb], mk none (fun j => by simp only [elemAddr, ar]) id⟩
          | some s =>
            match s with
            | 0 => exact ⟨some ⟨b, o + l.toNat * R.k, some 0⟩, fun hf kn => by simp only [cutA, hble, hsl hf kn, Bool.and_self, cond_true, cond_false, sliceAddr, hb], mk (some 0) (fun j => by simp only [elemAddr, ar]) id⟩
            | 1 => exact ⟨some ⟨b, o + l.toNat * R.k, some 1⟩, fun hf kn => by simp only [cutA, hble, hsl hf kn, Bool.and_self, cond_true, cond_false, sliceAddr, hb], mk (some 1) (fun j => by simp only [elemAddr, ar]) id⟩
            | s + 2 =>
              -- nothing can lie there
              exfalso
              cases xs with
              | nil => simp only [List.length_nil] at q3; rw [h0 rfl] at hml; omega
              | cons x r => obtain ⟨a0, a', _, e1, e2, _⟩ := hs.2.2.1 0 x rfl; cases e1; cases e2
    obtain ⟨a', h1, h2⟩ := key
    have b1 : ∀ (ik : IntKind) (y : Nat), u ≤ (y : Int) → boundV (some (.int ik u)) xs.length y = some u.toNat := fun ik y hy => by simp only [boundV]; rw [if_pos ⟨by omega, hy⟩]
    have b2 : ∀ (ik : IntKind), boundV (some (.int ik l)) 0 u.toNat = some l.toNat := fun ik => by simp only [boundV]; rw [if_pos ⟨q1, by omega⟩]
    refine ⟨a', c - l.toNat, ⟨fun {hf ik ik'} kn => ?_, fun {hf ik} kn e => ?_, fun {hf ik} kn e => ?_, fun {hf} kn e1 e2 => ?_, h2⟩⟩
    · unfold sliceV
      rw [hu]; dsimp only
      rw [show boundV none c c = some c from rfl]; dsimp only
      rw [b1 ik' c (by omega)]
      simp only [Option.isSome_none, Bool.false_and, cond_false, b2, hz, hlen]
      have h3 := h1 hf kn
      cases a <;> exact h3
    · have eu : u.toNat = xs.length := by omega
      unfold sliceV
      rw [hu]; dsimp only
      rw [show boundV none c c = some c from rfl]; dsimp only
      rw [show boundV none xs.length c = some xs.length from rfl, ← eu]
      simp only [Option.isSome_none, Bool.false_and, cond_false, b2, hz, hlen]
      have h3 := h1 hf kn
      cases a <;> exact h3
    · have el : l.toNat = 0 := by omega
      unfold sliceV
      rw [hu]; dsimp only
      rw [show boundV none c c = some c from rfl]; dsimp only
      rw [b1 ik c (by omega)]
      simp only [Option.isSome_none, Option.isNone_some, Bool.false_and, cond_false, hz, hlen]
      rw [show boundV none 0 u.toNat = some 0 from rfl, ← el]
      have h3 := h1 hf kn
      cases a <;> exact h3
    · have el : l.toNat = 0 := by omega
      have eu : u.toNat = xs.length := by omega
      unfold sliceV
      rw [hu]; dsimp only
      rw [show boundV none c c = some c from rfl]; dsimp only
      rw [show boundV none xs.length c = some xs.length from rfl, ← eu]
      simp only [Option.isSome_none, Bool.false_and, cond_false, hz, hlen]
      rw [show boundV none 0 u.toNat = some 0 from rfl, ← el]
      have h3 := h1 hf kn
      cases a <;> exact h3
  · cases hy

theorem lpgo {α β : Type} {s : α} {k : α → Option β} {r : β} (h : lpK (.go s) k = some r) : k s = some r := h
theorem lpgo2 {α β γ : Type} {s : α} {k : α → Option (Lp γ β)} {r : Lp γ β} (h : lpK2 (.go s) k = some r) : k s = some r := h
end Go.Proofs.Ytcjcbcmapjcfnaa.V
