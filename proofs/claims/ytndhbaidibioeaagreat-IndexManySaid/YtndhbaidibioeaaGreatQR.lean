/- An index on which many work: what holds between their steps.
   No condition: these are laws of plain functions. -/
import Derived.Test.YtndhbaidibioeaaGreatQG
import Derived.Test.YtndhbaidibioeaaGreatQN
import Derived.SizedLaws
namespace Go.Proofs.YtndhbaidibioeaaGreat.V
open Go
set_option linter.unusedVariables false
set_option linter.unusedSimpArgs false
set_option maxRecDepth 100000
structure Ix where
 T : Obst_Tree
 M : Omem_Mem
 S : Ochain_Store
 l : BT
 r : BT
 ks : List Tbst_node
 hs : ByteArray → List TEvent
abbrev Ix.t (s : Ix) : BT := .nd 0 s.l s.r
def IsI (T : Obst_Tree) (d : ID) : Prop := ∃ a y, 1 ≤ a ∧ T.infos[a]? = some y ∧ InfD T.nodes y d
abbrev kmax : Nat := 4611686018427387904
structure XS (s : Ix) (j : Nat) : Prop where
 cx : CX s.T s.M s.l s.r s.ks j
 k0 : ∀ y ∈ s.ks, ∃ d, IsI s.T d ∧ d.kn = y
 v1 : ∀ d, IsI s.T d → d.kn.key.size < kmax ∧ ∃ c : Nat, d.kn.val = (c : Int) ∧ c < s.M.cells.length ∧ Free s.T.nodes c ∧ (d.kn ∉ s.ks → s.M.cells[c]? = some 0)
 v2 : ∀ d e, IsI s.T d → IsI s.T e → d.kn.val = e.kn.val → d.kn.key = e.kn.key
 ch : ∀ y ∈ s.ks, ∀ c : Nat, y.val = (c : Int) → ∃ id : Nat, s.M.cells[c]? = some (id : Int) ∧ Chn s.S.all id (s.hs y.key)
 h0 : ∀ k, (∀ y ∈ s.ks, y.key ≠ k) → s.hs k = []
 sl : s.S.all.length ≤ j
 hl : ∀ k, (s.hs k).length ≤ j
structure StX (s s' : Ix) (own rv : Option Nat) : Prop where
 r : s'.r = s.r
 st : ∃ out, Stab s.T s.M s.l s.r s.ks s'.T s'.M s'.l s'.ks own out ∧ ∀ c, out = some c → ∃ y ∈ s.ks, y.val = (c : Int)
 ni : ∀ d, IsI s'.T d → IsI s.T d ∨ ∃ c : Nat, rv = some c ∧ d.kn.val = (c : Int)
 hm : ∀ k, s'.hs k = s.hs k ∨ ∃ e : TEvent, e.Key = k ∧ revOf (s.hs k) < e.Rev ∧ s'.hs k = e :: s.hs k
 sa : ∃ vs, s'.S.all = s.S.all ++ vs
structure Rv (s : Ix) (c : Nat) (k : ByteArray) : Prop where
 lt : c < s.M.cells.length
 fr : Free s.T.nodes c
 uq : ∀ d, IsI s.T d → d.kn.val = (c : Int) → d.kn.key = k
 z : (∀ y ∈ s.ks, y.val ≠ (c : Int)) → s.M.cells[c]? = some 0
section
variable {s s' : Ix} {j j' : Nat} {own rv : Option Nat} {c : Nat} {k : ByteArray}
theorem IsI.ext {T T' : Obst_Tree} {d : ID} (e : NExt T.nodes T'.nodes) (i : ∀ (a : Nat) (y : Tbst_info), T.infos[a]? = some y → T'.infos[a]? = some y) (h : IsI T d) : IsI T' d := by
 obtain ⟨a, y, h1, h2, h3⟩ := h
 exact ⟨a, y, h1, i _ _ h2, h3.ext e⟩
theorem XS.cell (X : XS s j) {y : Tbst_node} (hy : y ∈ s.ks) : ∃ c id : Nat, y.val = (c : Int) ∧ c < s.M.cells.length ∧ Free s.T.nodes c ∧ s.M.cells[c]? = some (id : Int) ∧ Chn s.S.all id (s.hs y.key) := by
 obtain ⟨d, h1, rfl⟩ := X.k0 y hy
 obtain ⟨_, c, h2, h3, h4, _⟩ := X.v1 d h1
 obtain ⟨id, h5, h6⟩ := X.ch _ hy c h2
 exact ⟨c, id, h2, h3, h4, h5, h6⟩
theorem XS.size (X : XS s j) {y : Tbst_node} (hy : y ∈ s.ks) : y.key.size < kmax := by
 obtain ⟨d, h1, rfl⟩ := X.k0 y hy
 exact (X.v1 d h1).1
theorem XS.uq (X : XS s j) {y z : Tbst_node} (hy : y ∈ s.ks) (hz : z ∈ s.ks) (h : y.key = z.key) : y = z := uniq_key X.cx.inv.kkey.2 hy hz h
theorem XS.inj (X : XS s j) {y z : Tbst_node} (hy : y ∈ s.ks) (hz : z ∈ s.ks) (h : y.val = z.val) : y = z := by
 obtain ⟨d, h1, e1⟩ := X.k0 y hy
 obtain ⟨e, h2, e2⟩ := X.k0 z hz
 have := X.v2 d e h1 h2 (by rw [e1, e2]; exact h)
 rw [e1, e2] at this
 exact X.uq hy hz this
theorem StX.ksub (S : StX s s' own rv) {y : Tbst_node} (h : y ∈ s.ks) : y ∈ s'.ks := by
 obtain ⟨_, S, _⟩ := S.st
 exact S.ksub h
theorem Rv.stab (X : XS s j) (S : StX s s' own rv) (hr : rv = none ∨ rv ≠ some c) (h : Rv s c k) : Rv s' c k := by
 obtain ⟨out, St, ho⟩ := S.st
 obtain ⟨f1, f2, f3⟩ := St.free h.lt h.fr
 refine ⟨f2, f1, fun d hd hv => ?_, fun hz => ?_⟩
 ·
  rcases S.ni d hd with w | ⟨c', w1, w2⟩
  ·
   exact h.uq d w hv
  ·
   rw [hv] at w2
   have : c' = c := by omega
   rw [this] at w1
   rcases hr with q | q
   ·
    rw [q] at w1; cases w1
   ·
    exact absurd w1 q
 ·
  have hz' : ∀ y ∈ s.ks, y.val ≠ (c : Int) := fun y hy => hz y (St.ksub hy)
  rw [f3 (fun q => ?_)]
  ·
   exact h.z hz'
  ·
   obtain ⟨y, hy, hv⟩ := ho c q
   exact hz' y hy hv
theorem isI_new {T T' : Obst_Tree} {M : Omem_Mem} {l r : BT} {ks : List Tbst_node} {kn0 : Tbst_node} (X : CX T M l r ks j) (e : NExt T.nodes T'.nodes) (hN : Ni T T' ks kn0) {d : ID} (h : IsI T' d) : IsI T d ∨ (d.kn = knOf kn0 ∧ ∀ z ∈ ks, z.key ≠ kn0.key) := by
 rcases hN with rfl | ⟨hk, y, d0, hI, hd0, hn, _⟩
 ·
  exact .inl h
 ·
  obtain ⟨a, z, h1, h2, h3⟩ := h
  rw [hI, List.getElem?_append] at h2
  split at h2
  ·
   obtain ⟨d1, q1⟩ := X.inf a z h1 h2
   have q2 : InfD T'.nodes z d1 := Inf.ext q1 e
   obtain rfl := InfD.uniq q2 h3
   exact .inl ⟨a, z, h1, h2, q1⟩
  ·
   rename_i q
   have hb := (List.getElem?_eq_some_iff.mp h2).1
   have : a - T.infos.length = 0 := by simp at hb; omega
   rw [this] at h2
   have h2 : y = z := by simpa using h2
   subst h2
   obtain rfl := InfD.uniq hd0 h3
   exact .inr ⟨hn, hk⟩
theorem tree_ix {T' : Obst_Tree} {M' : Omem_Mem} {l' : BT} {ks' : List Tbst_node} {kn0 : Tbst_node} (X : XS s j) (C' : CX T' M' l' s.r ks' j') (S : Stab s.T s.M s.l s.r s.ks T' M' l' ks' own) (hj : j ≤ j') (hN : Ni s.T T' s.ks kn0) (hv : kn0.val = (c : Int)) (hR : Rv s c kn0.key) (hz : kn0.key.size < kmax) :
 XS ⟨T', M', s.S, l', s.r, ks', s.hs⟩ j' ∧ StX s ⟨T', M', s.S, l', s.r, ks', s.hs⟩ own (some c) := by
 have old : ∀ {d : ID}, IsI s.T d → IsI T' d := fun h => h.ext S.ne S.ie
 have free : ∀ {a : Nat}, a < s.M.cells.length → Free s.T.nodes a → Free T'.nodes a ∧ a < M'.cells.length ∧ M'.cells[a]? = s.M.cells[a]? := fun h hf => by
  obtain ⟨g1, g2, g3⟩ := S.free h hf
  exact ⟨g1, g2, g3 (fun q => by cases q)⟩
 have gr : ∀ y ∈ ks', y ∈ s.ks ∨ (∃ d, IsI s.T d ∧ d.kn = y ∧ ∀ z ∈ s.ks, z.key ≠ y.key) := fun y hy => by
  rcases S.gr with ⟨_, rfl⟩ | ⟨kn, _, _, w1, w2, a, z, d, h1, h2, h3, rfl⟩
  ·
   exact .inl hy
  ·
   rcases (w1 y).mp hy with q | q
   ·
    exact .inl q
   ·
    right
    rw [kn_eq h3] at q
    subst q
    exact ⟨d, ⟨a, z, h1, h2, h3⟩, rfl, w2⟩
 have noval : (∀ z ∈ s.ks, z.key ≠ kn0.key) → ∀ y ∈ s.ks, y.val ≠ (c : Int) := fun hk y hy hv => by
  obtain ⟨d, h1, rfl⟩ := X.k0 y hy
  exact hk _ hy (hR.uq d h1 hv)
 refine ⟨⟨C', fun y hy => ?_, fun d hd => ?_, fun d e hd he hv2 => ?_, fun y hy q hq => ?_, fun k hk => X.h0 k (fun y hy => hk y (S.ksub hy)), Nat.le_trans X.sl hj, fun k => Nat.le_trans (X.hl k) hj⟩,
  ⟨rfl, ⟨none, S, fun c h => by cases h⟩, fun d hd => ?_, fun k => .inl rfl, ⟨[], by simp⟩⟩⟩
 ·
  rcases gr y hy with w | ⟨d, w, e, _⟩
  ·
   obtain ⟨d, h1, h2⟩ := X.k0 y w
   exact ⟨d, old h1, h2⟩
  ·
   exact ⟨d, old w, e⟩
 ·
  rcases isI_new X.cx S.ne hN hd with w | ⟨w, hk⟩
  ·
   obtain ⟨h0, q, h1, h2, h3, h4⟩ := X.v1 d w
   obtain ⟨g1, g2, g3⟩ := free h2 h3
   exact ⟨h0, q, h1, g2, g1, fun hn => by rw [g3]; exact h4 (fun u => hn (S.ksub u))⟩
  ·
   obtain ⟨g1, g2, g3⟩ := free hR.lt hR.fr
   rw [w]
   exact ⟨hz, c, hv, g2, g1, fun _ => by rw [g3]; exact hR.z (noval hk)⟩
 ·
  rcases isI_new X.cx S.ne hN hd with w | ⟨w, hk⟩ <;> rcases isI_new X.cx S.ne hN he with u | ⟨u, hk'⟩
  ·
   exact X.v2 d e w u hv2
  ·
   rw [u] at hv2 ⊢; exact hR.uq d w (hv2.trans hv)
  ·
   rw [w] at hv2 ⊢; exact (hR.uq e u (hv2.symm.trans hv)).symm
  ·
   rw [w, u]
 ·
  rcases gr y hy with w | ⟨d, w, rfl, hk⟩
  ·
   obtain ⟨c2, id, h1, h2, h3, h4, h5⟩ := X.cell w
   have : c2 = q := by rw [hq] at h1; omega
   subst this
   obtain ⟨_, _, g3⟩ := free h2 h3
   exact ⟨id, by rw [g3]; exact h4, h5⟩
  ·
   obtain ⟨_, q2, h1, h2, h3, h4⟩ := X.v1 d w
   have : q2 = q := by rw [hq] at h1; omega
   subst this
   obtain ⟨_, _, g3⟩ := free h2 h3
   refine ⟨0, by rw [g3]; exact h4 (fun u => hk _ u rfl), ?_⟩
   rw [X.h0 d.kn.key hk]
   exact rfl
 ·
  rcases isI_new X.cx S.ne hN hd with w | ⟨w, hk⟩
  ·
   exact .inl w
  ·
   exact .inr ⟨c, rfl, by rw [w]; exact hv⟩
theorem same_ix {M' : Omem_Mem} (X : XS s j) (h : M'.cells = s.M.cells) : XS ⟨s.T, M', s.S, s.l, s.r, s.ks, s.hs⟩ j ∧ StX s ⟨s.T, M', s.S, s.l, s.r, s.ks, s.hs⟩ own rv :=
 ⟨⟨X.cx.cells h, X.k0, by rw [h]; exact X.v1, X.v2, by rw [h]; exact X.ch, X.h0, X.sl, X.hl⟩,
  ⟨rfl, ⟨none, .same X.cx h, fun c h => by cases h⟩, fun d hd => .inl hd, fun k => .inl rfl, ⟨[], by simp⟩⟩⟩
theorem XS.mono (X : XS s j) (h : j ≤ j') : XS s j' := ⟨⟨X.cx.inv.mono h, X.cx.inf, X.cx.tri, X.cx.wrd, X.cx.two, X.cx.flg⟩, X.k0, X.v1, X.v2, X.ch, X.h0, Nat.le_trans X.sl h, fun k => Nat.le_trans (X.hl k) h⟩
theorem more_ix (X : XS s j) (q : Int) : XS ⟨s.T, ⟨s.M.cells ++ [0], q⟩, s.S, s.l, s.r, s.ks, s.hs⟩ (j + 1) ∧ StX s ⟨s.T, ⟨s.M.cells ++ [0], q⟩, s.S, s.l, s.r, s.ks, s.hs⟩ own rv ∧ Rv ⟨s.T, ⟨s.M.cells ++ [0], q⟩, s.S, s.l, s.r, s.ks, s.hs⟩ s.M.cells.length k := by
 obtain ⟨h1, h2⟩ := more_op (own := own) X.cx q
 refine ⟨⟨h1, X.k0, fun d hd => ?_, X.v2, fun y hy c hc => ?_, X.h0, by have := X.sl; show s.S.all.length ≤ _; omega, fun k => by have := X.hl k; show (s.hs k).length ≤ _; omega⟩,
  ⟨rfl, ⟨none, h2, fun c h => by cases h⟩, fun d hd => .inl hd, fun k => .inl rfl, ⟨[], by simp⟩⟩, ⟨by simp, fun i x c hx hc => ?_, fun d hd hv => ?_, fun _ => by simp⟩⟩
 ·
  obtain ⟨g0, c, g1, g2, g3, g4⟩ := X.v1 d hd
  exact ⟨g0, c, g1, by simp; omega, g3, fun hn => nth_app (g4 hn)⟩
 ·
  obtain ⟨id, g1, g2⟩ := X.ch y hy c hc
  exact ⟨id, nth_app g1, g2⟩
 ·
  have := X.cx.inv.dis.room i x c hx hc
  exact .inr this
 ·
  obtain ⟨_, c, g1, g2, _⟩ := X.v1 d hd
  rw [hv] at g1; omega
theorem add_ix {M' : Omem_Mem} (X : XS s j) (h : M'.cells = s.M.cells) (v : Tchain_version) : XS ⟨s.T, M', ⟨s.S.all ++ [v]⟩, s.l, s.r, s.ks, s.hs⟩ (j + 1) ∧ StX s ⟨s.T, M', ⟨s.S.all ++ [v]⟩, s.l, s.r, s.ks, s.hs⟩ own rv := by
 refine ⟨⟨(X.mono (Nat.le_succ j)).cx.cells h, X.k0, by rw [h]; exact X.v1, X.v2, fun y hy c hc => ?_, X.h0, by have := X.sl; simp; omega, fun k => by have := X.hl k; show (s.hs k).length ≤ _; omega⟩,
  ⟨rfl, ⟨none, .same X.cx h, fun c h => by cases h⟩, fun d hd => .inl hd, fun k => .inl rfl, ⟨[v], rfl⟩⟩⟩
 obtain ⟨id, g1, g2⟩ := X.ch y hy c hc
 exact ⟨id, by rw [h]; exact g1, g2.app⟩
def hput (hs : ByteArray → List TEvent) (e : TEvent) : ByteArray → List TEvent := fun k => if k = e.Key then e :: hs k else hs k
theorem put_ix {e : TEvent} {id : Nat} {y : Tbst_node} (X : XS s j) (q : Int) (hy : y ∈ s.ks) (hk : y.key = e.Key) (hv : y.val = (c : Int)) (hc : s.M.cells[c]? = some (id : Int)) (hr : revOf (s.hs e.Key) < e.Rev) :
 XS ⟨s.T, ⟨s.M.cells.set c ((s.S.all.length + 1 : Nat) : Int), q⟩, ⟨s.S.all ++ [⟨e, id⟩]⟩, s.l, s.r, s.ks, hput s.hs e⟩ (j + 1) ∧ StX s ⟨s.T, ⟨s.M.cells.set c ((s.S.all.length + 1 : Nat) : Int), q⟩, ⟨s.S.all ++ [⟨e, id⟩]⟩, s.l, s.r, s.ks, hput s.hs e⟩ own rv := by
 obtain ⟨c2, id2, g1, g2, g3, g4, g5⟩ := X.cell hy
 have : c2 = c := by rw [hv] at g1; omega
 subst this
 rw [hc] at g4
 have : id2 = id := by have := Option.some.inj g4; omega
 subst this
 obtain ⟨h1, h2⟩ := set_cx (own := own) (v := ((s.S.all.length + 1 : Nat) : Int)) (c := q) X.cx g3
 refine ⟨⟨⟨h1.inv.mono (Nat.le_succ j), h1.inf, h1.tri, h1.wrd, h1.two, h1.flg⟩, X.k0, fun d hd => ?_, X.v2, fun z hz c hc' => ?_, fun k hk' => ?_, by have := X.sl; simp; omega, fun k => ?_⟩,
  ⟨rfl, ⟨some c2, h2, fun c h => by cases h; exact ⟨y, hy, hv⟩⟩, fun d hd => .inl hd, fun k => ?_, ⟨_, rfl⟩⟩⟩
 ·
  obtain ⟨f0, c3, f1, f2, f3, f4⟩ := X.v1 d hd
  refine ⟨f0, c3, f1, by simpa using f2, f3, fun hn => ?_⟩
  have : c3 ≠ c2 := by
   rintro rfl
   obtain ⟨d2, e1, e2⟩ := X.k0 y hy
   have hkey := X.v2 d d2 hd e1 (by rw [e2, f1, hv])
   rw [e2] at hkey
   have : d.kn = y := by
    obtain ⟨_, _, _, _, i1⟩ := hd
    obtain ⟨_, _, _, _, i2⟩ := e1
    have a1 := i1.kt; have a2 := i1.k0; have b1 := i2.kt; have b2 := i2.k0
    rw [e2] at b1 b2
    have hval : d.kn.val = y.val := by rw [f1, hv]
    generalize d.kn = u at *
    cases u; cases y
    dsimp only at *
    rw [hkey, hval, a1, a2, b1, b2]
   exact hn (this ▸ hy)
  rw [gs_ne (Ne.symm this)]
  exact f4 hn
 ·
  obtain ⟨i3, f1, f2⟩ := X.ch z hz c hc'
  show ∃ id : Nat, (s.M.cells.set c2 _)[c]? = _ ∧ Chn (s.S.all ++ [_]) id (hput s.hs e z.key)
  unfold hput
  by_cases qk : z.key = e.Key
  ·
   have : z = y := X.uq hz hy (by rw [qk, hk])
   subst this
   have : c = c2 := by rw [hv] at hc'; omega
   subst this
   rw [if_pos qk]
   refine ⟨s.S.all.length + 1, gs_eq g2, s.S.all.length, id2, ⟨e, id2⟩, rfl, by simp, rfl, rfl, ?_⟩
   exact g5.app
  ·
   rw [if_neg qk]
   have : c ≠ c2 := by
    rintro rfl
    exact qk (by rw [X.inj hz hy (hc'.trans hv.symm)]; exact hk)
   exact ⟨i3, by rw [gs_ne (Ne.symm this)]; exact f1, f2.app⟩
 ·
  show hput s.hs e k = []
  unfold hput
  rw [if_neg (fun q => hk' y hy (by rw [hk, q]))]
  exact X.h0 k hk'
 ·
  show (hput s.hs e k).length ≤ _
  have := X.hl k
  unfold hput
  split
  ·
   simp; omega
  ·
   omega
 ·
  show hput s.hs e k = _ ∨ ∃ e', _ ∧ _ ∧ hput s.hs e k = _
  unfold hput
  split
  ·
   rename_i w
   exact .inr ⟨e, w.symm, by rw [w]; exact hr, rfl⟩
  ·
   exact .inl rfl
end
inductive Goal where
 | ens (k : ByteArray)
 | put (e : TEvent)
 | get (k : ByteArray) (rev : Int)
 | wlk (g : TRange) (rev : Int) (L : List ByteArray)
inductive Te : Goal → ByteArray → Cli → Prop
 | ens {k : ByteArray} : Te (.ens k) k .c_end
 | put {e : TEvent} : Te (.put e) e.Key (.c_Index_Put_1_1 e)
abbrev Rc := ByteArray → List TKV → Prop
def Res (s : Ix) (R : Rc) : Goal → Oindex_Work → Prop
 | .ens k, W => ∃ y ∈ s.ks, y.key = k ∧ y.val = W.cell
 | .put e, W => (∃ y ∈ s.ks, y.key = e.Key) ∧ e.Rev ≤ revOf (s.hs e.Key)
 | .get k rev, W => R (k ++ z0) W.found
 | .wlk g rev L, W => ∃ f, R f W.found ∧ ∀ w ∈ L, inR g w = true → lessB w f = true
abbrev kf (k : ByteArray) : Tbst_node := ⟨k, 0, 0, 0⟩
abbrev putC (e : TEvent) (c : Nat) (la : Int) (b : Bool) : Cli := .c_after_1_v1 ⟨c, e.Rev, e.Key, e.Val, e.Del, la, b, false⟩ .c_end
def below (ks : List Tbst_node) (f : ByteArray) : Nat := (ks.filter (fun y => lessB y.key f)).length
inductive WI (s : Ix) (R : Rc) : Goal → Option Nat → Option Nat → Oindex_Work → Option Cli → Nat → Nat → Prop
 | find {G : Goal} {k : ByteArray} {th : Cli} {C : Obst_Call} {x : Clo} {W : Oindex_Work} {m : Nat} (h : FI s.T s.t s.ks (kf k) C (some x) m) (ht : Te G k th) (hz : k.size < kmax) (hb : W.bad = 0) : WI s R G none none W (some (.c_after_1 (call C (some x)) (.c_Work_ensure_1 th k))) (10000000000 + m) (4 * (2 * nfl s.T.nodes s.M.cells s.t) + 8)
 | ins {G : Goal} {k : ByteArray} {th : Cli} {C : Obst_Call} {x : Clo} {W : Oindex_Work} {c : Nat} {held : Option Nat} {ρ Q : Nat} (h : PI s.T s.M s.t s.ks ⟨k, 0, (c : Int), 0⟩ held C (some x)) (hρ : Rk s.T s.M s.t ⟨k, 0, (c : Int), 0⟩ (some x) ρ Q) (hr : Rv s c k) (ht : Te G k th) (hz : k.size < kmax) (hb : W.bad = 0) : WI s R G held (some c) W (some (.c_after_1 (call C (some x)) (.c_Work_ensure_1_1 th))) (ρ + 10) (Q + 2)
 | put1 {e : TEvent} {W : Oindex_Work} {y : Tbst_node} {c : Nat} {la : Int} (hy : y ∈ s.ks) (hk : y.key = e.Key) (hv : y.val = (c : Int)) (hb : W.bad = 0) : WI s R (.put e) none none W (some (putC e c la false)) 5 2
 | put2 {e : TEvent} {W : Oindex_Work} {y : Tbst_node} {c id st : Nat} {h : List TEvent} (hy : y ∈ s.ks) (hk : y.key = e.Key) (hv : y.val = (c : Int)) (hc : Chn s.S.all id h) (hr : revOf h < e.Rev) (hb : W.bad = 0) (h1 : st ≤ 1) (h0 : st = 0 → s.M.cells[c]? = some (id : Int)) : WI s R (.put e) none none W (some (putC e c id true)) (3 + 4 * st) (1 + 2 * st)
 | gfind {k : ByteArray} {rev : Int} {C : Obst_Call} {x : Clo} {W : Oindex_Work} {m : Nat} (h : FI s.T s.t s.ks (kf k) C (some x) m) (hR : R k W.found) (hl : W.found = []) (hb : W.bad = 0) : WI s R (.get k rev) none none W (some (.c_after_1 (call C (some x)) (.c_Index_Get_1_1 rev))) (10 + m) 0
 | glook {k : ByteArray} {rev : Int} {W : Oindex_Work} {y : Tbst_node} {c : Nat} (hy : y ∈ s.ks) (hk : y.key = k) (hv : y.val = (c : Int)) (hR : R k W.found) (hl : W.found = []) (hb : W.bad = 0) : WI s R (.get k rev) none none W (some (.c_Work_look_1 (c : Int) rev .c_end)) 1 0
 | seek {g : TRange} {rev : Int} {L : List ByteArray} {f : ByteArray} {C : Obst_Call} {x : Clo} {W : Oindex_Work} {m : Nat} (h : Sk s.T.nodes s.t s.ks L f C (some x) m) (hL : ∀ w ∈ L, ∃ y ∈ s.ks, y.key = w) (hR : R f W.found) (hf : leB g.From f = true) (hl : W.found.length ≤ below s.ks f) (hb : W.bad = 0) : WI s R (.wlk g rev L) none none W (some (.c_after_1 (call C (some x)) (.c_Work_walk_1 g rev))) (1000000 * (fromK s.ks f).length + m + 2) 0
 | look {g : TRange} {rev : Int} {L : List ByteArray} {f : ByteArray} {W : Oindex_Work} {y : Tbst_node} {c : Nat} {A : Tbst_Answer} (hy : y ∈ s.ks) (hv : y.val = (c : Int)) (hA : A.Key = y.key) (hL : ∀ w ∈ L, ∃ y ∈ s.ks, y.key = w) (hR : R f W.found) (hf : leB g.From f = true) (hl : W.found.length ≤ below s.ks f) (h1 : lessB y.key f = false) (h2 : ∀ w ∈ L, lessB w f = false → leB y.key w = true) (h3 : inR g y.key = true) (hb : W.bad = 0) : WI s R (.wlk g rev L) none none W (some (.c_Work_look_1 (c : Int) rev (.c_Work_walk_1_1 g A rev))) (1000000 * (fromK s.ks (y.key ++ z0)).length + 999999) 0
 | done {G : Goal} {W : Oindex_Work} (h : Res s R G W) (hb : W.bad = 0) : WI s R G none none W none 0 0
theorem nodup_sub {α : Type} {l m : List α} (h : l.Nodup) (hs : ∀ x ∈ l, x ∈ m) : l.length ≤ m.length := by
 induction l generalizing m with
 | nil => simp
 | cons a l ih =>
  rw [List.nodup_cons] at h
  obtain ⟨s, t, rfl⟩ := List.append_of_mem (hs a List.mem_cons_self)
  have := ih (m := s ++ t) h.2 (fun x hx => by
   have := hs x (List.mem_cons_of_mem _ hx)
   rw [List.mem_append, List.mem_cons] at this
   rw [List.mem_append]
   rcases this with w | w | w
   ·
    exact .inl w
   ·
    subst w; exact absurd hx h.1
   ·
    exact .inr w)
  simp only [List.length_append, List.length_cons] at this ⊢
  omega
section
variable {s s' : Ix} {j : Nat} {own rv : Option Nat} {R : Rc} {G : Goal}
theorem XS.nodup (X : XS s j) : s.ks.Nodup := by
 refine X.cx.inv.kkey.2.imp (fun {a b} h e => ?_)
 rw [e, less_irrefl] at h; cases h
theorem below_mono {ks ks' : List Tbst_node} (h : ks.Nodup) (hs : ∀ y ∈ ks, y ∈ ks') (f : ByteArray) : below ks f ≤ below ks' f :=
 nodup_sub (h.filter _) (fun y hy => by
  rw [List.mem_filter] at hy ⊢
  exact ⟨hs y hy.1, hy.2⟩)
theorem Res.stab (S : StX s s' own rv) {W : Oindex_Work} (h : Res s R G W) : Res s' R G W := by
 cases G with
 | ens k =>
  obtain ⟨y, h1, h2⟩ := h
  exact ⟨y, S.ksub h1, h2⟩
 | put e =>
  obtain ⟨⟨y, h1, h2⟩, h3⟩ := h
  refine ⟨⟨y, S.ksub h1, h2⟩, ?_⟩
  rcases S.hm e.Key with w | ⟨e', _, w1, w2⟩
  ·
   rw [w]; exact h3
  ·
   rw [w2]
   show e.Rev ≤ e'.Rev
   omega
 | get k rev => exact h
 | wlk g rev L => exact h
theorem WI.stab (X : XS s j) (S : StX s s' own rv) {held rw_ : Option Nat} {W : Oindex_Work} {o : Option Cli} {ρ Q : Nat} (h1 : own = none ∨ own ≠ held) (h2 : rv = none ∨ rv ≠ rw_) (h : WI s R G held rw_ W o ρ Q) : ∃ ρ' Q', WI s' R G held rw_ W o ρ' Q' := by
 have ks := fun {y : Tbst_node} (h : y ∈ s.ks) => S.ksub h
 have kL : ∀ {L : List ByteArray}, (∀ w ∈ L, ∃ y ∈ s.ks, y.key = w) → ∀ w ∈ L, ∃ y ∈ s'.ks, y.key = w := fun h w hw => by
  obtain ⟨y, g1, g2⟩ := h w hw
  exact ⟨y, ks g1, g2⟩
 have bl : ∀ f, below s.ks f ≤ below s'.ks f := below_mono X.nodup (fun y hy => ks hy)
 have rs : ∀ {c : Nat} {k : ByteArray}, (rv = none ∨ rv ≠ some c) → Rv s c k → Rv s' c k := fun hr h => h.stab X S hr
 have rr : ∀ {W : Oindex_Work}, Res s R G W → Res s' R G W := fun h => h.stab S
 obtain ⟨vs, hvs⟩ := S.sa
 obtain ⟨T', M', S', l', r', ks', hs'⟩ := s'
 have er := S.r
 dsimp only at er hvs bl ks
 subst er
 obtain ⟨out, St, _⟩ := S.st
 dsimp only at St
 have I := X.cx.inv
 cases h with
 | find h ht hz hb =>
  obtain ⟨m', h'⟩ := h.stab I St
  exact ⟨_, _, .find h' ht hz hb⟩
 | ins h hρ hr ht hz hb =>
  have h' := h.stab I St h1
  obtain ⟨ρ', Q', g, _⟩ := rk_of h'
  exact ⟨_, _, .ins h' g (rs h2 hr) ht hz hb⟩
 | put1 hy hk hv hb => exact ⟨_, _, .put1 (ks hy) hk hv hb⟩
 | put2 hy hk hv hc hr hb => exact ⟨_, _, .put2 (st := 1) (ks hy) hk hv (by show Chn S'.all _ _; rw [hvs]; exact hc.app) hr hb (by omega) (fun h => by omega)⟩
 | gfind h hR hl hb =>
  obtain ⟨m', h'⟩ := h.stab I St
  exact ⟨_, _, .gfind h' hR hl hb⟩
 | glook hy hk hv hR hl hb => exact ⟨_, _, .glook (ks hy) hk hv hR hl hb⟩
 | seek h hL hR hf hl hb =>
  obtain ⟨m', h'⟩ := h.stab I St hL
  exact ⟨_, _, .seek h' (kL hL) hR hf (Nat.le_trans hl (bl _)) hb⟩
 | look hy hv hA hL hR hf hl g1 g2 g3 hb => exact ⟨_, _, .look (ks hy) hv hA (kL hL) hR hf (Nat.le_trans hl (bl _)) g1 g2 g3 hb⟩
 | done h hb => exact ⟨_, _, .done (rr h) hb⟩
theorem rk_le {T : Obst_Tree} {M : Omem_Mem} {t : BT} {kn0 : Tbst_node} {o : Option Clo} {ρ Q : Nat} (h : Rk T M t kn0 o ρ Q) : ρ ≤ 100000 * (2 * nfl T.nodes M.cells t + 1) + 2 * t.inn + 20 ∧ Q ≤ 4 * (2 * nfl T.nodes M.cells t + 1) + 3 := by
 cases h with
 | down h hp => have := h.inn; simp only [BT.inn] at this; omega
 | side h hp np hc sw h1 h0 => have := h.inn; simp only [BT.inn] at this; omega
 | g1 hy hd sw h1 h0 => omega
 | g2 hy hd sw h1 h0 => omega
 | g3 hy hd sw h1 h0 => omega
 | ownT => omega
 | ownC => omega
 | helpT hy hd ht h1 h0 => omega
 | helpC hy hd ht h1 h0 => omega
 | done => omega
theorem WI.qb {held rw_ : Option Nat} {W : Oindex_Work} {o : Option Cli} {ρ Q : Nat} (h : WI s R G held rw_ W o ρ Q) : Q ≤ 4 * (2 * nfl s.T.nodes s.M.cells s.t + 1) + 8 := by
 cases h with
 | find h ht hz hb => omega
 | ins h hρ hr ht hz hb => have := (rk_le hρ).2; omega
 | put1 hy hk hv hb => omega
 | put2 hy hk hv hc hr hb h1 h0 => omega
 | gfind h hR hl hb => omega
 | glook hy hk hv hR hl hb => omega
 | seek h hL hR hf hl hb => omega
 | look hy hv hA hL hR hf hl g1 g2 g3 hb => omega
 | done h hb => omega
theorem xks_len (X : XS s j) : s.ks.length ≤ s.t.inn := by
 obtain ⟨s1, e1, _⟩ := X.cx.inv.lv
 have := lvs_len (N := s.T.nodes) s.l
 rw [e1] at this
 simp at this
 show _ ≤ s.l.inn + s.r.inn + 1
 omega
theorem WI.rb (X : XS s j) (hj : j ≤ 20000) (hn : nfl s.T.nodes s.M.cells s.t ≤ 20001) {held rw_ : Option Nat} {W : Oindex_Work} {o : Option Cli} {ρ Q : Nat} (h : WI s R G held rw_ W o ρ Q) : ρ ≤ 1000000000000 := by
 have bi := X.cx.inv.bi
 have hkl := xks_len X
 have bi' : s.t.inn ≤ 1 + j := bi
 have fl : ∀ f, (fromK s.ks f).length ≤ s.ks.length := fun f => List.length_filter_le _ _
 cases h with
 | find h ht hz hb => have := h.le; omega
 | ins h hρ hr ht hz hb => have := (rk_le hρ).1; omega
 | put1 hy hk hv hb => omega
 | put2 hy hk hv hc hr hb h1 h0 => omega
 | gfind h hR hl hb => have := h.le; omega
 | glook hy hk hv hR hl hb => omega
 | @seek _ _ _ f _ _ _ _ h hL hR hf hl hb => have := h.cong; have := fl f; omega
 | @look _ _ _ _ _ y _ _ hy hv hA hL hR hf hl g1 g2 g3 hb => have := fl (y.key ++ z0); omega
 | done h hb => omega
theorem wi_ens (k : ByteArray) (hz : k.size < kmax) : ∃ ρ Q, WI s R (.ens k) none none ⟨0, 0, []⟩ (some (ensC k .c_end)) ρ Q := ⟨_, _,
 .find (C := ⟨false, k, 0, 0⟩) (.down (i := 0) (a := s.l) (b := s.r) .here rfl rfl) .ens hz rfl⟩
theorem wi_put (e : TEvent) (hz : e.Key.size < kmax) : ∃ ρ Q, WI s R (.put e) none none ⟨0, 0, []⟩ (some (ensC e.Key (.c_Index_Put_1_1 e))) ρ Q := ⟨_, _,
 .find (C := ⟨false, e.Key, 0, 0⟩) (.down (i := 0) (a := s.l) (b := s.r) .here rfl rfl) .put hz rfl⟩
theorem wi_walk (g : TRange) (rev : Int) (L : List ByteArray) (hL : ∀ w ∈ L, ∃ y ∈ s.ks, y.key = w) (hR : R g.From []) : ∃ ρ Q, WI s R (.wlk g rev L) none none ⟨0, 0, []⟩ (some (walkC g g.From rev)) ρ Q := ⟨_, _,
 .seek (C := ⟨false, g.From, 0, 0⟩) (.word (a := s.l) (b := s.r) .here rfl rfl) hL hR (leB_refl _) (by simp) rfl⟩
end
def owI : Option Cli → Option Int
 | some (.c_after_1 C _) => ownOf C.next
 | _ => none
def StI (s : Ix) (j : Nat) (R : Rc) (G : Goal) (held rv : Option Nat) (x : Cli) (ρ Q : Nat) (res : Option Rsi) : Prop :=
 ∃ o s' W' held' rv' j' ρ' Q', res = some (o, s'.T, s'.M, s'.S, W') ∧ XS s' j' ∧ StX s s' held rv ∧ WI s' R G held' rv' W' o ρ' Q' ∧ ρ' < ρ ∧ j' + Q' ≤ j + Q ∧
  (held' = none ∨ held' = held ∨ held' = some s.T.infos.length) ∧ (rv' = none ∨ rv' = rv ∨ rv' = some s.M.cells.length) ∧ Cn s.M s'.M ∧
  (∀ a : Nat, Fl s'.T s'.M.cells s'.t a → (Fl s.T s.M.cells s.t a ∧ owI (some x) ≠ some (a : Int)) ∨ owI o = some (a : Int)) ∧ j ≤ j' ∧ j' ≤ j + 1 ∧
  (∀ k, s'.hs k = s.hs k ∨ ∃ e, G = .put e ∧ k = e.Key ∧ s'.hs k = e :: s.hs k)
def Cl (hs : ByteArray → List TEvent) (R : Rc) : Goal → Prop
 | .get k rev => ∀ F, R k F → R (k ++ z0) (F ++ (look (hs k) rev).toList)
 | .wlk g rev L => ∀ f F k, R f F → leB g.From f = true → lessB k f = false → (∀ w ∈ L, lessB w f = false → leB k w = true) → inR g k = true → R (k ++ z0) (F ++ (look (hs k) rev).toList)
 | _ => True
theorem after_some {n : Nat} {T T2 : Obst_Tree} {M M2 : Omem_Mem} {S : Ochain_Store} {W : Oindex_Work} {C C2 : Obst_Call} {x y : Clo} {th : Cli} (h : F_step n T M C x .u = some (some y, T2, M2, C2)) :
 F_istep (n + 1) T M S W (.c_after_1 (call C (some x)) th) .u = some (some (.c_after_1 (call C2 (some y)) th), T2, M2, S, W) := by
 have e : F_istep (n + 1) T M S W (.c_after_1 (call C (some x)) th) .u = F_index_after_1 n (F_istep n) T M S W (call C (some x)) th := rfl
 rw [e]
 unfold F_index_after_1
 rw [step_some h]
 simp only [Option.bind_some]
 rw [if_neg (by simp)]
theorem after_none {n : Nat} {T T2 : Obst_Tree} {M M2 : Omem_Mem} {S : Ochain_Store} {W : Oindex_Work} {C C2 : Obst_Call} {x : Clo} {th : Cli} (h : F_step n T M C x .u = some (none, T2, M2, C2)) :
 F_istep (n + 1) T M S W (.c_after_1 (call C (some x)) th) .u = F_istep n T2 M2 S W (.w146 (call C2 none) th) .u := by
 have e : F_istep (n + 1) T M S W (.c_after_1 (call C (some x)) th) .u = F_index_after_1 n (F_istep n) T M S W (call C (some x)) th := rfl
 rw [e]
 unfold F_index_after_1
 rw [step_some h]
 simp only [Option.bind_some]
 rw [if_pos (by rfl), rbi]
theorem chn_uniq {A : List Tchain_version} : ∀ {id : Nat} {h g : List TEvent}, Chn A id h → Chn A id g → h = g
 | _, [], [], _, _ => rfl
 | _, [], e :: g, h1, ⟨i, _, _, h2, _⟩ => by have h1 : _ = 0 := h1; omega
 | _, e :: h, [], ⟨i, _, _, h2, _⟩, h1 => by have h1 : _ = 0 := h1; omega
 | _, e :: h, e' :: g, ⟨i, m, v, h1, h2, h3, h4, h5⟩, ⟨i', m', v', g1, g2, g3, g4, g5⟩ => by
  have : i' = i := by omega
  subst this
  rw [h2] at g2
  cases g2
  have : m' = m := by rw [h4] at g4; omega
  subst this
  rw [chn_uniq h5 g5, ← h3, ← g3]
section
variable {s : Ix} {j n : Nat} {R : Rc} {G : Goal} {W : Oindex_Work}
theorem inn_le (X : XS s j) : s.t.inn ≤ 1 + j := X.cx.inv.bi
theorem te_run {k : ByteArray} {th : Cli} {y : Tbst_node} {c : Nat} (ht : Te G k th) (hy : y ∈ s.ks) (hk : y.key = k) (hv : y.val = (c : Int)) (hb : W.bad = 0) :
 ∃ o ρ Q, F_istep (n + 1) s.T s.M s.S ⟨c, W.bad, W.found⟩ th .u = some (o, s.T, s.M, s.S, ⟨c, W.bad, W.found⟩) ∧ WI s R G none none ⟨c, W.bad, W.found⟩ o ρ Q ∧ ρ ≤ 5 ∧ Q ≤ 2 ∧ owI o = none := by
 cases ht with
 | ens => exact ⟨none, 0, 0, rfl, .done ⟨y, hy, hk, hv⟩ hb, by omega, by omega, rfl⟩
 | @put e => exact ⟨some (putC e c 0 false), 5, 2, rfl, .put1 hy hk hv hb, by omega, by omega, rfl⟩
theorem fl_same {M' : Omem_Mem} (h : M'.cells = s.M.cells) {x : Cli} {o : Option Cli} (ho : owI (some x) = none) : ∀ a : Nat, Fl s.T M'.cells s.t a → (Fl s.T s.M.cells s.t a ∧ owI (some x) ≠ some (a : Int)) ∨ owI o = some (a : Int) := fun a f => .inl ⟨by rw [h] at f; exact f, by rw [ho]; exact fun q => by cases q⟩
theorem own_fi {kn0 : Tbst_node} {C : Obst_Call} {x : Clo} {m : Nat} {T : Obst_Tree} {t : BT} {ks : List Tbst_node} (h : FI T t ks kn0 C (some x) m) : ownOf (some x) = none := by
 cases h <;> rfl
theorem own_sk {N : List Tbst_node} {t : BT} {ks : List Tbst_node} {L : List ByteArray} {f : ByteArray} {C : Obst_Call} {x : Clo} {m : Nat} (h : Sk N t ks L f C (some x) m) : ownOf (some x) = none := by
 cases h <;> rfl
theorem find_st {k : ByteArray} {th : Cli} {C : Obst_Call} {x : Clo} {m : Nat} (X : XS s j) (hj : j ≤ 20000) (h : FI s.T s.t s.ks (kf k) C (some x) m) (ht : Te G k th) (hz : k.size < kmax) (hb : W.bad = 0) :
 StI s j R G none none (.c_after_1 (call C (some x)) (.c_Work_ensure_1 th k)) (10000000000 + m) (4 * (2 * nfl s.T.nodes s.M.cells s.t) + 8) (F_istep (n + 5) s.T s.M s.S W (.c_after_1 (call C (some x)) (.c_Work_ensure_1 th k)) .u) := by
 have b3 := X.cx.inv.b3
 have hin := inn_le X
 have ho : owI (some (.c_after_1 (call C (some x)) (.c_Work_ensure_1 th k))) = none := own_fi h
 obtain ⟨o, M', C', h1, h2, h3, h4⟩ := fi_step (n := n + 2) X.cx hj rfl h
 obtain ⟨X', S'⟩ := same_ix (own := none) (rv := none) X h2
 rcases h4 with ⟨m', q1, q2, q3⟩ | ⟨rfl, q2, q3⟩
 ·
  obtain ⟨y, rfl⟩ := Option.isSome_iff_exists.mp q3
  rw [after_some h1]
  have w : WI ⟨s.T, M', s.S, s.l, s.r, s.ks, s.hs⟩ R G none none W _ _ _ := .find q2 ht hz hb
  exact ⟨_, ⟨s.T, M', s.S, s.l, s.r, s.ks, s.hs⟩, W, none, none, j, _, _, rfl, X', S', w, by omega, by show j + (4 * (2 * nfl s.T.nodes M'.cells s.t) + 8) ≤ _; rw [h2]; exact Nat.le_refl _, .inl rfl, .inl rfl, h3, fl_same h2 ho, Nat.le_refl _, by omega, fun k => .inl rfl⟩
 ·
  rw [after_none h1]
  have e : F_istep (n + 4) s.T M' s.S W (.w146 (call C' none) (.c_Work_ensure_1 th k)) .u = F_index_Work_ensure_1 (n + 3) (F_istep (n + 3)) s.T M' s.S W (call C' none) th k := rfl
  rw [e]
  unfold F_index_Work_ensure_1
  rw [ans_eq]
  simp only [Option.bind_some]
  rcases q3 with ⟨y, hy, g1, g2, g3⟩ | ⟨g1, g2⟩
  ·
   obtain ⟨c, id, c1, c2, _⟩ := X.cell hy
   rw [if_pos g2, rbi, g3, c1, (wrap_cell (by omega)).1]
   obtain ⟨o, ρ, Q, t1, t2, t3, t4, t5⟩ := te_run (s := ⟨s.T, M', s.S, s.l, s.r, s.ks, s.hs⟩) (n := n + 2) (R := R) (W := W) ht hy g1 c1 hb
   exact ⟨o, ⟨s.T, M', s.S, s.l, s.r, s.ks, s.hs⟩, _, none, none, j, ρ, Q, t1, X', S', t2, by omega, by omega, .inl rfl, .inl rfl, h3, fl_same h2 ho, Nat.le_refl _, by omega, fun k => .inl rfl⟩
  ·
   obtain ⟨x0, r0, rc⟩ := X.cx.inv.root
   rw [if_neg (by rw [g2]; simp), ccell_ok (by rw [h2]; omega)]
   simp only [Option.bind_some]
   rw [if_neg (by simp), beg_ins r0 rc]
   simp only [Option.bind_some]
   unfold F_index_after_
   simp only [Option.bind_some]
   rw [(wrap_cell (by rw [h2]; omega)).2]
   obtain ⟨Y1, Y2, Y3⟩ := more_ix (own := none) (rv := none) (k := k) X M'.count
   rw [h2]
   have hw : ∀ i ∈ s.t.ids, ∀ (x : Tbst_node) (c : Nat), s.T.nodes[i]? = some x → x.cell = (c : Int) → (s.M.cells ++ [0])[c]? = s.M.cells[c]? := fun i hi x c hx hc => by
    have := X.cx.inv.dis.room i x c hx hc
    exact List.getElem?_append_left (by omega)
   have hF : nfl s.T.nodes (s.M.cells ++ [0]) s.t ≤ nfl s.T.nodes s.M.cells s.t := nfl_away hw
   have hinn : s.t.inn = s.l.inn + s.r.inn + 1 := rfl
   have hcx : s.t.inn ≤ 20001 := by omega
   have nle : nfl s.T.nodes (s.M.cells ++ [0]) s.t ≤ 20001 := by
    have := nfl_inn Y1.cx
    have e : nfl s.T.nodes (s.M.cells ++ [0]) s.t ≤ s.t.inn := this
    omega
   have w : WI ⟨s.T, ⟨s.M.cells ++ [0], M'.count⟩, s.S, s.l, s.r, s.ks, s.hs⟩ R G none (some s.M.cells.length) W (some (.c_after_1 (call ⟨false, k, 0, 0⟩ (some (.c_down_1 ⟨0, 0, 0, 0, 0, -1⟩ ⟨k, 0, (s.M.cells.length : Int), 0⟩ (ins2 ⟨k, 0, (s.M.cells.length : Int), 0⟩)))) (.c_Work_ensure_1_1 th))) _ _ :=
    .ins (C := ⟨false, k, 0, 0⟩) (.down onp0 rfl rfl) (.down (i := 0) (a := s.l) (b := s.r) .here rfl) Y3 ht hz hb
   refine ⟨_, ⟨s.T, ⟨s.M.cells ++ [0], M'.count⟩, s.S, s.l, s.r, s.ks, s.hs⟩, W, none, some s.M.cells.length, j + 1, _, _, rfl, Y1, Y2, w, ?_, ?_, .inl rfl, .inr (.inr rfl), h3, fun a f => .inl ⟨f.away hw, by rw [ho]; exact fun q => by cases q⟩, by omega, by omega, fun k => .inl rfl⟩
   ·
    show 100000 * (2 * nfl s.T.nodes (s.M.cells ++ [0]) s.t) + 2 * (s.l.inn + s.r.inn) + 20 + 10 < _
    omega
   ·
    show j + 1 + (4 * (2 * nfl s.T.nodes (s.M.cells ++ [0]) s.t) + 3 + 2) ≤ _
    omega
end
section
variable {s : Ix} {j n : Nat} {R : Rc} {G : Goal} {W : Oindex_Work}
theorem Rv.own {T' : Obst_Tree} {M' : Omem_Mem} {l' : BT} {ks' : List Tbst_node} {own : Option Nat} {c : Nat} {k : ByteArray} (X : XS s j) (S : Stab s.T s.M s.l s.r s.ks T' M' l' ks' own) (hN : Ni s.T T' s.ks ⟨k, 0, (c : Int), 0⟩) (h : Rv s c k) : Rv ⟨T', M', s.S, l', s.r, ks', s.hs⟩ c k := by
 obtain ⟨f1, f2, f3⟩ := S.free h.lt h.fr
 refine ⟨f2, f1, fun d hd hv => ?_, fun hz => ?_⟩
 ·
  rcases isI_new X.cx S.ne hN hd with w | ⟨w, _⟩
  ·
   exact h.uq d w hv
  ·
   rw [w]
 ·
  rw [f3 (fun q => by cases q)]
  exact h.z (fun y hy => hz y (S.ksub hy))
theorem ins_st {k : ByteArray} {th : Cli} {C : Obst_Call} {x : Clo} {c : Nat} {held : Option Nat} {ρ Q : Nat} (X : XS s j) (hj : j ≤ 20000) (h : PI s.T s.M s.t s.ks ⟨k, 0, (c : Int), 0⟩ held C (some x)) (hρ : Rk s.T s.M s.t ⟨k, 0, (c : Int), 0⟩ (some x) ρ Q) (hr : Rv s c k) (ht : Te G k th) (hz : k.size < kmax) (hb : W.bad = 0) :
 StI s j R G held (some c) (.c_after_1 (call C (some x)) (.c_Work_ensure_1_1 th)) (ρ + 10) (Q + 2) (F_istep (n + 5) s.T s.M s.S W (.c_after_1 (call C (some x)) (.c_Work_ensure_1_1 th)) .u) := by
 have b3 := X.cx.inv.b3
 obtain ⟨o, T', M', C', l', ks', held', j', h1, X1, S1, P1, hh, hc, hN, hF, j1, j2, hR⟩ := pi_step (n := n + 2) X.cx hj rfl h
 obtain ⟨ρ', Q', r1, r2, r3⟩ := hR ρ Q hρ
 obtain ⟨Y, St⟩ := tree_ix (c := c) X X1 S1 j1 hN rfl hr hz
 have hr' := hr.own X S1 hN
 cases o with
 | some y =>
  rw [after_some h1]
  exact ⟨_, ⟨T', M', s.S, l', s.r, ks', s.hs⟩, W, held', some c, j', _, _, rfl, Y, St, .ins P1 r1 hr' ht hz hb, by omega, by omega, hh, .inr (.inl rfl), hc, fun a f => hF a f, j1, j2, fun k => .inl rfl⟩
 | none =>
  rw [after_none h1]
  have e : F_istep (n + 4) T' M' s.S W (.w146 (call C' none) (.c_Work_ensure_1_1 th)) .u = F_index_Work_ensure_1_1 (F_istep (n + 3)) T' M' s.S W (call C' none) th := rfl
  rw [e]
  unfold F_index_Work_ensure_1_1
  rw [ans_eq]
  simp only [Option.bind_some]
  cases P1 with
  | @done _ y hy hk hv he =>
   obtain ⟨c2, id, c1, c2', _⟩ := Y.cell hy
   have b3' := X1.inv.b3
   rw [if_neg (by rw [he]; simp), rbi, hv, c1, (wrap_cell (by show c2 < 1000000; have : c2 < M'.cells.length := c2'; omega)).1]
   obtain ⟨o, ρ2, Q2, t1, t2, t3, t4, t5⟩ := te_run (s := ⟨T', M', s.S, l', s.r, ks', s.hs⟩) (n := n + 2) (R := R) (W := W) ht hy hk c1 hb
   exact ⟨o, ⟨T', M', s.S, l', s.r, ks', s.hs⟩, _, none, none, j', ρ2, Q2, t1, Y, St, t2, by omega, by omega, .inl rfl, .inl rfl, hc, (fun a f => by
    rcases hF a f with w | w
    ·
     exact .inl w
    ·
     cases w), j1, j2, fun k => .inl rfl⟩
theorem put_step1d {q a id : Nat} {e : TEvent} {h : List TEvent} {la : Int} {T : Obst_Tree} {M : Omem_Mem} {S : Ochain_Store} (hl : S.all.length < 1000000) (hc : M.cells[a]? = some (id : Int)) (hk : Chn S.all id h) (hr : ¬ revOf h < e.Rev) :
 F_istep (q + 2) T M S W (putC e a la false) .u = some (none, T, tick M, S, W) := by
 have q1 : F_istep (q + 2) T M S W (putC e a la false) .u = F_index_after_1_ (F_istep (q + 1)) T M S W ⟨a, e.Rev, e.Key, e.Val, e.Del, la, false, false⟩ .c_end := rfl
 rw [q1]
 unfold F_index_after_1_ F_chain_Put_Step
 rw [if_neg (by simp), if_pos (by rfl), load_ok hc]
 simp only [Option.bind_some]
 rw [rev_ok hl hk]
 simp only [Option.bind_some]
 rw [show decide (revOf h ≥ e.Rev) = true from decide_eq_true (by omega), if_pos rfl]
 simp only [end_step, Option.bind_some]
theorem put_step2f {q a id : Nat} {e : TEvent} {v : Int} {T : Obst_Tree} {M : Omem_Mem} {S : Ochain_Store} (hl : S.all.length < 1000000) (hc : M.cells[a]? = some v) (hv : v ≠ (id : Int)) :
 F_istep (q + 2) T M S W (putC e a id true) .u = some (some (putC e a id false), T, tick M, ⟨S.all ++ [⟨e, id⟩]⟩, W) := by
 have q1 : F_istep (q + 2) T M S W (putC e a id true) .u = F_index_after_1_ (F_istep (q + 1)) T M S W ⟨a, e.Rev, e.Key, e.Val, e.Del, id, true, false⟩ .c_end := rfl
 rw [q1]
 unfold F_index_after_1_ F_chain_Put_Step
 rw [if_neg (by simp), if_neg (by simp), add_ok hl]
 simp only [Option.bind_some]
 rw [cas_no hc hv]
 simp only [Option.bind_some]
 rw [if_neg (by simp)]
theorem put1_st {e : TEvent} {y : Tbst_node} {c : Nat} {la : Int} (X : XS s j) (hj : j ≤ 20000) (hy : y ∈ s.ks) (hk : y.key = e.Key) (hv : y.val = (c : Int)) (hb : W.bad = 0) :
 StI s j R (.put e) none none (putC e c la false) 5 2 (F_istep (n + 5) s.T s.M s.S W (putC e c la false) .u) := by
 have sl := X.sl
 obtain ⟨id, c1, c2⟩ := X.ch y hy c hv
 rw [hk] at c2
 obtain ⟨X', S'⟩ := same_ix (own := none) (rv := none) (M' := tick s.M) X rfl
 by_cases q : revOf (s.hs e.Key) < e.Rev
 ·
  rw [put_step1 (q := n + 4) (by omega) c1 c2 q]
  exact ⟨_, ⟨s.T, tick s.M, s.S, s.l, s.r, s.ks, s.hs⟩, W, none, none, j, _, _, rfl, X', S', .put2 (st := 0) hy hk hv c2 q hb (by omega) (fun _ => c1), by omega, by omega, .inl rfl, .inl rfl, .inr rfl, fl_same (M' := tick s.M) rfl rfl, Nat.le_refl _, by omega, fun k => .inl rfl⟩
 ·
  rw [put_step1d (q := n + 3) (by omega) c1 c2 q]
  exact ⟨_, ⟨s.T, tick s.M, s.S, s.l, s.r, s.ks, s.hs⟩, W, none, none, j, _, _, rfl, X', S', .done ⟨⟨y, hy, hk⟩, by show e.Rev ≤ revOf (s.hs e.Key); omega⟩ hb, by omega, by omega, .inl rfl, .inl rfl, .inr rfl, fl_same (M' := tick s.M) rfl rfl, Nat.le_refl _, by omega, fun k => .inl rfl⟩
theorem put2_st {e : TEvent} {y : Tbst_node} {c id st : Nat} {h : List TEvent} (X : XS s j) (hj : j ≤ 20000) (hy : y ∈ s.ks) (hk : y.key = e.Key) (hv : y.val = (c : Int)) (hc : Chn s.S.all id h) (hr : revOf h < e.Rev) (hb : W.bad = 0) (h1 : st ≤ 1) (h0 : st = 0 → s.M.cells[c]? = some (id : Int)) :
 StI s j R (.put e) none none (putC e c id true) (3 + 4 * st) (1 + 2 * st) (F_istep (n + 5) s.T s.M s.S W (putC e c id true) .u) := by
 have sl := X.sl
 obtain ⟨i2, c1, c2⟩ := X.ch y hy c hv
 rw [hk] at c2
 by_cases q : i2 = id
 ·
  subst q
  have : h = s.hs e.Key := chn_uniq hc c2
  subst this
  rw [put_step2 (q := n + 3) (by omega) c1]
  obtain ⟨X', S'⟩ := put_ix (own := none) (rv := none) X (IntKind.i64.wrap (s.M.count + 1)) hy hk hv c1 hr
  have hf : ∀ i ∈ s.t.ids, ∀ (x : Tbst_node) (q : Nat), s.T.nodes[i]? = some x → x.cell = (q : Int) → (s.M.cells.set c ((s.S.all.length + 1 : Nat) : Int))[q]? = s.M.cells[q]? := fun i hi x q hx hq => by
   obtain ⟨c', id', g1, g2, g3, _⟩ := X.cell hy
   have : c' = c := by rw [hv] at g1; omega
   subst this
   have := g3 i x q hx hq
   exact gs_ne (by omega)
  refine ⟨_, ⟨s.T, ⟨s.M.cells.set c ((s.S.all.length + 1 : Nat) : Int), IntKind.i64.wrap (s.M.count + 1)⟩, ⟨s.S.all ++ [⟨e, i2⟩]⟩, s.l, s.r, s.ks, hput s.hs e⟩, W, none, none, j + 1, _, _, rfl, X', S', .done ⟨⟨y, hy, hk⟩, ?_⟩ hb, by omega, by omega, .inl rfl, .inl rfl, .inr rfl, fun a f => .inl ⟨f.away hf, fun q => by cases q⟩, by omega, by omega, fun k => ?_⟩
  ·
   show e.Rev ≤ revOf (hput s.hs e e.Key)
   unfold hput
   rw [if_pos rfl]
   exact Int.le_refl _
  ·
   show hput s.hs e k = _ ∨ ∃ e', _ ∧ _ ∧ hput s.hs e k = _
   unfold hput
   split
   ·
    rename_i w
    exact .inr ⟨e, rfl, w, rfl⟩
   ·
    exact .inl rfl
 ·
  rw [put_step2f (q := n + 3) (by omega) c1 (by omega)]
  have : st = 1 := by
   rcases Nat.eq_zero_or_pos st with w | w
   ·
    have := h0 w
    rw [c1] at this
    exact absurd (by have := Option.some.inj this; omega) q
   ·
    omega
  subst this
  obtain ⟨X', S'⟩ := add_ix (own := none) (rv := none) (M' := tick s.M) X rfl ⟨e, id⟩
  exact ⟨_, ⟨s.T, tick s.M, ⟨s.S.all ++ [⟨e, id⟩]⟩, s.l, s.r, s.ks, s.hs⟩, W, none, none, j + 1, _, _, rfl, X', S', .put1 hy hk hv hb, by omega, by omega, .inl rfl, .inl rfl, .inr rfl, fl_same (M' := tick s.M) rfl rfl, by omega, by omega, fun k => .inl rfl⟩
theorem gfind_st {k : ByteArray} {rev : Int} {C : Obst_Call} {x : Clo} {m : Nat} (X : XS s j) (hj : j ≤ 20000) (hc : Cl s.hs R (.get k rev)) (h : FI s.T s.t s.ks (kf k) C (some x) m) (hR : R k W.found) (hl : W.found = []) (hb : W.bad = 0) :
 StI s j R (.get k rev) none none (.c_after_1 (call C (some x)) (.c_Index_Get_1_1 rev)) (10 + m) 0 (F_istep (n + 5) s.T s.M s.S W (.c_after_1 (call C (some x)) (.c_Index_Get_1_1 rev)) .u) := by
 have b3 := X.cx.inv.b3
 have ho : owI (some (.c_after_1 (call C (some x)) (.c_Index_Get_1_1 rev))) = none := own_fi h
 obtain ⟨o, M', C', h1, h2, h3, h4⟩ := fi_step (n := n + 2) X.cx hj rfl h
 obtain ⟨X', S'⟩ := same_ix (own := none) (rv := none) X h2
 rcases h4 with ⟨m', q1, q2, q3⟩ | ⟨rfl, q2, q3⟩
 ·
  obtain ⟨y, rfl⟩ := Option.isSome_iff_exists.mp q3
  rw [after_some h1]
  exact ⟨_, ⟨s.T, M', s.S, s.l, s.r, s.ks, s.hs⟩, W, none, none, j, _, _, rfl, X', S', .gfind q2 hR hl hb, by omega, by omega, .inl rfl, .inl rfl, h3, fl_same h2 ho, Nat.le_refl _, by omega, fun k => .inl rfl⟩
 ·
  rw [after_none h1]
  have e : F_istep (n + 4) s.T M' s.S W (.w146 (call C' none) (.c_Index_Get_1_1 rev)) .u = F_index_Index_Get_1_1 (F_istep (n + 3)) s.T M' s.S W (call C' none) rev := rfl
  rw [e]
  unfold F_index_Index_Get_1_1 F_index_Work_look
  rw [ans_eq]
  simp only [Option.bind_some]
  rcases q3 with ⟨y, hy, g1, g2, g3⟩ | ⟨g1, g2⟩
  ·
   obtain ⟨c, id, c1, c2, _⟩ := X.cell hy
   rw [if_neg (by rw [g2]; simp), g3, c1]
   exact ⟨_, ⟨s.T, M', s.S, s.l, s.r, s.ks, s.hs⟩, W, none, none, j, _, _, rfl, X', S', .glook hy g1 c1 hR hl hb, by omega, by omega, .inl rfl, .inl rfl, h3, fl_same h2 ho, Nat.le_refl _, by omega, fun k => .inl rfl⟩
  ·
   rw [if_pos (by rw [g2]; rfl)]
   have hn : s.hs k = [] := X.h0 k g1
   have r := hc W.found hR
   rw [hn] at r
   have r : R (k ++ z0) W.found := by simpa [look] using r
   exact ⟨_, ⟨s.T, M', s.S, s.l, s.r, s.ks, s.hs⟩, W, none, none, j, _, _, rfl, X', S', .done r hb, by omega, by omega, .inl rfl, .inl rfl, h3, fl_same h2 ho, Nat.le_refl _, by omega, fun k => .inl rfl⟩
theorem glook_st {k : ByteArray} {rev : Int} {y : Tbst_node} {c : Nat} (X : XS s j) (hj : j ≤ 20000) (hc : Cl s.hs R (.get k rev)) (hy : y ∈ s.ks) (hk : y.key = k) (hv : y.val = (c : Int)) (hR : R k W.found) (hl : W.found = []) (hb : W.bad = 0) :
 StI s j R (.get k rev) none none (.c_Work_look_1 (c : Int) rev .c_end) 1 0 (F_istep (n + 30000) s.T s.M s.S W (.c_Work_look_1 (c : Int) rev .c_end) .u) := by
 have sl := X.sl
 have b3 := X.cx.inv.b3
 have hl2 := X.hl y.key
 obtain ⟨c', id, c1, c2, c3, c4, c5⟩ := X.cell hy
 have : c' = c := by rw [hv] at c1; omega
 subst this
 rw [show n + 30000 = (n + 29999) + 1 from rfl, look_step (q := n + 29999) (h := s.hs y.key) (by omega) (by omega) c4 c5 (by omega) (by rw [hl]; simp)]
 obtain ⟨X', S'⟩ := same_ix (own := none) (rv := none) (M' := tick s.M) X rfl
 have r := hc W.found hR
 rw [← hk] at r
 exact ⟨_, ⟨s.T, tick s.M, s.S, s.l, s.r, s.ks, s.hs⟩, ⟨W.cell, W.bad, W.found ++ (look (s.hs y.key) rev).toList⟩, none, none, j, _, _, rfl, X', S', .done (by rw [← hk]; exact r) hb, by omega, by omega, .inl rfl, .inl rfl, .inr rfl, fl_same (M' := tick s.M) rfl rfl, Nat.le_refl _, by omega, fun k => .inl rfl⟩
theorem le_of_not {x y : ByteArray} (h : lessB y x = false) : leB x y = true := by rw [leB_not, h]; rfl
theorem below_lt {ks : List Tbst_node} (hn : ks.Nodup) {y : Tbst_node} (hy : y ∈ ks) {f : ByteArray} (h : lessB y.key f = false) : below ks f + 1 ≤ below ks (y.key ++ z0) := by
 have e : (y :: ks.filter (fun z => lessB z.key f)).length = below ks f + 1 := by simp [below]
 rw [← e]
 refine nodup_sub ?_ (fun z hz => ?_)
 ·
  rw [List.nodup_cons]
  refine ⟨fun q => ?_, hn.filter _⟩
  have := (List.mem_filter.mp q).2
  rw [h] at this; cases this
 ·
  rw [List.mem_filter, less_zero]
  rcases List.mem_cons.mp hz with q | q
  ·
   subst q; exact ⟨hy, leB_refl _⟩
  ·
   obtain ⟨q1, q2⟩ := List.mem_filter.mp q
   have := less_le q2 (le_of_not h)
   exact ⟨q1, by unfold leB; rw [this]; rfl⟩
theorem from_lt {ks : List Tbst_node} (hn : ks.Nodup) {y : Tbst_node} (hy : y ∈ ks) {f : ByteArray} (h : lessB y.key f = false) : (fromK ks (y.key ++ z0)).length + 1 ≤ (fromK ks f).length := by
 have hz : ∀ z : Tbst_node, (!lessB z.key (y.key ++ z0)) = lessB y.key z.key := fun z => by rw [less_zero, leB_not, Bool.not_not]
 have e : (y :: fromK ks (y.key ++ z0)).length = (fromK ks (y.key ++ z0)).length + 1 := by simp
 rw [← e]
 refine nodup_sub ?_ (fun z hz' => ?_)
 ·
  rw [List.nodup_cons]
  refine ⟨fun q => ?_, hn.filter _⟩
  have := (List.mem_filter.mp q).2
  rw [hz, less_irrefl] at this; cases this
 ·
  unfold fromK
  rw [List.mem_filter]
  rcases List.mem_cons.mp hz' with q | q
  ·
   subst q; exact ⟨hy, by rw [h]; rfl⟩
  ·
   obtain ⟨q1, q2⟩ := List.mem_filter.mp q
   rw [hz] at q2
   refine ⟨q1, ?_⟩
   cases e : lessB z.key f with
   | false => rfl
   | true =>
    have := less_trans q2 e
    rw [h] at this; cases this
theorem le_step {x f y : ByteArray} (h1 : leB x f = true) (h2 : lessB y f = false) : leB x (y ++ z0) = true := by
 have h3 := leB_trans h1 (le_of_not h2)
 rw [leB_not]
 cases e : lessB (y ++ z0) x with
 | false => rfl
 | true =>
  have h4 := less_le e h3
  have h5 : lessB y (y ++ z0) = true := by rw [less_zero]; exact leB_refl _
  rw [less_asymm h5] at h4; cases h4
theorem seek_st {g : TRange} {rev : Int} {L : List ByteArray} {f : ByteArray} {C : Obst_Call} {x : Clo} {m : Nat} (X : XS s j) (hj : j ≤ 20000) (h : Sk s.T.nodes s.t s.ks L f C (some x) m) (hL : ∀ w ∈ L, ∃ y ∈ s.ks, y.key = w) (hR : R f W.found) (hf : leB g.From f = true) (hl : W.found.length ≤ below s.ks f) (hb : W.bad = 0) :
 StI s j R (.wlk g rev L) none none (.c_after_1 (call C (some x)) (.c_Work_walk_1 g rev)) (1000000 * (fromK s.ks f).length + m + 2) 0 (F_istep (n + 5) s.T s.M s.S W (.c_after_1 (call C (some x)) (.c_Work_walk_1 g rev)) .u) := by
 have ho : owI (some (.c_after_1 (call C (some x)) (.c_Work_walk_1 g rev))) = none := own_sk h
 obtain ⟨o, M', C', m', h1, h2, hcn, h3, h4⟩ := sk_step (n := n + 2) X.cx.inv hj hL h
 obtain ⟨X', S'⟩ := same_ix (own := none) (rv := none) X h2
 cases o with
 | some y =>
  rw [after_some h1]
  exact ⟨_, ⟨s.T, M', s.S, s.l, s.r, s.ks, s.hs⟩, W, none, none, j, _, _, rfl, X', S', .seek h3 hL hR hf hl hb, by show 1000000 * (fromK s.ks f).length + m' + 2 < _; omega, by omega, .inl rfl, .inl rfl, .inr hcn, fl_same h2 ho, Nat.le_refl _, by omega, fun k => .inl rfl⟩
 | none =>
  rw [after_none h1]
  have e : F_istep (n + 4) s.T M' s.S W (.w146 (call C' none) (.c_Work_walk_1 g rev)) .u = F_index_Work_walk_1 (F_istep (n + 3)) s.T M' s.S W (call C' none) g rev := rfl
  rw [e]
  unfold F_index_Work_walk_1
  rw [ans_eq]
  simp only [Option.bind_some]
  cases h3 with
  | none ho' hn =>
   rw [ho']
   exact ⟨_, ⟨s.T, M', s.S, s.l, s.r, s.ks, s.hs⟩, W, none, none, j, _, _, rfl, X', S', .done ⟨f, hR, fun w hw _ => hn w hw⟩ hb, by omega, by omega, .inl rfl, .inl rfl, .inr hcn, fl_same h2 ho, Nat.le_refl _, by omega, fun k => .inl rfl⟩
  | @found y hy ho' hk hv k1 k2 =>
   rw [ho', hk, hv, keyIn_eq]
   simp only [Bool.not_true, Bool.false_eq_true, if_false, Option.bind_some]
   cases hi : inR g y.key with
   | false =>
    rw [if_pos (by simp)]
    refine ⟨_, ⟨s.T, M', s.S, s.l, s.r, s.ks, s.hs⟩, W, none, none, j, _, _, rfl, X', S', .done ⟨f, hR, fun w hw hwi => ?_⟩ hb, by omega, by omega, .inl rfl, .inl rfl, .inr hcn, fl_same h2 ho, Nat.le_refl _, by omega, fun k => .inl rfl⟩
    cases q : lessB w f with
    | true => rfl
    | false =>
     exfalso
     have q2 := k2 w hw q
     have q3 : leB g.From y.key = true := leB_trans hf (le_of_not k1)
     unfold inR at hi hwi
     rw [q3] at hi
     rw [Bool.and_eq_true, Bool.or_eq_true] at hwi
     rcases hwi.2 with u | u
     ·
      rw [u] at hi; cases hi
     ·
      have : lessB y.key g.To = true := by
       cases e : lessB y.key g.To with
       | true => rfl
       | false =>
        have := less_le u (le_of_not e)
        rw [leB_not, this] at q2; cases q2
      rw [this] at hi; simp at hi
   | true =>
    rw [if_neg (by simp)]
    unfold F_index_Work_look
    simp only [Option.bind_some]
    obtain ⟨c, id, c1, c2, _⟩ := X.cell hy
    have := from_lt X.nodup hy k1
    rw [c1]
    exact ⟨_, ⟨s.T, M', s.S, s.l, s.r, s.ks, s.hs⟩, W, none, none, j, _, _, rfl, X', S', .look hy c1 rfl hL hR hf hl k1 k2 hi hb, by show 1000000 * (fromK s.ks _).length + 999999 < _; omega, by omega, .inl rfl, .inl rfl, .inr hcn, fl_same h2 ho, Nat.le_refl _, by omega, fun k => .inl rfl⟩
theorem look_st {g : TRange} {rev : Int} {L : List ByteArray} {f : ByteArray} {y : Tbst_node} {c : Nat} {A : Tbst_Answer} (X : XS s j) (hj : j ≤ 20000) (hc : Cl s.hs R (.wlk g rev L)) (hy : y ∈ s.ks) (hv : y.val = (c : Int)) (hA : A.Key = y.key) (hL : ∀ w ∈ L, ∃ y ∈ s.ks, y.key = w) (hR : R f W.found) (hf : leB g.From f = true) (hl : W.found.length ≤ below s.ks f) (h1 : lessB y.key f = false) (h2 : ∀ w ∈ L, lessB w f = false → leB y.key w = true) (h3 : inR g y.key = true) (hb : W.bad = 0) :
 StI s j R (.wlk g rev L) none none (.c_Work_look_1 (c : Int) rev (.c_Work_walk_1_1 g A rev)) (1000000 * (fromK s.ks (y.key ++ z0)).length + 999999) 0 (F_istep (n + 30000) s.T s.M s.S W (.c_Work_look_1 (c : Int) rev (.c_Work_walk_1_1 g A rev)) .u) := by
 have sl := X.sl
 have b3 := X.cx.inv.b3
 have hl2 := X.hl y.key
 have hin := inn_le X
 have hkl := xks_len X
 have hbl : below s.ks f ≤ s.ks.length := List.length_filter_le _ _
 obtain ⟨c', id, c1, c2, c3, c4, c5⟩ := X.cell hy
 have : c' = c := by rw [hv] at c1; omega
 subst this
 rw [show n + 30000 = (n + 29999) + 1 from rfl, look_step (q := n + 29999) (h := s.hs y.key) (by omega) (by omega) c4 c5 (by omega) (by omega)]
 obtain ⟨X', S'⟩ := same_ix (own := none) (rv := none) (M' := tick s.M) X rfl
 have r := hc f W.found y.key hR hf h1 h2 h3
 have q1 : ∀ W : Oindex_Work, F_istep (n + 29999) s.T (tick s.M) s.S W (.c_Work_walk_1_1 g A rev) .u = F_index_Work_walk_1_1 (n + 29998) (F_istep (n + 29998)) s.T (tick s.M) s.S W g A rev := fun W => rfl
 rw [q1]
 unfold F_index_Work_walk_1_1
 rw [hA, one_to (X.size hy)]
 simp only [Option.bind_some]
 rw [rbi, beg_walk X'.cx.inv]
 have hlk : (look (s.hs y.key) rev).toList.length ≤ 1 := by cases look (s.hs y.key) rev <;> simp
 have hbl2 := below_lt X.nodup hy h1
 have hinn : s.t.inn = s.l.inn + s.r.inn + 1 := rfl
 refine ⟨_, ⟨s.T, tick s.M, s.S, s.l, s.r, s.ks, s.hs⟩, ⟨W.cell, W.bad, W.found ++ (look (s.hs y.key) rev).toList⟩, none, none, j, _, _, rfl, X', S', .seek (C := ⟨false, y.key ++ z0, 0, 0⟩) (.word (i := 0) (a := s.l) (b := s.r) .here rfl rfl) hL r (le_step hf h1) ?_ hb, ?_, by omega, .inl rfl, .inl rfl, .inr rfl, fl_same (M' := tick s.M) rfl rfl, Nat.le_refl _, by omega, fun k => .inl rfl⟩
 ·
  show (W.found ++ _).length ≤ below s.ks _
  rw [List.length_append]; omega
 ·
  show 1000000 * (fromK s.ks (y.key ++ z0)).length + (2 * (s.l.inn + s.r.inn) + s.t.inn + 4) + 2 < _
  omega
theorem wi_step {held rv : Option Nat} {x : Cli} {ρ Q : Nat} (X : XS s j) (hj : j ≤ 20000) (hc : Cl s.hs R G) (h : WI s R G held rv W (some x) ρ Q) : StI s j R G held rv x ρ Q (F_istep (n + 30000) s.T s.M s.S W x .u) := by
 generalize ho : (some x : Option Cli) = ox at h
 cases h with
 | find h ht hz hb => cases ho; exact find_st (n := n + 29995) X hj h ht hz hb
 | ins h hρ hr ht hz hb => cases ho; exact ins_st (n := n + 29995) X hj h hρ hr ht hz hb
 | put1 hy hk hv hb => cases ho; exact put1_st (n := n + 29995) X hj hy hk hv hb
 | put2 hy hk hv hq hr hb h1 h0 => cases ho; exact put2_st (n := n + 29995) X hj hy hk hv hq hr hb h1 h0
 | gfind h hR hl hb => cases ho; exact gfind_st (n := n + 29995) X hj hc h hR hl hb
 | glook hy hk hv hR hl hb => cases ho; exact glook_st X hj hc hy hk hv hR hl hb
 | seek h hL hR hf hl hb => cases ho; exact seek_st (n := n + 29995) X hj h hL hR hf hl hb
 | look hy hv hA hL hR hf hl h1 h2 h3 hb => cases ho; exact look_st X hj hc hy hv hA hL hR hf hl h1 h2 h3 hb
 | done h hb => cases ho
end
def Hm (G : Goal) (hs hs' : ByteArray → List TEvent) : Prop := ∀ k, hs' k = hs k ∨ ∃ e, G = .put e ∧ k = e.Key ∧ revOf (hs k) < e.Rev ∧ hs' k = e :: hs k
theorem Hm.refl {G : Goal} {hs : ByteArray → List TEvent} : Hm G hs hs := fun k => .inl rfl
theorem Hm.trans {G : Goal} {a b c : ByteArray → List TEvent} (h : Hm G a b) (g : Hm G b c) : Hm G a c := fun k => by
 rcases h k with w | ⟨e, e1, e2, e3, e4⟩
 ·
  rcases g k with u | ⟨e, e1, e2, e3, e4⟩
  ·
   exact .inl (u.trans w)
  ·
   exact .inr ⟨e, e1, e2, by rw [← w]; exact e3, by rw [e4, w]⟩
 ·
  rcases g k with u | ⟨f, f1, f2, f3, f4⟩
  ·
   exact .inr ⟨e, e1, e2, e3, u.trans e4⟩
  ·
   exfalso
   rw [e1] at f1
   cases f1
   rw [e4] at f3
   exact absurd f3 (Int.lt_irrefl _)
theorem Cl.hm {G : Goal} {R : Rc} {hs hs' : ByteArray → List TEvent} (h : Cl hs R G) (m : Hm G hs hs') : Cl hs' R G := by
 have e : (∀ e, G ≠ .put e) → hs' = hs := fun n => funext fun k => by
  rcases m k with w | ⟨e, e1, _⟩
  ·
   exact w
  ·
   exact absurd e1 (n e)
 cases G with
 | ens k => trivial
 | put e => trivial
 | get k rev => rw [e (fun _ h => by cases h)]; exact h
 | wlk g rev L => rw [e (fun _ h => by cases h)]; exact h
def Stays (N0 C0 : Nat) (h0 v0 : Option Nat) (Φ : Ix → Prop) : Prop :=
 ∀ (s s' : Ix) (j : Nat) (own rv : Option Nat), XS s j → StX s s' own rv → (own = none ∨ own = h0 ∨ ∃ a, own = some a ∧ N0 ≤ a) → (rv = none ∨ rv = v0 ∨ ∃ a, rv = some a ∧ C0 ≤ a) → Φ s → Φ s'
theorem ilen_x {s s' : Ix} {own rv : Option Nat} (S : StX s s' own rv) : s.T.infos.length ≤ s'.T.infos.length := by
 obtain ⟨out, St, _⟩ := S.st
 by_cases q : s.T.infos.length = 0
 ·
  omega
 ·
  have := ilen St (a := s.T.infos.length - 1) (by omega)
  omega
theorem clen_x {s s' : Ix} {own rv : Option Nat} (S : StX s s' own rv) : s.M.cells.length ≤ s'.M.cells.length := by
 obtain ⟨out, St, _⟩ := S.st
 exact St.cl
theorem wi_run {n : Nat} {R : Rc} {G : Goal} {N0 C0 : Nat} {h0 v0 : Option Nat} {Φ : Ix → Prop} (hΦ : Stays N0 C0 h0 v0 Φ) (os : List Int) : ∀ (ρ Q : Nat) (s : Ix) (j : Nat) (W : Oindex_Work) (o : Option Cli) (held rv : Option Nat), XS s j → Cl s.hs R G → WI s R G held rv W o ρ Q → j + Q ≤ 20000 →
 (held = none ∨ held = h0 ∨ ∃ a, held = some a ∧ N0 ≤ a) → (rv = none ∨ rv = v0 ∨ ∃ a, rv = some a ∧ C0 ≤ a) → N0 ≤ s.T.infos.length → C0 ≤ s.M.cells.length → (∀ a : Nat, Fl s.T s.M.cells s.t a → owI o = some (a : Int) ∨ (a : Int) ∈ os) → Φ s →
 ∃ k s' W' j', k ≤ ρ ∧ Ri (n + 30000) k s.T s.M s.S W o (s'.T, s'.M, s'.S, W', none) ∧ XS s' j' ∧ j ≤ j' ∧ j' ≤ j + Q ∧ WI s' R G none none W' none 0 0 ∧ Φ s' ∧ (∀ a : Nat, Fl s'.T s'.M.cells s'.t a → (a : Int) ∈ os) ∧ Hm G s.hs s'.hs ∧ N0 ≤ s'.T.infos.length ∧ C0 ≤ s'.M.cells.length ∧ (0 ≤ s.M.count → s.M.count + ρ ≤ 4611686018427387904 → 0 ≤ s'.M.count ∧ s'.M.count ≤ s.M.count + ρ) := by
 intro ρ
 induction ρ using Nat.strongRecOn with
 | ind ρ ih =>
  intro Q s j W o held rv X hc h hj hh hv hN hC hf hφ
  cases o with
  | none =>
   refine ⟨0, s, W, j, by omega, .refl, X, by omega, by omega, ?_, hφ, fun a f => ?_, .refl, hN, hC, fun h0 _ => ⟨h0, by omega⟩⟩
   ·
    cases h with
    | done h hb => exact .done h hb
   ·
    rcases hf a f with w | w
    ·
     cases w
    ·
     exact w
  | some x =>
   obtain ⟨o', s', W', held', rv', j', ρ', Q', e, X', S', h', lt, le, hh', hv', hcn, hF, j1, j2, hhs⟩ := wi_step (n := n) X (by omega) hc h
   have hm : Hm G s.hs s'.hs := fun k => by
    rcases hhs k with w | ⟨e, e1, e2, e3⟩
    ·
     exact .inl w
    ·
     rcases S'.hm k with u | ⟨f, f1, f2, f3⟩
     ·
      exact .inl u
     ·
      rw [e3] at f3
      have : e = f := (List.cons.inj f3).1
      subst this
      exact .inr ⟨e, e1, e2, f2, e3⟩
   have hN' := ilen_x S'
   have hC' := clen_x S'
   obtain ⟨k, s2, W2, j3, g1, g2, g3, g4, g5, g6, g7, g8, g9, g10, g11, g12⟩ := ih ρ' lt Q' s' j' W' o' held' rv' X' (hc.hm hm) h' (by omega)
    (
     by
     rcases hh' with w | w | w
     ·
      exact .inl w
     ·
      rw [w]; exact hh
     ·
      exact .inr (.inr ⟨_, w, hN⟩))
    (
     by
     rcases hv' with w | w | w
     ·
      exact .inl w
     ·
      rw [w]; exact hv
     ·
      exact .inr (.inr ⟨_, w, hC⟩))
    (by omega) (by omega)
    (
     fun a f => by
     rcases hF a f with ⟨w1, w2⟩ | w
     ·
      rcases hf a w1 with u | u
      ·
       exact absurd u w2
      ·
       exact .inr u
     ·
      exact .inl w)
    (hΦ s s' j held rv X S' hh hv hφ)
   refine ⟨k + 1, s2, W2, j3, by omega, .step e g2, g3, by omega, by omega, g6, g7, g8, hm.trans g9, g10, g11, fun h0 hb => ?_⟩
   have hc1 : 0 ≤ s'.M.count ∧ s'.M.count ≤ s.M.count + 1 := by
    rcases hcn with w | w
    ·
     omega
    ·
     rw [w, wrap_id (by omega) (by omega)]; omega
   have := g12 hc1.1 (by omega)
   omega
structure Wk where
 G : Goal
 R : Rc
 held : Option Nat
 rv : Option Nat
 W : Oindex_Work
 o : Option Cli
abbrev Wk.is (w : Wk) (s : Ix) : Prop := ∃ ρ Q, WI s w.R w.G w.held w.rv w.W w.o ρ Q
abbrev Wk.x (w : Wk) : Oindex_Work_2 := ⟨w.o, w.W.cell, w.W.bad, w.W.found⟩
def Ap (a b : Wk) : Prop := (a.held = none ∨ a.held ≠ b.held) ∧ (a.rv = none ∨ a.rv ≠ b.rv)
theorem Ap.symm {a b : Wk} (h : Ap a b) : Ap b a := by
 obtain ⟨h1, h2⟩ := h
 refine ⟨?_, ?_⟩
 ·
  rcases h1 with w | w
  ·
   rw [w]
   cases b.held with
   | none => exact .inl rfl
   | some q => exact .inr (fun e => by cases e)
  ·
   exact .inr (Ne.symm w)
 ·
  rcases h2 with w | w
  ·
   rw [w]
   cases b.rv with
   | none => exact .inl rfl
   | some q => exact .inr (fun e => by cases e)
  ·
   exact .inr (Ne.symm w)
structure Crew (s : Ix) (ws : List Wk) : Prop where
 ok : ∀ w ∈ ws, w.is s
 ap : ws.Pairwise Ap
 fl : ∀ a : Nat, Fl s.T s.M.cells s.t a → ∃ w ∈ ws, owI w.o = some (a : Int)
section
variable {s s' : Ix} {j : Nat} {ws B : List Wk} {w : Wk}
theorem WI.held_lt {R : Rc} {G : Goal} {held rv : Option Nat} {W : Oindex_Work} {o : Option Cli} {ρ Q : Nat} (h : WI s R G held rv W o ρ Q) : (∀ a, held = some a → a < s.T.infos.length) ∧ ∀ c, rv = some c → c < s.M.cells.length := by
 cases h with
 | ins h hρ hr ht hz hb =>
  refine ⟨fun a e => ?_, fun c e => by cases e; exact hr.lt⟩
  subst e
  have key : ∀ {d : ID}, New s.T s.M s.t a d → a < s.T.infos.length := fun n => by
   obtain ⟨y, h1, _⟩ := n.at_
   exact (List.getElem?_eq_some_iff.mp h1).1
  cases h with
  | g1 n => exact key n
  | g2 n => exact key n
  | g3 n => exact key n
 | _ => exact ⟨fun a e => (by cases e), fun c e => (by cases e)⟩
theorem Crew.perm (K : Crew s ws) (h : ws.Perm B) : Crew s B :=
 ⟨fun w hw => K.ok w (h.mem_iff.mpr hw), (h.pairwise_iff (fun h => Ap.symm h)).mp K.ap, fun a f => by
  obtain ⟨w, h1, h2⟩ := K.fl a f
  exact ⟨w, h.mem_iff.mp h1, h2⟩⟩
theorem Crew.tail (K : Crew s (w :: B)) (h : owI w.o = none) : Crew s B := by
 have ap := K.ap
 rw [List.pairwise_cons] at ap
 refine ⟨fun v hv => K.ok v (List.mem_cons_of_mem _ hv), ap.2, fun a f => ?_⟩
 obtain ⟨v, h1, h2⟩ := K.fl a f
 rcases List.mem_cons.mp h1 with q | q
 ·
  rw [q, h] at h2; cases h2
 ·
  exact ⟨v, q, h2⟩
theorem Crew.cons (K : Crew s B) (h : w.is s) (h1 : w.held = none) (h2 : w.rv = none) : Crew s (w :: B) := by
 refine ⟨fun v hv => ?_, List.pairwise_cons.mpr ⟨fun b _ => ⟨.inl h1, .inl h2⟩, K.ap⟩, fun a f => ?_⟩
 ·
  rcases List.mem_cons.mp hv with q | q
  ·
   rw [q]; exact h
  ·
   exact K.ok v q
 ·
  obtain ⟨v, h1, h2⟩ := K.fl a f
  exact ⟨v, List.mem_cons_of_mem _ h1, h2⟩
theorem Crew.nfl (X : XS s j) (K : Crew s ws) : nfl s.T.nodes s.M.cells s.t ≤ ws.length := by
 have := nfl_own X.cx (os := ws.filterMap (fun w => owI w.o)) (fun b f => by
  obtain ⟨w, h1, h2⟩ := K.fl b f
  exact List.mem_filterMap.mpr ⟨w, h1, h2⟩)
 exact Nat.le_trans this (List.length_filterMap_le _ _)
theorem crew_step {n : Nat} (hn : 30000 ≤ n) (X : XS s j) (hj : j ≤ 20000) (K : Crew s (w :: B)) (hc : Cl s.hs w.R w.G) :
 ∃ s' w' j', F_index_Work_Step n s.T s.M s.S w.x = some (w'.o.isNone, s'.T, s'.M, s'.S, w'.x) ∧ XS s' j' ∧ Crew s' (w' :: B) ∧ w'.G = w.G ∧ w'.R = w.R ∧ (∃ own rv, StX s s' own rv) ∧ Hm w.G s.hs s'.hs ∧ Cn s.M s'.M ∧ j ≤ j' ∧ j' ≤ j + 1 ∧ (w.o = none → s' = s ∧ w' = w) := by
 obtain ⟨G, R, held, rv, W, o⟩ := w
 obtain ⟨ρ, Q, h⟩ := K.ok _ List.mem_cons_self
 dsimp only at h hc
 have ap := K.ap
 rw [List.pairwise_cons] at ap
 cases o with
 | none =>
  refine ⟨s, ⟨G, R, held, rv, W, none⟩, j, rfl, X, K, rfl, rfl, ⟨none, none, (same_ix (M' := s.M) X rfl).2⟩, .refl, .inl rfl, Nat.le_refl _, by omega, fun _ => ⟨rfl, rfl⟩⟩
 | some x =>
  obtain ⟨m, rfl⟩ : ∃ m, n = m + 30000 := ⟨n - 30000, by omega⟩
  obtain ⟨o', s', W', held', rv', j', ρ', Q', e, X', S', h', lt, le, hh', hv', cn, hF, j1, j2, hhs⟩ := wi_step (n := m) X hj hc h
  have hm : Hm G s.hs s'.hs := fun k => by
   rcases hhs k with w | ⟨e, e1, e2, e3⟩
   ·
    exact .inl w
   ·
    rcases S'.hm k with u | ⟨f, f1, f2, f3⟩
    ·
     exact .inl u
    ·
     rw [e3] at f3
     have : e = f := (List.cons.inj f3).1
     subst this
     exact .inr ⟨e, e1, e2, f2, e3⟩
  have oth : ∀ v ∈ B, v.is s := fun v hv => K.ok v (List.mem_cons_of_mem _ hv)
  refine ⟨s', ⟨G, R, held', rv', W', o'⟩, j', istep_some e, X', ⟨fun v hv => ?_, List.pairwise_cons.mpr ⟨fun v hv => ?_, ap.2⟩, fun a f => ?_⟩, rfl, rfl, ⟨_, _, S'⟩, hm, cn, j1, j2, fun q => by cases q⟩
  ·
   rcases List.mem_cons.mp hv with q | q
   ·
    rw [q]; exact ⟨ρ', Q', h'⟩
   ·
    obtain ⟨ρv, Qv, g⟩ := oth v q
    obtain ⟨a1, a2⟩ := ap.1 v q
    exact g.stab X S' a1 a2
  ·
   obtain ⟨ρv, Qv, g⟩ := oth v hv
   obtain ⟨a1, a2⟩ := ap.1 v hv
   obtain ⟨l1, l2⟩ := g.held_lt
   refine ⟨?_, ?_⟩
   ·
    show held' = none ∨ held' ≠ v.held
    rcases hh' with q | q | q
    ·
     exact .inl q
    ·
     rw [q]; exact a1
    ·
     rw [q]
     exact .inr (fun e => by have := l1 _ e.symm; omega)
   ·
    show rv' = none ∨ rv' ≠ v.rv
    rcases hv' with q | q | q
    ·
     exact .inl q
    ·
     rw [q]; exact a2
    ·
     rw [q]
     exact .inr (fun e => by have := l2 _ e.symm; omega)
  ·
   rcases hF a f with ⟨w1, w2⟩ | w
   ·
    obtain ⟨v, h1, h2⟩ := K.fl a w1
    rcases List.mem_cons.mp h1 with q | q
    ·
     rw [q] at h2; exact absurd h2 w2
    ·
     exact ⟨v, List.mem_cons_of_mem _ q, h2⟩
   ·
    exact ⟨_, List.mem_cons_self, w⟩
theorem crew_run {n : Nat} (hn : 2000000000000 ≤ n) (X : XS s j) (hB : B.length ≤ 100) (hj : j ≤ 19000) (K : Crew s (w :: B)) (hc : Cl s.hs w.R w.G) :
 ∃ s' W' j', F_index_Run n s.T s.M s.S w.x = some (s'.T, s'.M, s'.S, ⟨none, W'.cell, W'.bad, W'.found⟩) ∧ XS s' j' ∧ Crew s' (⟨w.G, w.R, none, none, W', none⟩ :: B) ∧ Res s' w.R w.G W' ∧ W'.bad = 0 ∧ Hm w.G s.hs s'.hs ∧ (∀ y ∈ s.ks, y ∈ s'.ks) ∧ (0 ≤ s.M.count → s.M.count ≤ 4000000000000000000 → 0 ≤ s'.M.count ∧ s'.M.count ≤ s.M.count + 1000000000000) ∧ j ≤ j' ∧ j' ≤ j + 8 * B.length + 20 := by
 have hnf := K.nfl X
 obtain ⟨G, R, held, rv, W, o⟩ := w
 obtain ⟨ρ, Q, h⟩ := K.ok _ List.mem_cons_self
 dsimp only at h hc
 have ap := K.ap
 rw [List.pairwise_cons] at ap
 rw [List.length_cons] at hnf
 have hq := h.qb
 have hr := h.rb X (by omega) (by omega)
 obtain ⟨m, rfl⟩ : ∃ m, n = m + 30000 := ⟨n - 30000, by omega⟩
 have hst : Stays s.T.infos.length s.M.cells.length held rv (fun t => (∀ v ∈ B, v.is t) ∧ ∀ y ∈ s.ks, y ∈ t.ks) := by
  intro s1 s2 j' own rv' X1 S1 ho hr1 hφ
  refine ⟨fun v hv => ?_, fun y hy => S1.ksub (hφ.2 y hy)⟩
  obtain ⟨ρv, Qv, g⟩ := hφ.1 v hv
  obtain ⟨ρ0, Q0, g0⟩ := K.ok v (List.mem_cons_of_mem _ hv)
  obtain ⟨l1, l2⟩ := g0.held_lt
  obtain ⟨a1, a2⟩ := ap.1 v hv
  dsimp only at a1 a2
  refine g.stab X1 S1 ?_ ?_
  ·
   rcases ho with q | q | ⟨a, q, q2⟩
   ·
    exact .inl q
   ·
    rw [q]; exact a1
   ·
    rw [q]; exact .inr (fun e => by have := l1 _ e.symm; omega)
  ·
   rcases hr1 with q | q | ⟨a, q, q2⟩
   ·
    exact .inl q
   ·
    rw [q]; exact a2
   ·
    rw [q]; exact .inr (fun e => by have := l2 _ e.symm; omega)
 obtain ⟨k, s', W', j', g1, g2, g3, g4, g5, g6, g7, g8, g9, g10, g11, g12⟩ := wi_run (n := m) hst (B.filterMap (fun w => owI w.o)) ρ Q s j W o held rv X hc h (by omega) (.inr (.inl rfl)) (.inr (.inl rfl)) (Nat.le_refl _) (Nat.le_refl _)
  (
   fun a f => by
   obtain ⟨v, h1, h2⟩ := K.fl a f
   rcases List.mem_cons.mp h1 with q | q
   ·
    rw [q] at h2; exact .inl h2
   ·
    exact .inr (List.mem_filterMap.mpr ⟨v, q, h2⟩))
  ⟨fun v hv => K.ok v (List.mem_cons_of_mem _ hv), fun y hy => hy⟩
 have hres : Res s' R G W' ∧ W'.bad = 0 := by
  cases g6 with
  | done h hb => exact ⟨h, hb⟩
 refine ⟨s', W', j', ?_, g3, ⟨fun v hv => ?_, List.pairwise_cons.mpr ⟨fun v hv => ⟨.inl rfl, .inl rfl⟩, ap.2⟩, fun a f => ?_⟩, hres.1, hres.2, g9, g7.2, fun h0 hb => ?_, g4, by omega⟩
 ·
  show F_index_Run (m + 30000) s.T s.M s.S ⟨o, W.cell, W.bad, W.found⟩ = _
  unfold F_index_Run
  rw [irunL (f := (s'.T, s'.M, s'.S, W', none)) rfl k (m + 30000) s.T s.M s.S W o g2 (by omega)]
  rfl
 ·
  rcases List.mem_cons.mp hv with q | q
  ·
   rw [q]; exact ⟨_, _, g6⟩
  ·
   exact g7.1 v q
 ·
  obtain ⟨v, h1, h2⟩ := List.mem_filterMap.mp (g8 a f)
  exact ⟨v, List.mem_cons_of_mem _ h1, h2⟩
 ·
  have := g12 h0 (by omega)
  omega
end
section
variable {s : Ix} {j n : Nat} {A B : List Wk} {w : Wk}
theorem crew_stepM (hn : 30000 ≤ n) (X : XS s j) (hj : j ≤ 20000) (K : Crew s (A ++ w :: B)) (hc : Cl s.hs w.R w.G) :
 ∃ s' w' j', F_index_Work_Step n s.T s.M s.S w.x = some (w'.o.isNone, s'.T, s'.M, s'.S, w'.x) ∧ XS s' j' ∧ Crew s' (A ++ w' :: B) ∧ w'.G = w.G ∧ w'.R = w.R ∧ (∃ own rv, StX s s' own rv) ∧ Hm w.G s.hs s'.hs ∧ Cn s.M s'.M ∧ j ≤ j' ∧ j' ≤ j + 1 ∧ (w.o = none → s' = s ∧ w' = w) := by
 obtain ⟨s', w', j', h1, h2, h3, h4⟩ := crew_step (n := n) (B := A ++ B) hn X hj (K.perm List.perm_middle) hc
 exact ⟨s', w', j', h1, h2, h3.perm List.perm_middle.symm, h4⟩
end
abbrev ixT0 : Obst_Tree := ⟨[⟨ByteArray.empty, 2, 0, 0⟩, ⟨ByteArray.empty, 1, 0, -1⟩, ⟨ByteArray.empty, 2, 0, -1⟩], [⟨0, 0, 0, 0, 0⟩]⟩
abbrev ix0 : Ix := ⟨ixT0, ⟨[0, 1, 2], 2⟩, ⟨[]⟩, .lf 1, .lf 2, [], fun _ => []⟩
theorem word0 : ∀ i ∈ (BT.nd 0 (.lf 1) (.lf 2)).ids, ∀ (x : Tbst_node) (c : Nat), ixT0.nodes[i]? = some x → x.cell = (c : Int) → c = 0 := by
 intro i hi x c hx hc
 have : i = 0 ∨ i = 1 ∨ i = 2 := by simpa [BT.ids] using hi
 rcases this with h | h | h
 ·
  subst h; cases hx; simp at hc; omega
 ·
  subst h; cases hx; simp at hc
 ·
  subst h; cases hx; simp at hc
theorem noinf0 {a : Nat} {y : Tbst_info} (ha : 1 ≤ a) (h : ixT0.infos[a]? = some y) : False := by
 have := (List.getElem?_eq_some_iff.mp h).1
 simp at this; omega
theorem cx0 : CX ixT0 ⟨[0, 1, 2], 2⟩ (.lf 1) (.lf 2) [] 0 := by
 refine ⟨inv0, fun a y ha hy => (noinf0 ha hy).elim, fun a b y z d e ha hb _ hy _ _ _ => (noinf0 ha hy).elim, fun i hi x c w hx hc hw => ?_, fun i hi x c hx hc => ?_, fun i hi x c w hx hc hw h1 => ?_⟩
 ·
  have := word0 i hi x c hx hc
  subst this
  have : (0 : Int) = (w : Int) := Option.some.inj hw
  have : w = 0 := by omega
  subst this
  decide
 ·
  have := word0 i hi x c hx hc
  subst this
  exact ⟨0, rfl, by omega⟩
 ·
  have := word0 i hi x c hx hc
  subst this
  have : (0 : Int) = (w : Int) := Option.some.inj hw
  omega
theorem xs0 : XS ix0 0 := by
 have no : ∀ {d : ID}, IsI ixT0 d → False := fun ⟨a, y, h1, h2, _⟩ => noinf0 h1 h2
 exact ⟨cx0, fun y hy => (by cases hy), fun d hd => (no hd).elim, fun d e hd _ _ => (no hd).elim, fun y hy => (by cases hy), fun k _ => rfl, Nat.le_refl _, fun k => Nat.le_refl _⟩
theorem crew0 : Crew ix0 [] := by
 refine ⟨fun w hw => (by cases hw), .nil, fun a f => ?_⟩
 obtain ⟨i, hi, x, c, hx, hc, hw⟩ := f
 have := word0 i hi x c hx hc
 subst this
 have : (0 : Int) = ((4 * a + 1 : Nat) : Int) := Option.some.inj hw
 omega
theorem ixnew_ok : F_index_New ⟨[], 0⟩ = some (ixT0, ⟨[0, 1, 2], 2⟩, ⟨[]⟩) := by
 unfold F_index_New F_chain_New
 rw [bnew_ok]; rfl
abbrev RT : Rc := fun _ _ => True
theorem mk_wk {s : Ix} {R : Rc} {G : Goal} {W : Oindex_Work} {o : Option Cli} (h : ∃ ρ Q, WI s R G none none W o ρ Q) : Wk.is ⟨G, R, none, none, W, o⟩ s := h
theorem xroot {s : Ix} {j : Nat} (X : XS s j) : BInv s.T s.M s.l s.r s.ks j := X.cx.inv
theorem ismall_keys {p0 : List TEvent} (w0 : (∀ a ∈ p0, S_TEvent a) ∧ p0.length ≤ maxLen) : ∀ e ∈ p0, e.Key.size < kmax := fun e he => by
 have h := (w0.1 e he).2.1
 have := reachBytes_lt
 show _ < 4611686018427387904
 omega
theorem few_ris {n : Nat} (l : List TEvent) (hn : 1000 < n) : F_law19_few n l = some false ∨ (F_law19_few n l = some true ∧ l.length ≤ 40 ∧ ∀ (k : Nat) (z : TEvent), l[k]? = some z → Ris l k z) := by
 unfold F_law19_few
 by_cases h : l.length ≤ 40
 ·
  rw [if_pos (by rw [decide_eq_true_iff]; omega)]
  unfold F_ref19_Rises
  rcases rises_L1 (n := n) (l := l) (by omega) hn l 0 rfl (by omega) with q | ⟨q1, q2⟩
  ·
   rw [q]; exact .inl rfl
  ·
   rw [q1]
   exact .inr ⟨rfl, h, fun k z hz => q2 k z (by omega) hz⟩
 ·
  rw [if_neg (by rw [decide_eq_true_iff]; omega)]
  exact .inl rfl
def RW (l : List TEvent) (rev : Int) : Rc := fun f F => So F ∧ ∀ t, t ∈ F ↔ (lessB t.Key f = true ∧ look (hist l t.Key) rev = some t)
theorem lt_le {a f k : ByteArray} (h1 : lessB a f = true) (h2 : lessB k f = false) : lessB a k = true := by
 cases h : lessB a k with
 | true => rfl
 | false =>
  exfalso
  cases g : lessB k a with
  | true => have := less_trans g h1; rw [h2] at this; cases this
  | false =>
   have := less_total h g
   rw [this, h2] at h1; cases h1
theorem cl_rw {l : List TEvent} {rev : Int} {hs : ByteArray → List TEvent} {g : TRange} {L : List ByteArray} (h1 : ∀ k, look (hs k) rev = look (hist l k) rev) (h2 : ∀ k t, look (hist l k) rev = some t → k ∈ L) : Cl hs (RW l rev) (.wlk g rev L) := by
 intro f F k ⟨so, mem⟩ _ hk hmin _
 rw [h1 k]
 have up : ∀ t ∈ F, lessB t.Key k = true := fun t ht => lt_le ((mem t).mp ht).1 hk
 refine ⟨?_, fun t => ?_⟩
 ·
  unfold So
  rw [List.pairwise_append]
  refine ⟨so, ?_, fun a ha b hb => ?_⟩
  ·
   cases look (hist l k) rev <;> simp
  ·
   cases e : look (hist l k) rev with
   | none => rw [e] at hb; cases hb
   | some x =>
    rw [e] at hb
    have : b = x := by simpa using hb
    rw [this, look_key e]
    exact up a ha
 ·
  rw [List.mem_append, mem, less_zero]
  constructor
  ·
   rintro (⟨a, b⟩ | h)
   ·
    refine ⟨?_, b⟩
    have := lt_le a hk
    rw [leB_not, less_asymm this]; rfl
   ·
    cases e : look (hist l k) rev with
    | none => rw [e] at h; cases h
    | some x =>
     rw [e] at h
     have : t = x := by simpa using h
     subst this
     have hk' := look_key e
     refine ⟨by rw [hk']; exact leB_refl _, by rw [hk']; exact e⟩
  ·
   rintro ⟨a, b⟩
   cases hf : lessB t.Key f with
   | true => exact .inl ⟨rfl, b⟩
   | false =>
    right
    have q := hmin _ (h2 _ _ b) hf
    rw [leB_not, Bool.not_eq_true'] at q a
    have : t.Key = k := less_total q a
    rw [this] at b
    rw [b]
    simp
theorem hist_cat (A B : List TEvent) (k : ByteArray) : hist (A ++ B) k = hist B k ++ hist A k := by unfold hist; rw [List.filter_append, List.reverse_append]
theorem mem_hist {A : List TEvent} {k : ByteArray} {e : TEvent} (h : e ∈ hist A k) : e ∈ A ∧ e.Key = k := by
 unfold hist at h
 rw [List.mem_reverse, List.mem_filter, eqB_iff] at h
 exact h
theorem look_skip {rev : Int} : ∀ (H R : List TEvent), (∀ x ∈ H, rev < x.Rev) → look (H ++ R) rev = look R rev
 | [], R, _ => rfl
 | e :: H, R, h => by
  have : ¬ e.Rev ≤ rev := by have := h e List.mem_cons_self; omega
  rw [List.cons_append]
  show (if e.Rev ≤ rev then _ else look (H ++ R) rev) = _
  rw [if_neg this]
  exact look_skip H R (fun x hx => h x (List.mem_cons_of_mem _ hx))
theorem look_cut {A B : List TEvent} {rev : Int} (h : ∀ x ∈ B, rev < x.Rev) (k : ByteArray) : look (hist (A ++ B) k) rev = look (hist A k) rev := by
 rw [hist_cat]
 exact look_skip _ _ (fun x hx => h x (mem_hist hx).1)
theorem look_mem {A : List TEvent} {k : ByteArray} {rev : Int} {t : TKV} (h : look (hist A k) rev = some t) : k ∈ A.map (·.Key) := by
 cases e : hist A k with
 | nil => rw [e] at h; cases h
 | cons x r =>
  have := mem_hist (A := A) (k := k) (e := x) (by rw [e]; exact List.mem_cons_self)
  exact List.mem_map.mpr ⟨x, this.1, this.2⟩
theorem no_empty (x : ByteArray) : lessB x ByteArray.empty = false := by
 unfold lessB
 have e : ByteArray.empty.toList = [] := by rw [ByteArray.toList_eq]; rfl
 rw [e]
 cases x.toList <;> rfl
abbrev g0 : TRange := ⟨ByteArray.empty, ByteArray.empty⟩
theorem inR_all (k : ByteArray) : inR g0 k = true := by
 unfold inR
 rw [leB_not, no_empty, eqB_self]; rfl
def HsA (s : Ix) (A : List TEvent) : Prop := ∀ k, s.hs k = hist A k
def HsB (s : Ix) (A : List TEvent) (e : TEvent) : Prop := ∀ k, s.hs k = hist A k ∨ (k = e.Key ∧ s.hs k = e :: hist A k)
def KIn (s : Ix) (A : List TEvent) : Prop := ∀ x ∈ A, ∃ y ∈ s.ks, y.key = x.Key
theorem hsB_hm {s s' : Ix} {A : List TEvent} {e : TEvent} {G : Goal} (h : HsB s A e) (hm : Hm G s.hs s'.hs) (hG : ∀ e', G = .put e' → e' = e) : HsB s' A e := fun k => by
 rcases hm k with w | ⟨e', h1, h2, h3, h4⟩
 ·
  rw [w]; exact h k
 ·
  obtain rfl := hG e' h1
  rcases h k with w | ⟨_, w⟩
  ·
   rw [w] at h4; exact .inr ⟨h2, h4⟩
  ·
   rw [w] at h3
   have : e'.Rev < e'.Rev := h3
   omega
theorem hsA_hm {s s' : Ix} {A : List TEvent} {G : Goal} (h : HsA s A) (hm : Hm G s.hs s'.hs) (hG : ∀ e', G = .put e' → e'.Rev ≤ revOf (hist A e'.Key)) : HsA s' A := fun k => by
 rcases hm k with w | ⟨e', h1, h2, h3, h4⟩
 ·
  rw [w]; exact h k
 ·
  have := hG e' h1
  rw [h k, h2] at h3
  omega
theorem kin_st {s s' : Ix} {A : List TEvent} (h : KIn s A) (hs : ∃ own rv, StX s s' own rv) : KIn s' A := fun x hx => by
 obtain ⟨own, rv, S⟩ := hs
 obtain ⟨y, h1, h2⟩ := h x hx
 exact ⟨y, S.ksub h1, h2⟩
def AskOK (l : List TEvent) (rev : Int) (ask : Option Wk) : Prop := ∀ w, ask = some w → w.R = RW l rev ∧ ∃ L, w.G = .wlk g0 rev L ∧ ∀ k t, look (hist l k) rev = some t → k ∈ L
theorem AskOK.same {l : List TEvent} {rev : Int} {w w' : Wk} (h : AskOK l rev (some w)) (h1 : w'.G = w.G) (h2 : w'.R = w.R) : AskOK l rev (some w') := fun v hv => by
 cases hv
 obtain ⟨a, L, b, c⟩ := h w rfl
 exact ⟨h2.trans a, L, h1.trans b, c⟩
theorem many_L2 {n : Nat} (hn : 30000 ≤ n) {l A B : List TEvent} {e : TEvent} {rev : Int} (hl : l = A ++ e :: B) {rest : List Wk} : ∀ (q : List Bool) (i : Nat) (s : Ix) (j : Nat) (a b : Wk) (ask : Option Wk), XS s j → Crew s (a :: b :: (ask.toList ++ rest)) → a.G = .put e → b.G = .put e → AskOK l rev ask → (ask ≠ none → ∀ x ∈ e :: B, rev < x.Rev) → HsB s A e → KIn s A → i ≤ 40 → j + 2 * (40 - i) ≤ 19000 →
 ∃ s' j' a' b' ask' u1 u2 u3 u4 u5, F_law19_IndexMany_L2 n q i (ask.map Wk.x) a.x (s.T, s.M, s.S) b.x = some (u1, u2, u3, u4, u5, (s'.T, s'.M, s'.S), b'.x, a'.x, ask'.map Wk.x) ∧ XS s' j' ∧ Crew s' (a' :: b' :: (ask'.toList ++ rest)) ∧ a'.G = .put e ∧ b'.G = .put e ∧ AskOK l rev ask' ∧ (ask' = none ↔ ask = none) ∧ HsB s' A e ∧ KIn s' A ∧ j' ≤ j + 2 * (40 - i)
 | [], i, s, j, a, b, ask, X, K, ga, gb, ao, _, hb, hk, _, _ => ⟨s, j, a, b, ask, _, _, _, _, _, by rw [F_law19_IndexMany_L2], X, K, ga, gb, ao, Iff.rfl, hb, hk, by omega⟩
 | z :: q, i, s, j, a, b, ask, X, K, ga, gb, ao, hr, hb, hk, hi, hj => by
  rw [F_law19_IndexMany_L2]
  by_cases hlt : i < 40
  ·
   rw [if_pos (decide_eq_true (by omega))]
   have st1 : ∃ s1 j1 a1 b1, (if z = true then ((F_index_Work_Step n s.T s.M s.S a.x).bind fun x65 => some ((x65.2.1, x65.2.2.1, x65.2.2.2.1), b.x, x65.2.2.2.2)) else ((F_index_Work_Step n s.T s.M s.S b.x).bind fun x66 => some ((x66.2.1, x66.2.2.1, x66.2.2.2.1), x66.2.2.2.2, a.x)) : Option ((Obst_Tree × Omem_Mem × Ochain_Store) × (Oindex_Work_2) × (Oindex_Work_2))) = some ((s1.T, s1.M, s1.S), b1.x, a1.x) ∧ XS s1 j1 ∧ Crew s1 (a1 :: b1 :: (ask.toList ++ rest)) ∧ a1.G = .put e ∧ b1.G = .put e ∧ HsB s1 A e ∧ KIn s1 A ∧ j1 ≤ j + 1 := by
    cases z with
    | true =>
     rw [if_pos rfl]
     obtain ⟨s1, a1, j1, g1, X1, K1, e1, e2, S1, hm, _, _, jj, _⟩ := crew_stepM (n := n) (A := []) (w := a) (B := b :: (ask.toList ++ rest)) hn X (by omega) K (by rw [ga]; trivial)
     rw [g1]
     exact ⟨s1, j1, a1, b, rfl, X1, K1, e1.trans ga, gb, hsB_hm hb hm (fun e' h => by rw [ga] at h; cases h; rfl), kin_st hk S1, jj⟩
    | false =>
     rw [if_neg (by simp)]
     obtain ⟨s1, b1, j1, g1, X1, K1, e1, e2, S1, hm, _, _, jj, _⟩ := crew_stepM (n := n) (A := [a]) (w := b) (B := ask.toList ++ rest) hn X (by omega) K (by rw [gb]; trivial)
     rw [g1]
     exact ⟨s1, j1, a, b1, rfl, X1, K1, ga, e1.trans gb, hsB_hm hb hm (fun e' h => by rw [gb] at h; cases h; rfl), kin_st hk S1, jj⟩
   obtain ⟨s1, j1, a1, b1, f1, X1, K1, ga1, gb1, hb1, hk1, jj1⟩ := st1
   rw [f1]
   simp only [Option.bind_some]
   cases ask with
   | none =>
    simp only [Option.map_none]
    unfold F_index_Work_Step_nil
    simp only [Option.bind_some]
    obtain ⟨s', j', a', b', ask', u1, u2, u3, u4, u5, r1, r2, r3, r4, r5, r6, r7, r8, r9, r10⟩ := many_L2 hn hl q (i + 1) s1 j1 a1 b1 none X1 K1 ga1 gb1 ao hr hb1 hk1 (by omega) (by omega)
    exact ⟨s', j', a', b', ask', u1, u2, u3, u4, u5, r1, r2, r3, r4, r5, r6, by simpa using r7, r8, r9, by omega⟩
   | some w =>
    simp only [Option.map_some]
    obtain ⟨wr, L, wg, wl⟩ := ao w rfl
    have hrev := hr (by simp)
    have cl : Cl s1.hs w.R w.G := by
     rw [wr, wg]
     refine cl_rw (fun k => ?_) wl
     rw [hl, look_cut hrev k]
     rcases hb1 k with v | ⟨_, v⟩
     ·
      rw [v]
     ·
      rw [v]
      exact look_skip [e] _ (fun x hx => by rw [List.mem_singleton] at hx; rw [hx]; exact hrev e List.mem_cons_self)
    obtain ⟨s2, w2, j2, g2, X2, K2, e1, e2, S2, hm, _, _, jj2, _⟩ := crew_stepM (n := n) (A := [a1, b1]) (w := w) (B := rest) hn X1 (by omega) K1 cl
    rw [g2]
    simp only [Option.bind_some]
    obtain ⟨s', j', a', b', ask', u1, u2, u3, u4, u5, r1, r2, r3, r4, r5, r6, r7, r8, r9, r10⟩ := many_L2 hn hl q (i + 1) s2 j2 a1 b1 (some w2) X2 K2 ga1 gb1 (ao.same e1 e2) (fun _ => hrev) (hsB_hm hb1 hm (fun e' h => by rw [wg] at h; cases h)) (kin_st hk1 S2) (by omega) (by omega)
    exact ⟨s', j', a', b', ask', u1, u2, u3, u4, u5, r1, r2, r3, r4, r5, r6, r7.trans (by simp), r8, r9, by omega⟩
  ·
   rw [if_neg (by rw [decide_eq_true_iff]; omega)]
   exact ⟨s, j, a, b, ask, _, _, _, _, _, rfl, X, K, ga, gb, ao, Iff.rfl, hb, hk, by omega⟩
theorem rw_nil {l : List TEvent} {rev : Int} : RW l rev g0.From [] := ⟨List.Pairwise.nil, fun t => by
 rw [show g0.From = ByteArray.empty from rfl, no_empty]; simp⟩
abbrev askW (l A : List TEvent) (rev : Int) : Wk := ⟨.wlk g0 rev (A.map (·.Key)), RW l rev, none, none, ⟨0, 0, []⟩, some (walkC g0 g0.From rev)⟩
theorem ask_new {s : Ix} {j : Nat} {B : List Wk} {l A : List TEvent} {rev : Int} (K : Crew s B) (hk : KIn s A) : Crew s (askW l A rev :: B) :=
 K.cons (mk_wk (wi_walk g0 rev _ (fun w hw => by
  obtain ⟨x, hx, rfl⟩ := List.mem_map.mp hw
  exact hk x hx) rw_nil)) rfl rfl
theorem many_L1 {n : Nat} (hn : 2000000000000 ≤ n) {l : List TEvent} {rev : Int} {p2 : List Bool} (hr : ∀ (k : Nat) (z : TEvent), l[k]? = some z → Ris l k z) (hll : l.length ≤ 40) (hz : ∀ e ∈ l, e.Key.size < kmax) : ∀ (B A : List TEvent) (i : Nat) (s : Ix) (j : Nat) (ask : Option Wk) (late : Wk) (rest : List Wk), l = A ++ B → XS s j → Crew s (late :: (ask.toList ++ rest)) →
 ((∃ k, late.G = .ens k) ∨ ∃ e', late.G = .put e' ∧ e'.Rev ≤ revOf (hist A e'.Key)) → AskOK l rev ask → (ask ≠ none → ∀ x ∈ B, rev < x.Rev) → HsA s A → KIn s A → rest.length ≤ A.length → j ≤ 40 + 445 * A.length →
 ∃ s' j' ask' late' rest', F_law19_IndexMany_L1 n p2 rev B i (s.T, s.M, s.S) (ask.map Wk.x) (some late.x) = some (some late'.x, ask'.map Wk.x, (s'.T, s'.M, s'.S)) ∧ XS s' j' ∧ Crew s' (late' :: (ask'.toList ++ rest')) ∧
  ((∃ k, late'.G = .ens k) ∨ ∃ e', late'.G = .put e' ∧ e'.Rev ≤ revOf (hist l e'.Key)) ∧ AskOK l rev ask' ∧ HsA s' l ∧ KIn s' l ∧ rest'.length ≤ 40 ∧ j' ≤ 17840
 | [], A, i, s, j, ask, late, rest, hl, X, K, hq, ao, _, ha, hk, hrl, hj => by
  rw [List.append_nil] at hl
  subst hl
  exact ⟨s, j, ask, late, rest, by rw [F_law19_IndexMany_L1], X, K, hq, ao, ha, hk, by omega, by omega⟩
 | e :: B, A, i, s, j, ask, late, rest, hl, X, K, hq, ao, har, ha, hk, hrl, hj => by
  have hlen : l.length = A.length + 1 + B.length := by rw [hl]; simp; omega
  have hel : e ∈ l := by rw [hl]; simp
  have rise := rise_of hr A B e hl
  rw [F_law19_IndexMany_L1]
  have s1 : ∃ ask1, ((if (bif (decide (e.Rev > rev)) then (ask.map Wk.x).isNone else false) = true then ((F_index_Index_Walk n s.T s.M s.S (⟨ByteArray.empty, ByteArray.empty⟩ : TRange) rev).bind fun x67 => some ((some x67.1), (x67.2.1, x67.2.2.1, x67.2.2.2))) else (some (ask.map Wk.x, (s.T, s.M, s.S))) : Option (((Option Oindex_Work_2)) × (Obst_Tree × Omem_Mem × Ochain_Store)))) = some (ask1.map Wk.x, (s.T, s.M, s.S)) ∧ Crew s (ask1.toList ++ (late :: rest)) ∧ AskOK l rev ask1 ∧ (ask1 ≠ none → ∀ x ∈ e :: B, rev < x.Rev) := by
   cases ask with
   | some w =>
    rw [if_neg (by simp)]
    exact ⟨some w, rfl, K.perm (List.Perm.swap _ _ _), ao, fun h => har h⟩
   | none =>
    by_cases hev : e.Rev > rev
    ·
     rw [if_pos (by rw [decide_eq_true hev]; rfl), walk_beg (xroot X)]
     simp only [Option.bind_some]
     have all : ∀ x ∈ e :: B, rev < x.Rev := fun x hx => by
      obtain ⟨d, hd⟩ := List.mem_iff_getElem?.mp hx
      have h1 : l[A.length]? = some e := by rw [hl]; simp
      have h2 : l[A.length + d]? = some x := by rw [hl, List.getElem?_append_right (by omega)]; rw [show A.length + d - A.length = d by omega]; exact hd
      have := ris_up hr d A.length e x h1 h2
      omega
     refine ⟨some (askW l A rev), rfl, show Crew s (askW l A rev :: (late :: rest)) from ask_new (j := j) K hk, fun w hw => ?_, fun _ => all⟩
     cases hw
     refine ⟨rfl, _, rfl, fun k t ht => ?_⟩
     rw [hl, look_cut all k] at ht
     exact look_mem ht
    ·
     rw [if_neg (by rw [decide_eq_false hev]; simp)]
     exact ⟨none, rfl, K, ao, fun h => absurd rfl h⟩
  obtain ⟨ask1, f1, K1, ao1, har1⟩ := s1
  simp only [] at f1 ⊢
  rw [f1]
  simp only [Option.bind_some]
  rw [put_beg (xroot X)]
  simp only [Option.bind_some]
  rw [put_beg (xroot X)]
  simp only [Option.bind_some]
  have K2 := (K1.cons (w := ⟨.put e, RT, none, none, ⟨0, 0, []⟩, some (ensC e.Key (.c_Index_Put_1_1 e))⟩) (mk_wk (wi_put e (hz e hel))) rfl rfl)
  have K3 := (K2.cons (w := ⟨.put e, RT, none, none, ⟨0, 0, []⟩, some (ensC e.Key (.c_Index_Put_1_1 e))⟩) (mk_wk (wi_put e (hz e hel))) rfl rfl)
  have hab : HsB s A e := fun k => .inl (ha k)
  obtain ⟨s2, j2, a2, b2, ask2, u1, u2, u3, u4, u5, g1, X2, K4, ga, gb, ao2, an2, hb2, hk2, hj2⟩ := many_L2 (n := n) (by omega) hl p2 0 s j _ _ ask1 X K3 rfl rfl ao1 har1 hab hk (by omega) (by omega)
  have g1 : F_law19_IndexMany_L2 n p2 0 (ask1.map Wk.x) ⟨some (ensC e.Key (.c_Index_Put_1_1 e)), 0, 0, []⟩ (s.T, s.M, s.S) ⟨some (ensC e.Key (.c_Index_Put_1_1 e)), 0, 0, []⟩ = _ := g1
  rw [g1]
  simp only [Option.bind_some]
  have tl : ask2.toList.length ≤ 1 := by cases ask2 <;> simp
  obtain ⟨s3, W3, j3, h3, X3, K5, R3, b3, hm3, sub3, _, _, q3⟩ := crew_run (n := n) (w := a2) (B := b2 :: (ask2.toList ++ (late :: rest))) hn X2 (by simp; omega) (by omega) K4 (by rw [ga]; trivial)
  rw [h3]
  simp only [Option.bind_some]
  have K6 := K5.tail rfl
  rw [ga] at R3 hm3
  obtain ⟨⟨y, hy, hyk⟩, hrv⟩ := R3
  have hb3 : HsB s3 A e := hsB_hm hb2 hm3 (fun e' h => by cases h; rfl)
  have ha3 : HsA s3 (A ++ [e]) := fun k => by
   rw [hist_app]
   by_cases q : e.Key = k
   ·
    rw [if_pos q]
    rcases hb3 k with v | ⟨_, v⟩
    ·
     rw [← q] at v
     rw [v] at hrv
     omega
    ·
     exact v
   ·
    rw [if_neg q]
    rcases hb3 k with v | ⟨v, _⟩
    ·
     exact v
    ·
     exact absurd v.symm q
  have hk3 : KIn s3 (A ++ [e]) := fun x hx => by
   rcases List.mem_append.mp hx with v | v
   ·
    obtain ⟨y, h1, h2⟩ := hk2 x v
    exact ⟨y, sub3 y h1, h2⟩
   ·
    rw [List.mem_singleton] at v
    rw [v]; exact ⟨y, hy, hyk⟩
  have up : ∀ k, revOf (hist A k) ≤ revOf (hist (A ++ [e]) k) := fun k => by
   rw [hist_app]
   by_cases q : e.Key = k
   ·
    rw [if_pos q, ← q]; exact Int.le_of_lt rise
   ·
    rw [if_neg q]; exact Int.le_refl _
  have hq3 : ∀ e', late.G = .put e' → e'.Rev ≤ revOf (hist (A ++ [e]) e'.Key) := fun e' h => by
   rcases hq with ⟨k, w⟩ | ⟨e2, w, w2⟩
   ·
    rw [w] at h; cases h
   ·
    rw [w] at h; cases h
    exact Int.le_trans w2 (up _)
  have cl4 : Cl s3.hs late.R late.G := by
   rcases hq with ⟨k, w⟩ | ⟨e2, w, w2⟩
   ·
    rw [w]; trivial
   ·
    rw [w]; trivial
  obtain ⟨s4, late4, j4, g4, X4, K7, e1, e2, S4, hm4, _, _, jj4, _⟩ := crew_stepM (n := n) (A := b2 :: ask2.toList) (w := late) (B := rest) (by omega) X3 (by simp at q3; omega) K6 cl4
  rw [g4]
  simp only [Option.bind_some]
  have ha4 := hsA_hm ha3 hm4 hq3
  have hk4 := kin_st hk3 S4
  simp only [List.length_cons, List.length_append] at q3
  have r2 : e.Rev ≤ revOf (hist (A ++ [e]) e.Key) := by
   rw [hist_app, if_pos rfl]; exact Int.le_refl _
  have K8 : Crew s4 (b2 :: (ask2.toList ++ (late4 :: rest))) := K7
  obtain ⟨s', j', ask', late', rest', r1, rX, rK, rq, ra, rh, rk, rl, rj⟩ := many_L1 hn hr hll hz B (A ++ [e]) (i + 1) s4 j4 ask2 b2 (late4 :: rest) (by rw [hl]; simp) X4 K8 (.inr ⟨e, gb, r2⟩) ao2 (fun h x hx => har1 (fun w => h (an2.mpr w)) x (List.mem_cons_of_mem _ hx)) ha4 hk4 (by simp; omega) (by simp; omega)
  exact ⟨s', j', ask', late', rest', r1, rX, rK, rq, ra, rh, rk, rl, rj⟩
theorem found_all {s : Ix} {l : List TEvent} {rev : Int} {L : List ByteArray} {W : Oindex_Work} (h : Res s (RW l rev) (.wlk g0 rev L) W) (hL : ∀ k t, look (hist l k) rev = some t → k ∈ L) : W.found = mapAt l rev := by
 obtain ⟨f, ⟨so, mem⟩, hf⟩ := h
 refine so_ext so (mapAt_so l rev) (fun t => ?_)
 rw [mem, mapAt_mem]
 exact ⟨fun h => h.2, fun h => ⟨hf _ (hL _ _ h) (inR_all _), h⟩⟩
theorem plain_IndexMany (p0 : List TEvent) (p1 : Int) (p2 : List Bool) (w0 : (∀ a ∈ p0, S_TEvent a) ∧ p0.length ≤ maxLen) (w1 : okI .u8 p1) (w2 : (∀ a ∈ p2, True) ∧ p2.length ≤ maxLen) : ∃ n, F_law19_IndexMany n p0 p1 p2 = some true := by
 have z0 := ismall_keys w0
 have hn : 2000000000000 ≤ 2000000000003 := by omega
 generalize 2000000000003 = n at hn
 refine ⟨n, ?_⟩
 unfold F_law19_IndexMany
 rcases few_ris (n := n) p0 (by omega) with h | ⟨h, hl, hr⟩
 ·
  rw [h]; rfl
 rw [h]
 simp only [Option.bind_some]
 cases hp : p0 with
 | nil => rfl
 | cons d0 ds =>
  rw [← hp]
  have hlen : 0 < p0.length := by rw [hp]; simp
  rw [show ((p0.length : Int) == 0) = false from beq_eq_false_iff_ne.mpr (by omega), if_neg (by simp)]
  unfold F_mem_New_nil
  simp only [Option.bind_some]
  rw [ixnew_ok]
  simp only [Option.bind_some]
  have wl : IntKind.i64.wrap ((p0.length : Int) - 1) = ((p0.length - 1 : Nat) : Int) := by rw [wrap_id (by omega) (by omega)]; omega
  rw [wl, getI_nat, List.getElem?_eq_getElem (show p0.length - 1 < p0.length by omega)]
  simp only [Option.bind_some]
  generalize hlast : p0[p0.length - 1] = last
  have hlast' : p0[p0.length - 1]? = some last := by rw [List.getElem?_eq_getElem (by omega), hlast]
  have one := (hr _ _ hlast').one
  by_cases hbig : last.Rev > 1000
  ·
   have : ∃ x, remI (IntKind.i64.wrap p1) (IntKind.i64.wrap (last.Rev + 1)) = some x := by
    unfold remI
    rw [if_neg ?_]
    ·
     exact ⟨_, rfl⟩
    ·
     have hd : okI .i64 last.Rev := (w0.1 last (List.mem_of_getElem? hlast')).1
     have := okI_i64 hd
     intro q
     rcases Int.lt_or_le last.Rev 9223372036854775807 with w | w
     ·
      rw [wrap_id (by omega) (by omega)] at q; omega
     ·
      have : last.Rev = 9223372036854775807 := by omega
      rw [this] at q
      revert q; decide
   obtain ⟨x, hx⟩ := this
   rw [hx]
   simp only [Option.bind_some]
   rw [decide_eq_true hbig]
   rfl
  ·
   have hrem : remI (IntKind.i64.wrap p1) (IntKind.i64.wrap (last.Rev + 1)) = some (Int.tmod (IntKind.i64.wrap p1) (IntKind.i64.wrap (last.Rev + 1))) := by
    unfold remI
    rw [if_neg (by rw [wrap_id (by omega) (by omega)]; omega)]
   rw [hrem]
   simp only [Option.bind_some]
   generalize Int.tmod (IntKind.i64.wrap p1) (IntKind.i64.wrap (last.Rev + 1)) = rev
   rw [decide_eq_false hbig]
   simp only [cond_false, Bool.false_eq_true, if_false]
   have e0 : getI p0 0 = some d0 := by rw [hp]; rfl
   rw [e0]
   simp only [Option.bind_some]
   have z1 := z0 d0 (by rw [hp]; exact List.mem_cons_self)
   rw [ensure_beg (xroot xs0)]
   simp only [Option.bind_some]
   have K1 := crew0.cons (w := ⟨.ens d0.Key, RT, none, none, ⟨0, 0, []⟩, some (ensC d0.Key .c_end)⟩) (mk_wk (wi_ens d0.Key z1)) rfl rfl
   obtain ⟨s1, W1, j1, h1, X1, K2, _, _, hm1, _, _, q1⟩ := crew_run (n := n) hn xs0 (by simp) (by omega) K1 trivial
   have h1 : F_index_Run n ix0.T ix0.M ix0.S ⟨some (ensC d0.Key .c_end), 0, 0, []⟩ = _ := h1
   rw [h1]
   simp only [Option.bind_some]
   simp only [List.length_nil] at q1
   have ha1 : HsA s1 [] := fun k => by
    rcases hm1 k with w | ⟨e, w, _⟩
    ·
     exact w
    ·
     cases w
   obtain ⟨s2, j2, ask, late, rest, g2, X2, K3, hq, ao, ha2, hk2, hrl, hj2⟩ := many_L1 (n := n) hn (rev := rev) (p2 := p2) hr hl z0 p0 [] 0 s1 j1 none ⟨.ens d0.Key, RT, none, none, W1, none⟩ [] rfl X1 K2 (.inl ⟨_, rfl⟩) (fun w hw => by cases hw) (fun h => absurd rfl h) ha1 (fun x hx => by cases hx) (Nat.le_refl _) (by simp; omega)
   have g2 : F_law19_IndexMany_L1 n p2 rev p0 0 (s1.T, s1.M, s1.S) none (some ⟨none, W1.cell, W1.bad, W1.found⟩) = _ := g2
   rw [g2]
   simp only [Option.bind_some]
   have tl : ask.toList.length ≤ 1 := by cases ask <;> simp
   have hq' : ∀ e', late.G = .put e' → e'.Rev ≤ revOf (hist p0 e'.Key) := fun e' h => by
    rcases hq with ⟨k, w⟩ | ⟨e2, w, w2⟩
    ·
     rw [w] at h; cases h
    ·
     rw [w] at h; cases h; exact w2
   have cl3 : Cl s2.hs late.R late.G := by
    rcases hq with ⟨k, w⟩ | ⟨e2, w, w2⟩
    ·
     rw [w]; trivial
    ·
     rw [w]; trivial
   obtain ⟨s3, W3, j3, h3, X3, K4, _, _, hm3, sub3, _, _, q3⟩ := crew_run (n := n) (w := late) (B := ask.toList ++ rest) hn X2 (by simp; omega) (by omega) K3 cl3
   rw [h3]
   simp only [Option.bind_some]
   have K5 := K4.tail rfl
   simp only [List.length_append] at q3
   have ha3 := hsA_hm ha2 hm3 hq'
   have hk3 : KIn s3 p0 := fun x hx => by
    obtain ⟨y, a, b⟩ := hk2 x hx
    exact ⟨y, sub3 y a, b⟩
   have s4 : ∃ w, (if (ask.map Wk.x).isNone = true then ((F_index_Index_Walk n s3.T s3.M s3.S (⟨ByteArray.empty, ByteArray.empty⟩ : TRange) rev).bind fun x36 => some ((x36.2.1, x36.2.2.1, x36.2.2.2), (some x36.1))) else (some ((s3.T, s3.M, s3.S), ask.map Wk.x)) : Option ((Obst_Tree × Omem_Mem × Ochain_Store) × ((Option Oindex_Work_2)))) = some ((s3.T, s3.M, s3.S), some w.x) ∧ Crew s3 (w :: rest) ∧ AskOK p0 rev (some w) := by
    cases ask with
    | some w =>
     rw [if_neg (by simp)]
     exact ⟨w, rfl, K5, ao⟩
    | none =>
     simp only [Option.map_none, Option.isNone_none, if_true]
     rw [walk_beg (xroot X3)]
     refine ⟨askW p0 p0 rev, rfl, ask_new (j := j3) K5 hk3, fun w hw => ?_⟩
     cases hw
     exact ⟨rfl, _, rfl, fun k t ht => look_mem ht⟩
   obtain ⟨w, f4, K6, ao4⟩ := s4
   try simp only [] at f4 ⊢
   rw [f4]
   simp only [Option.bind_some]
   obtain ⟨wr, L, wg, wL⟩ := ao4 w rfl
   obtain ⟨s5, W5, j5, h5, X5, K7, R5, _, hm5, sub5, _, _, q5⟩ := crew_run (n := n) (w := w) (B := rest) hn X3 (by omega) (by omega) K6 (by rw [wr, wg]; exact cl_rw (fun k => by rw [ha3 k]) wL)
   rw [h5]
   simp only [Option.bind_some, F_index_Work_Found]
   rw [wr, wg] at R5
   rw [wg] at hm5
   have ha5 := hsA_hm ha3 hm5 (fun e' h => by cases h)
   have hk5 : KIn s5 p0 := fun x hx => by
    obtain ⟨y, a, b⟩ := hk3 x hx
    exact ⟨y, sub5 y a, b⟩
   rw [walk_beg (xroot X5)]
   simp only [Option.bind_some]
   have K8 := ask_new (j := j5) (l := p0) (rev := 5000) (K7.tail rfl) hk5
   obtain ⟨s6, W6, j6, h6, X6, K9, R6, _, _, _, _, _, q6⟩ := crew_run (n := n) (B := rest) hn X5 (by omega) (by omega) K8 (cl_rw (fun k => by rw [ha5 k]) (fun k t ht => look_mem ht))
   have h6 : F_index_Run n s5.T s5.M s5.S ⟨some (walkC g0 g0.From 5000), 0, 0, []⟩ = _ := h6
   rw [h6]
   simp only [Option.bind_some, F_index_Work_Found]
   rw [found_all R5 wL, found_all R6 (fun k t ht => look_mem ht), map_ok (by omega) (by omega)]
   simp only [Option.bind_some]
   rw [sameK]
   simp only [Option.bind_some, if_true]
   rw [map_ok (by omega) (by omega)]
   simp only [Option.bind_some]
   rw [sameK]
   rfl
end Go.Proofs.YtndhbaidibioeaaGreat.V
