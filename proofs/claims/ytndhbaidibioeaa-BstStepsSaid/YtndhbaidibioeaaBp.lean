/- Whoever steps: closures that go on at once, and steps.
   No condition: these are laws of plain functions. -/
import Derived.Test.YtndhbaidibioeaaBo
namespace Go.Proofs.Ytndhbaidibioeaa.V
open Go
set_option linter.unusedVariables false
set_option linter.unusedSimpArgs false
set_option maxRecDepth 100000

theorem grow_no {M : Omem_Mem} (h : M.cells.length ≤ 65536) (h2 : ¬ M.cells.length + 3 ≤ 65536) : F_mem_Mem_Grow M 3 = some (0, 7, M) := by
  unfold F_mem_Mem_Grow
  have e : decide ((3 : Int) > IntKind.i64.wrap (65536 - (M.cells.length : Int))) = true := by
    rw [wrap_id (by omega) (by omega)]
    exact decide_eq_true (by omega)
  rw [e]
  simp
section
variable {n j : Nat} {T : Obst_Tree} {M : Omem_Mem} {C : Obst_Call} {fu : Prop}
theorem insert2_gd (Hr : RcOk (F_step n) n) {s : Tbst_seen} {k : Tbst_node} {th : Clo} (I : SI T M j) (hj : j ≤ 300000) (hs : Sn T s) (h : Ct T .u th) : Gd (n ≤ dep th) (F_step (n + 1) T M C (.c_insert_2 k th) (.s s)) T M j (dep th + 4) := by
  obtain ⟨i, x, e, hx, e2, hm⟩ := I.node hs.l
  have b1 := I.b1
  have b2 := I.b2
  obtain ⟨w, hw, hw2⟩ := hs.pw
  by_cases hk : isKey x k = true
  · rw [ins_there e hx hk]
    exact Gd.end_ I
  · have hk : isKey x k = false := by simpa using hk
    by_cases w4 : w % 4 = 0
    · by_cases hc : M.cells.length + 3 ≤ 65536
      · obtain ⟨p, pc, px, hp, hp2, hp3⟩ := hs.p
        rw [ins_grow (n := n) e hp hx hk hw w4 (by omega) hc (by omega) (by omega)]
        generalize hT' : (⟨T.nodes ++ [⟨k.key, 0, k.val, -1⟩] ++ [⟨x.key, x.top, x.val, -1⟩] ++ [innOf x k M.cells.length], T.infos ++ [⟨0, (p : Int), (i : Int), ((T.nodes.length + 2 : Nat) : Int), 0⟩]⟩ : Obst_Tree) = T'
        have hN' : T'.nodes = T.nodes ++ [⟨k.key, 0, k.val, -1⟩] ++ [⟨x.key, x.top, x.val, -1⟩] ++ [innOf x k M.cells.length] := by rw [← hT']
        have hI' : T'.infos = T.infos ++ [⟨0, (p : Int), (i : Int), ((T.nodes.length + 2 : Nat) : Int), 0⟩] := by rw [← hT']
        have te : TE T T' := ⟨⟨_, by rw [hN', List.append_assoc, List.append_assoc]⟩, ⟨_, hI'⟩⟩
        have l3 := I.len.1
        have hlN : T'.nodes.length = T.nodes.length + 3 := by rw [hN']; simp
        have hlI : T'.infos.length = T.infos.length + 1 := by rw [hI']; simp
        refine .inl ⟨_, T', _, C, rfl, te, ⟨fun y hy => ?_, I.root.ext te, by have := I.one; omega, fun a v hv => ?_, ⟨by simp; omega, by simpa using hc⟩, fun y hy => ?_, by omega, by omega⟩, rfl, fun y hy => ?_⟩
        · rw [hN'] at hy
          simp only [List.mem_append, List.mem_singleton] at hy
          rcases hy with ((q | q) | q) | q
          · rcases I.nodes y q with r | ⟨c, r, r2⟩
            · exact .inl r
            · exact .inr ⟨c, r, by simp; omega⟩
          · rw [q]; exact .inl rfl
          · rw [q]; exact .inl rfl
          · rw [q, innOf_cell]
            exact .inr ⟨M.cells.length / 3, by omega, by simp; omega⟩
        · by_cases ha : a < M.cells.length
          · rw [List.getElem?_append_left ha] at hv
            have := I.cells a v hv
            exact ⟨fun q => (this.1 q).ext te, fun q => (this.2 q).ext te⟩
          · rw [List.getElem?_append_right (by omega)] at hv
            have : v = 0 := by
              have := List.mem_of_getElem? hv
              simpa using this
            rw [this]
            exact ⟨fun _ => I.zero.ext te, fun _ => I.root.ndx.ext te⟩
        · rw [hI'] at hy
          rcases List.mem_append.mp hy with q | q
          · exact (I.infos y q).ext te
          · rw [List.mem_singleton] at q
            rw [q]
            exact ⟨I.root.ext te, (show Inn T' (p : Int) from by rw [← hp]; exact hs.p.ext te), (show Ndx T' (i : Int) from by rw [← e]; exact hs.l.ext te), ⟨_, rfl, by omega⟩⟩
        · cases hy
          have lb : lowOf x k T.nodes.length ≤ T.nodes.length + 1 := by unfold lowOf; split <;> omega
          have hb : highOf x k T.nodes.length ≤ T.nodes.length + 1 := by unfold highOf; split <;> omega
          exact ⟨.grow1 l3 (by omega) ⟨_, rfl, by omega⟩ ⟨_, rfl, by omega⟩ (hs.ext te) ⟨_, rfl, by omega⟩, by simp [dep]⟩
      · show Gd _ (F_bst_Tree_insert_2 (F_step n) T M C s k th) _ _ _ _
        unfold F_bst_Tree_insert_2
        rw [e, is_ok hx, hk, hw]
        simp only [Option.bind_some, Bool.false_eq_true, if_false]
        rw [wstate_ok w (by omega), w4]
        simp only [Option.bind_some]
        rw [if_neg (by simp), show (⟨M.cells, M.count⟩ : Omem_Mem) = M from rfl, grow_no I.len.2 hc]
        simp only [Option.bind_some]
        rw [if_pos (by rfl)]
        exact Gd.end_ I
    · show Gd _ (F_bst_Tree_insert_2 (F_step n) T M C s k th) _ _ _ _
      unfold F_bst_Tree_insert_2
      rw [e, is_ok hx, hk]
      simp only [Option.bind_some, Bool.false_eq_true, if_false]
      rw [hw, wstate_ok w (by omega)]
      simp only [Option.bind_some, rb]
      rw [if_pos (by simp; omega)]
      exact help_gd Hr I hj ⟨w, rfl, hw2⟩ h
theorem rem_help1 (Hr : RcOk (F_step n) n) {s : Tbst_seen} {k x : Tbst_node} {th : Clo} {i w : Nat} (I : SI T M j) (hj : j ≤ 300000) (e : s.leaf = (i : Int)) (hx : T.nodes[i]? = some x) (hk : isKey x k = true) (hw : s.grandWord = (w : Int)) (hw2 : w / 4 < T.infos.length) (w4 : w % 4 ≠ 0) (h : Ct T .u th) : Gd (n ≤ dep th) (F_bst_Tree_remove_2 (F_step n) T M C s k th) T M j (dep th + 4) := by
  have b2 := I.b2
  unfold F_bst_Tree_remove_2
  rw [e, is_ok hx, hk, hw, Option.bind_some]
  rw [if_neg (by simp), wstate_ok w (by omega), Option.bind_some]
  rw [if_pos (by simp; omega), rb]
  exact help_gd Hr I hj ⟨w, rfl, hw2⟩ h
theorem rem_help2 (Hr : RcOk (F_step n) n) {s : Tbst_seen} {k x : Tbst_node} {th : Clo} {i w v : Nat} (I : SI T M j) (hj : j ≤ 300000) (e : s.leaf = (i : Int)) (hx : T.nodes[i]? = some x) (hk : isKey x k = true) (hw : s.grandWord = (w : Int)) (hw2 : w / 4 < T.infos.length) (w4 : w % 4 = 0) (hv : s.parentWord = (v : Int)) (hv2 : v / 4 < T.infos.length) (v4 : v % 4 ≠ 0) (h : Ct T .u th) : Gd (n ≤ dep th) (F_bst_Tree_remove_2 (F_step n) T M C s k th) T M j (dep th + 4) := by
  have b2 := I.b2
  unfold F_bst_Tree_remove_2
  rw [e, is_ok hx, hk, hw, hv, Option.bind_some]
  rw [if_neg (by simp), wstate_ok w (by omega), w4, Option.bind_some]
  rw [if_neg (by simp), wstate_ok v (by omega), Option.bind_some]
  rw [if_pos (by simp; omega), rb]
  exact help_gd Hr I hj ⟨v, rfl, hv2⟩ h
theorem remove2_gd (Hr : RcOk (F_step n) n) {s : Tbst_seen} {k : Tbst_node} {th : Clo} (I : SI T M j) (hj : j ≤ 300000) (hs : Sn T s) (h : Ct T .u th) : Gd (n ≤ dep th) (F_step (n + 1) T M C (.c_remove_2 k th) (.s s)) T M j (dep th + 4) := by
  obtain ⟨i, x, e, hx, e2, hm⟩ := I.node hs.l
  have b1 := I.b1
  have b2 := I.b2
  obtain ⟨w, hw, hw2⟩ := hs.gw
  obtain ⟨v, hv, hv2⟩ := hs.pw
  obtain ⟨p, pc, px, hp, hp2, hp3⟩ := hs.p
  obtain ⟨g, gc, gx, hg, hg2, hg3⟩ := hs.g
  by_cases hk : isKey x k = true
  · by_cases w4 : w % 4 = 0
    · by_cases v4 : v % 4 = 0
      · rw [rem_begin (n := n) e hg hp hx hk hw w4 (by omega) hv v4 (by omega) (by omega)]
        generalize hT' : (⟨T.nodes, T.infos ++ [⟨(g : Int), (p : Int), (i : Int), 0, (v : Int)⟩]⟩ : Obst_Tree) = T'
        have hN' : T'.nodes = T.nodes := by rw [← hT']
        have hI' : T'.infos = T.infos ++ [⟨(g : Int), (p : Int), (i : Int), 0, (v : Int)⟩] := by rw [← hT']
        have te : TE T T' := ⟨⟨[], by rw [hN']; simp⟩, ⟨_, hI'⟩⟩
        have hlI : T'.infos.length = T.infos.length + 1 := by rw [hI']; simp
        refine .inl ⟨_, T', _, C, rfl, te, ⟨fun y hy => I.nodes y (by rw [hN'] at hy; exact hy), I.root.ext te, by have := I.one; omega, fun a v hv => ⟨fun q => ((I.cells a v hv).1 q).ext te, fun q => ((I.cells a v hv).2 q).ext te⟩, I.len, fun y hy => ?_, by rw [hN']; omega, by omega⟩, rfl, fun y hy => ?_⟩
        · rw [hI'] at hy
          rcases List.mem_append.mp hy with q | q
          · exact (I.infos y q).ext te
          · rw [List.mem_singleton] at q
            rw [q]
            exact ⟨(show Inn T' (g : Int) from by rw [← hg]; exact hs.g.ext te), (show Inn T' (p : Int) from by rw [← hp]; exact hs.p.ext te), (show Ndx T' (i : Int) from by rw [← e]; exact hs.l.ext te), I.root.ndx.ext te⟩
        · cases hy
          exact ⟨.rem21 (hs.ext te) ⟨_, rfl, by omega⟩ (h.ext te), by simp only [dep]; omega⟩
      · exact rem_help2 Hr I hj e hx hk hw hw2 w4 hv hv2 v4 h
    · exact rem_help1 Hr I hj e hx hk hw hw2 w4 h
  · rw [rem_none e hx (by simpa using hk)]
    exact Gd.end_ I
theorem find_gd {s : Tbst_seen} {k : Tbst_node} (I : SI T M j) (hs : Sn T s) : Gd fu (F_step (n + 1) T M C (.c_Find_1_1 k) (.s s)) T M j 4 := by
  obtain ⟨i, x, e, hx, e2, hm⟩ := I.node hs.l
  rw [find_ok e hx]
  exact Gd.end_ I
theorem seek_gd {s : Tbst_seen} {k : Tbst_node} (I : SI T M j) (hs : Sn T s) : Gd fu (F_step (n + 1) T M C (.c_Seek_1_1 k) (.s s)) T M j 4 := by
  obtain ⟨i, x, e, hx, e2, hm⟩ := I.node hs.l
  show Gd _ (F_bst_Tree_Seek_1_1 (F_step n) T M C s k) _ _ _ _
  unfold F_bst_Tree_Seek_1_1
  rw [e2]
  simp only [Option.bind_some, less_ok]
  have : ∃ b, (if (x.top == 0) = true then some (!lessN x k) else some false : Option Bool) = some b := by split <;> exact ⟨_, rfl⟩
  obtain ⟨b, hb⟩ := this
  rw [hb]
  simp only [Option.bind_some, rb, tell_ok]
  split
  · exact Gd.end_ I
  · split
    · exact Gd.end_ I
    · rename_i q
      rcases hs.t with w | w
      · exact absurd (decide_eq_true w) q
      · obtain ⟨c, hc⟩ := cell3 w I 2 (by omega)
        rw [show (2 : Int) = ((2 : Nat) : Int) from rfl, hc]
        simp only [Option.bind_some]
        exact .to I (.least (by omega)) (by simp [dep])
end
/-- What is gone on with at once. -/
theorem step_rc : ∀ n, RcOk (F_step n) n := by
  intro n
  induction n with
  | zero => intro T M j C kd c a hc ha I hj; exact .inr ⟨rfl, by omega⟩
  | succ n ih =>
    intro T M j C kd c a hc ha I hj
    cases hc with
    | seek => cases a <;> simp only [AOk] at ha; exact (seek_gd (fu := False) I ha).imp (fun f => f.elim) (by omega)
    | find => cases a <;> simp only [AOk] at ha; exact (find_gd (fu := False) I ha).imp (fun f => f.elim) (by omega)
    | ins h => cases a <;> simp only [AOk] at ha; exact (insert2_gd ih I hj ha h).imp (fun f => by simp only [dep]; omega) (by simp only [dep]; omega)
    | rem h => cases a <;> simp only [AOk] at ha; exact (remove2_gd ih I hj ha h).imp (fun f => by simp only [dep]; omega) (by simp only [dep]; omega)
    | @ins1 k =>
      cases a <;> simp only [AOk] at ha
      show Gd _ (F_bst_Tree_insert_1 (F_step n) T M C k) _ _ _ _
      unfold F_bst_Tree_insert_1
      rw [rb]
      exact (insert_to (fu := False) I).imp (fun f => f.elim) (by omega)
    | @rem1 k =>
      cases a <;> simp only [AOk] at ha
      show Gd _ (F_bst_Tree_remove_1 (F_step n) T M C k) _ _ _ _
      unfold F_bst_Tree_remove_1
      rw [rb]
      exact (remove_to (fu := False) I).imp (fun f => f.elim) (by omega)
    | @rem211 th v h =>
      cases a <;> simp only [AOk] at ha
      rename_i b
      show Gd _ (F_bst_Tree_remove_2_1_1 (F_step n) T M C b th v) _ _ _ _
      unfold F_bst_Tree_remove_2_1_1
      simp only [rb, tell_ok]
      split
      · exact (ih T M j C .u th .u h trivial I hj).imp (fun f => by simp only [dep]; omega) (by simp only [dep]; omega)
      · exact Gd.end_ I
    | @help1 th h =>
      cases a <;> simp only [AOk] at ha
      rename_i b
      show Gd _ (F_bst_Tree_help_1 (F_step n) T M C b th) _ _ _ _
      unfold F_bst_Tree_help_1
      rw [rb]
      exact (ih T M j C .u th .u h trivial I hj).imp (fun f => by simp only [dep]; omega) (by simp only [dep]; omega)
    | @grow3 k =>
      cases a <;> simp only [AOk] at ha
      show Gd _ (F_bst_Tree_grow_1_1_1_1 (F_step n) T M C k) _ _ _ _
      unfold F_bst_Tree_grow_1_1_1_1
      rw [rb]
      exact (insert_to (fu := False) I).imp (fun f => f.elim) (by omega)
    | @grow4 k =>
      cases a <;> simp only [AOk] at ha
      show Gd _ (F_bst_Tree_grow_1_1_1_2 (F_step n) T M C k) _ _ _ _
      unfold F_bst_Tree_grow_1_1_1_2
      rw [rb]
      exact Gd.end_ I
    | @loses11 th h =>
      cases a <;> simp only [AOk] at ha
      show Gd _ (F_bst_Tree_loses_1_1 (F_step n) T M C th) _ _ _ _
      unfold F_bst_Tree_loses_1_1
      rw [rb]
      exact (ih T M j C .b th (.b true) h trivial I hj).imp (fun f => by simp only [dep]; omega) (by simp only [dep]; omega)
    | @loses12 y i th hy hi h =>
      cases a <;> simp only [AOk] at ha
      show Gd _ (F_bst_Tree_loses_1_2 (F_step n) T M C y i th) _ _ _ _
      unfold F_bst_Tree_loses_1_2
      rw [rb]
      exact (clean_gd (fu := False) I hy.g hi (.loses121 h)).imp (fun f => f.elim) (by simp only [dep]; omega)
    | @loses121 th h =>
      cases a <;> simp only [AOk] at ha
      show Gd _ (F_bst_Tree_loses_1_2_1 (F_step n) T M C th) _ _ _ _
      unfold F_bst_Tree_loses_1_2_1
      rw [rb]
      exact (ih T M j C .b th (.b false) h trivial I hj).imp (fun f => by simp only [dep]; omega) (by simp only [dep]; omega)
    | @grows1 y i th hy hi h =>
      cases a <;> simp only [AOk] at ha
      show Gd _ (F_bst_Tree_grows_1 (F_step n) T M C y i th) _ _ _ _
      unfold F_bst_Tree_grows_1
      rw [rb]
      exact (clean_gd (fu := False) I hy.p hi h).imp (fun f => f.elim) (by simp only [dep]; omega)
    | @goes1 y i th hy hi h =>
      cases a <;> simp only [AOk] at ha
      rename_i w
      show Gd _ (F_bst_Tree_goes_1 (F_step n) T M C w y i th) _ _ _ _
      unfold F_bst_Tree_goes_1
      rw [rb]
      have hw : IntKind.i64.wrap w = w := by
        obtain ⟨m, rfl, hm⟩ := ha
        have := I.b1
        exact wrap_id (by omega) (by omega)
      rw [hw]
      exact (turn_gd (fu := False) I hy.g ha (.goes11 hy hi h)).imp (fun f => f.elim) (by simp only [dep]; omega)
    | @goes11 y i th hy hi h =>
      cases a <;> simp only [AOk] at ha
      show Gd _ (F_bst_Tree_goes_1_1 (F_step n) T M C y i th) _ _ _ _
      unfold F_bst_Tree_goes_1_1
      rw [rb]
      exact (clean_gd (fu := False) I hy.g hi h).imp (fun f => f.elim) (by simp only [dep]; omega)
end Go.Proofs.Ytndhbaidibioeaa.V
