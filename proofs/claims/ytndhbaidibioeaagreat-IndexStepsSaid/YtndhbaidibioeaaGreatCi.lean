/- Closures of the layer above, and how they lie.
   No condition: these are laws of the clean machine and of this program. -/
import Derived.Test.YtndhbaidibioeaaGreatZs
namespace Go.Proofs.YtndhbaidibioeaaGreat.V
open Go
set_option linter.unusedVariables false
set_option linter.unusedSimpArgs false
set_option maxRecDepth 100000
def Zchain_Store (h : Heap) (bw107 b0 : Nat) (s : List Blk) (x0 : Ochain_Store) : Prop := ∃ q_1 t_1, s = List.flatten [[⟨b0, .cells [.pointer (some ⟨bw107, 0, none⟩), .slice q_1 x0.all.length x0.all.length] 161⟩], t_1] ∧ AccR R_Tchain_version 175 h t_1 (.slice q_1 x0.all.length x0.all.length) x0.all
theorem Zchain_Store.ext {h h' : Heap} {bw107 b0 : Nat} {s : List Blk} {x0 : Ochain_Store} (y : Zchain_Store h bw107 b0 s x0) (e : Kn h h') : Zchain_Store h' bw107 b0 s x0 := by
 obtain ⟨q_1, t_1, rfl, f0⟩ := y
 exact ⟨q_1, t_1, rfl, f0.ext e⟩
theorem Zchain_Store.nd {h : Heap} {bw107 b0 : Nat} {s : List Blk} {x0 : Ochain_Store} (y : Zchain_Store h bw107 b0 s x0) : ∀ e ∈ s, e.o ≠ .dead := by
 obtain ⟨q_1, t_1, rfl, f0⟩ := y
 exact (ndb (by intro e; cases e) (ndt f0 nd0))
def Zindex_Index (h : Heap) (b0 b1 b2 b3 : Nat) (s : List Blk) (x0 : Obst_Tree) (x1 : Omem_Mem) (x2 : Ochain_Store) : Prop := ∃ z_0 z_1, s = List.flatten [[⟨b0, .cells [.pointer (some ⟨b1, 0, none⟩), .pointer (some ⟨b3, 0, none⟩), .pointer (some ⟨b2, 0, none⟩)] 91⟩], z_0, z_1] ∧ Zbst_Tree h b1 b2 z_0 x0 x1 ∧ Zchain_Store h b2 b3 z_1 x2
theorem Zindex_Index.ext {h h' : Heap} {b0 b1 b2 b3 : Nat} {s : List Blk} {x0 : Obst_Tree} {x1 : Omem_Mem} {x2 : Ochain_Store} (y : Zindex_Index h b0 b1 b2 b3 s x0 x1 x2) (e : Kn h h') : Zindex_Index h' b0 b1 b2 b3 s x0 x1 x2 := by
 obtain ⟨z_0, z_1, rfl, f0, f1⟩ := y
 exact ⟨z_0, z_1, rfl, f0.ext e, f1.ext e⟩
theorem Zindex_Index.nd {h : Heap} {b0 b1 b2 b3 : Nat} {s : List Blk} {x0 : Obst_Tree} {x1 : Omem_Mem} {x2 : Ochain_Store} (y : Zindex_Index h b0 b1 b2 b3 s x0 x1 x2) : ∀ e ∈ s, e.o ≠ .dead := by
 obtain ⟨z_0, z_1, rfl, f0, f1⟩ := y
 exact (ndb (by intro e; cases e) (nd1 f0.nd (nd1 f1.nd nd0)))
def Zindex_Work (h : Heap) (bw91 b0 : Nat) (s : List Blk) (x0 : Oindex_Work) : Prop := ∃ v_1 q_4 t_4, s = List.flatten [[⟨b0, .cells [.pointer (some ⟨bw91, 0, none⟩), v_1, .int .i64 x0.cell, .int .i64 x0.bad, .slice q_4 x0.found.length x0.found.length] 88⟩], t_4] ∧ AccR R_TKV 56 h t_4 (.slice q_4 x0.found.length x0.found.length) x0.found
theorem Zindex_Work.ext {h h' : Heap} {bw91 b0 : Nat} {s : List Blk} {x0 : Oindex_Work} (y : Zindex_Work h bw91 b0 s x0) (e : Kn h h') : Zindex_Work h' bw91 b0 s x0 := by
 obtain ⟨v_1, q_4, t_4, rfl, f0⟩ := y
 exact ⟨v_1, q_4, t_4, rfl, f0.ext e⟩
theorem Zindex_Work.nd {h : Heap} {bw91 b0 : Nat} {s : List Blk} {x0 : Oindex_Work} (y : Zindex_Work h bw91 b0 s x0) : ∀ e ∈ s, e.o ≠ .dead := by
 obtain ⟨v_1, q_4, t_4, rfl, f0⟩ := y
 exact (ndb (by intro e; cases e) (ndt f0 nd0))
def Zchain_Put (h : Heap) (bw161 b0 : Nat) (s : List Blk) (x0 : Ochain_Put) : Prop := s = List.flatten [[⟨b0, .cells [.pointer (some ⟨bw161, 0, none⟩), .int .i64 x0.cell, .int .i64 x0.e_Rev, .string x0.e_Key, .string x0.e_Val, .bool x0.e_Del, .int .u64 x0.last, .bool x0.seen, .bool x0.done] 163⟩]]
theorem Zchain_Put.ext {h h' : Heap} {bw161 b0 : Nat} {s : List Blk} {x0 : Ochain_Put} (y : Zchain_Put h bw161 b0 s x0) (e : Kn h h') : Zchain_Put h' bw161 b0 s x0 := by
 obtain rfl := y
 exact rfl
theorem Zchain_Put.nd {h : Heap} {bw161 b0 : Nat} {s : List Blk} {x0 : Ochain_Put} (y : Zchain_Put h bw161 b0 s x0) : ∀ e ∈ s, e.o ≠ .dead := by
 obtain rfl := y
 exact (ndb (by intro e; cases e) nd0)
inductive COi (h : Heap) (bw91 bw131 bw107 bw161 bw88 : Nat) : Option Nat → List Blk → Cli → Value → Prop
 | c_Index_Get_1_1 {q0 bo : Nat} {q1 : Nat} {q2 : Nat} {x0 : Int}  (g0 : BK h q0 [.pointer (some ⟨bo, 0, none⟩)] 85) (g1 : BK h q1 [.pointer (some ⟨bw88, 0, none⟩)] 32) (g2 : BK h q2 [.int .i64 x0] 3)  : COi h bw91 bw131 bw107 bw161 bw88 (some bo) [] (.c_Index_Get_1_1 x0) (.func (.func 43) #[] #[.pointer (some ⟨q0, 0, none⟩), .pointer (some ⟨q1, 0, none⟩), .pointer (some ⟨q2, 0, none⟩)])
 | c_end    : COi h bw91 bw131 bw107 bw161 bw88 none [] (.c_end ) (.func (.func 46) #[] #[])
 | c_Index_Put_1_1 {q0 : Nat} {q1 : Nat} {q2 : Nat} {x0 : TEvent}  (g0 : BK h q0 [.pointer (some ⟨bw91, 0, none⟩)] 27) (g1 : BK h q1 [.pointer (some ⟨bw88, 0, none⟩)] 32) (g2 : BK h q2 [.int .i64 x0.Rev, .string x0.Key, .string x0.Val, .bool x0.Del] 36)  : COi h bw91 bw131 bw107 bw161 bw88 none [] (.c_Index_Put_1_1 x0) (.func (.func 55) #[] #[.pointer (some ⟨q0, 0, none⟩), .pointer (some ⟨q1, 0, none⟩), .pointer (some ⟨q2, 0, none⟩)])
 | c_after_1 {y0 : Obst_Call_2} {seg : List Blk} {q0 bo : Nat} {q1 : Nat} {v1 : Value} {x0 : Cli} {q2 : Nat} (g0 : BK h q0 [.iface 85 (.pointer (some ⟨bo, 0, none⟩))] 144) (g1 : BK h q1 [v1] 83) (k1 : COi h bw91 bw131 bw107 bw161 bw88 (some bo) [] x0 v1) (g2 : BK h q2 [.func (.func 77) #[] #[.pointer (some ⟨q0, 0, none⟩), .pointer (some ⟨q1, 0, none⟩), .pointer (some ⟨q2, 0, none⟩)]] 84) (z : Zbst_Call_2 h bw131 bo seg y0) : COi h bw91 bw131 bw107 bw161 bw88 none seg (.c_after_1 y0 x0) (.func (.func 77) #[] #[.pointer (some ⟨q0, 0, none⟩), .pointer (some ⟨q1, 0, none⟩), .pointer (some ⟨q2, 0, none⟩)])
 | c_after_1_v1 {y0 : Ochain_Put} {seg : List Blk} {q0 bo : Nat} {q1 : Nat} {v1 : Value} {x0 : Cli} {q2 : Nat} (g0 : BK h q0 [.iface 108 (.pointer (some ⟨bo, 0, none⟩))] 144) (g1 : BK h q1 [v1] 83) (k1 : COi h bw91 bw131 bw107 bw161 bw88 none [] x0 v1) (g2 : BK h q2 [.func (.func 77) #[] #[.pointer (some ⟨q0, 0, none⟩), .pointer (some ⟨q1, 0, none⟩), .pointer (some ⟨q2, 0, none⟩)]] 84) (z : Zchain_Put h bw161 bo seg y0) : COi h bw91 bw131 bw107 bw161 bw88 none seg (.c_after_1_v1 y0 x0) (.func (.func 77) #[] #[.pointer (some ⟨q0, 0, none⟩), .pointer (some ⟨q1, 0, none⟩), .pointer (some ⟨q2, 0, none⟩)])
 | c_Work_look_1 {q0 : Nat} {q1 : Nat} {x0 : Int}  {q2 : Nat} {x1 : Int}  {q3 : Nat} {v3 : Value} {x2 : Cli} (g0 : BK h q0 [.pointer (some ⟨bw88, 0, none⟩)] 32) (g1 : BK h q1 [.int .u64 x0] 93) (g2 : BK h q2 [.int .i64 x1] 3) (g3 : BK h q3 [v3] 83) (k3 : COi h bw91 bw131 bw107 bw161 bw88 none [] x2 v3)  : COi h bw91 bw131 bw107 bw161 bw88 none [] (.c_Work_look_1 x0 x1 x2) (.func (.func 78) #[] #[.pointer (some ⟨q0, 0, none⟩), .pointer (some ⟨q1, 0, none⟩), .pointer (some ⟨q2, 0, none⟩), .pointer (some ⟨q3, 0, none⟩)])
 | c_Work_walk_1 {q0 bo : Nat} {q1 : Nat} {x0 : TRange}  {q2 : Nat} {q3 : Nat} {x1 : Int}  (g0 : BK h q0 [.pointer (some ⟨bo, 0, none⟩)] 85) (g1 : BK h q1 [.string x0.From, .string x0.To] 24) (g2 : BK h q2 [.pointer (some ⟨bw88, 0, none⟩)] 32) (g3 : BK h q3 [.int .i64 x1] 3)  : COi h bw91 bw131 bw107 bw161 bw88 (some bo) [] (.c_Work_walk_1 x0 x1) (.func (.func 82) #[] #[.pointer (some ⟨q0, 0, none⟩), .pointer (some ⟨q1, 0, none⟩), .pointer (some ⟨q2, 0, none⟩), .pointer (some ⟨q3, 0, none⟩)])
 | c_Work_walk_1_1 {q0 : Nat} {q1 : Nat} {x0 : TRange}  {q2 : Nat} {x1 : Tbst_Answer}  {q3 : Nat} {x2 : Int}  (g0 : BK h q0 [.pointer (some ⟨bw88, 0, none⟩)] 32) (g1 : BK h q1 [.string x0.From, .string x0.To] 24) (g2 : BK h q2 [.bool x1.Ok, .string x1.Key, .int .u64 x1.Val, .int .i64 x1.Err] 95) (g3 : BK h q3 [.int .i64 x2] 3)  : COi h bw91 bw131 bw107 bw161 bw88 none [] (.c_Work_walk_1_1 x0 x1 x2) (.func (.func 84) #[] #[.pointer (some ⟨q0, 0, none⟩), .pointer (some ⟨q1, 0, none⟩), .pointer (some ⟨q2, 0, none⟩), .pointer (some ⟨q3, 0, none⟩)])
 | c_Work_ensure_1 {q0 bo : Nat} {q1 : Nat} {q2 : Nat} {v2 : Value} {x0 : Cli} {q3 : Nat} {x1 : ByteArray}  (g0 : BK h q0 [.pointer (some ⟨bo, 0, none⟩)] 85) (g1 : BK h q1 [.pointer (some ⟨bw88, 0, none⟩)] 32) (g2 : BK h q2 [v2] 83) (k2 : COi h bw91 bw131 bw107 bw161 bw88 none [] x0 v2) (g3 : BK h q3 [.string x1] 9)  : COi h bw91 bw131 bw107 bw161 bw88 (some bo) [] (.c_Work_ensure_1 x0 x1) (.func (.func 86) #[] #[.pointer (some ⟨q0, 0, none⟩), .pointer (some ⟨q1, 0, none⟩), .pointer (some ⟨q2, 0, none⟩), .pointer (some ⟨q3, 0, none⟩)])
 | c_Work_ensure_1_1 {q0 bo : Nat} {q1 : Nat} {q2 : Nat} {v2 : Value} {x0 : Cli} (g0 : BK h q0 [.pointer (some ⟨bo, 0, none⟩)] 85) (g1 : BK h q1 [.pointer (some ⟨bw88, 0, none⟩)] 32) (g2 : BK h q2 [v2] 83) (k2 : COi h bw91 bw131 bw107 bw161 bw88 none [] x0 v2)  : COi h bw91 bw131 bw107 bw161 bw88 (some bo) [] (.c_Work_ensure_1_1 x0) (.func (.func 88) #[] #[.pointer (some ⟨q0, 0, none⟩), .pointer (some ⟨q1, 0, none⟩), .pointer (some ⟨q2, 0, none⟩)])
 | w146 {bo : Nat} {seg : List Blk} {th : Cli} {v : Value} {y0 : Obst_Call_2} (k : COi h bw91 bw131 bw107 bw161 bw88 (some bo) [] th v) (z : Zbst_Call_2 h bw131 bo seg y0) : COi h bw91 bw131 bw107 bw161 bw88 none seg (.w146 y0 th) v
theorem COi.ext {h h' : Heap} {bw91 bw131 bw107 bw161 bw88 : Nat} {o : Option Nat} {seg : List Blk} {x : Cli} {v : Value} (c : COi h bw91 bw131 bw107 bw161 bw88 o seg x v) (e : Kn h h') : COi h' bw91 bw131 bw107 bw161 bw88 o seg x v := by
 induction c with
 | c_Index_Get_1_1 g0 g1 g2 => exact .c_Index_Get_1_1 (g0.ext e) (g1.ext e) (g2.ext e)
 | c_end  => exact .c_end
 | c_Index_Put_1_1 g0 g1 g2 => exact .c_Index_Put_1_1 (g0.ext e) (g1.ext e) (g2.ext e)
 | c_after_1 g0 g1 k1 g2 z ik1 => exact .c_after_1 (g0.ext e) (g1.ext e) ik1 (g2.ext e) (z.ext e)
 | c_after_1_v1 g0 g1 k1 g2 z ik1 => exact .c_after_1_v1 (g0.ext e) (g1.ext e) ik1 (g2.ext e) (z.ext e)
 | c_Work_look_1 g0 g1 g2 g3 k3 ik3 => exact .c_Work_look_1 (g0.ext e) (g1.ext e) (g2.ext e) (g3.ext e) ik3
 | c_Work_walk_1 g0 g1 g2 g3 => exact .c_Work_walk_1 (g0.ext e) (g1.ext e) (g2.ext e) (g3.ext e)
 | c_Work_walk_1_1 g0 g1 g2 g3 => exact .c_Work_walk_1_1 (g0.ext e) (g1.ext e) (g2.ext e) (g3.ext e)
 | c_Work_ensure_1 g0 g1 g2 k2 g3 ik2 => exact .c_Work_ensure_1 (g0.ext e) (g1.ext e) (g2.ext e) ik2 (g3.ext e)
 | c_Work_ensure_1_1 g0 g1 g2 k2 ik2 => exact .c_Work_ensure_1_1 (g0.ext e) (g1.ext e) (g2.ext e) ik2
 | w146 k z ik => exact .w146 ik (z.ext e)
theorem COi.nd {h : Heap} {bw91 bw131 bw107 bw161 bw88 : Nat} {o : Option Nat} {seg : List Blk} {x : Cli} {v : Value} (c : COi h bw91 bw131 bw107 bw161 bw88 o seg x v) : ∀ e ∈ seg, e.o ≠ .dead := by
 cases c with
 | c_Index_Get_1_1 g0 g1 g2 => intro e he; cases he
 | c_end  => intro e he; cases he
 | c_Index_Put_1_1 g0 g1 g2 => intro e he; cases he
 | c_after_1 g0 g1 k1 g2 z => exact z.nd
 | c_after_1_v1 g0 g1 k1 g2 z => exact z.nd
 | c_Work_look_1 g0 g1 g2 g3 k3 => intro e he; cases he
 | c_Work_walk_1 g0 g1 g2 g3 => intro e he; cases he
 | c_Work_walk_1_1 g0 g1 g2 g3 => intro e he; cases he
 | c_Work_ensure_1 g0 g1 g2 k2 g3 => intro e he; cases he
 | c_Work_ensure_1_1 g0 g1 g2 k2 => intro e he; cases he
 | w146 k z => exact z.nd
theorem COi.fn {h : Heap} {bw91 bw131 bw107 bw161 bw88 : Nat} {o : Option Nat} {seg : List Blk} {x : Cli} {v : Value} (c : COi h bw91 bw131 bw107 bw161 bw88 o seg x v) : ∃ g ca, v = .func (.func g) #[] ca := by
 induction c <;> first | exact ⟨_, _, rfl⟩ | assumption
theorem COi.one {h : Heap} {bw91 bw131 bw107 bw161 bw88 : Nat} {o : Option Nat} {seg : List Blk} {x : Cli} {v : Value} (c : COi h bw91 bw131 bw107 bw161 bw88 o seg x v) : v.cells.toList = [v] := by obtain ⟨_, _, rfl⟩ := c.fn; rfl
theorem COi.sz {h : Heap} {bw91 bw131 bw107 bw161 bw88 : Nat} {o : Option Nat} {seg : List Blk} {x : Cli} {v : Value} (c : COi h bw91 bw131 bw107 bw161 bw88 o seg x v) : Nat.beq v.cells.size 1 = true := by obtain ⟨_, _, rfl⟩ := c.fn; rfl
theorem COi.okc {h : Heap} {bw91 bw131 bw107 bw161 bw88 : Nat} {o : Option Nat} {seg : List Blk} {x : Cli} {v : Value} (c : COi h bw91 bw131 bw107 bw161 bw88 o seg x v) : [v].all cellOk = true := by obtain ⟨_, _, rfl⟩ := c.fn; rfl
inductive OCi (h : Heap) (bw91 bw131 bw107 bw161 bw88 : Nat) : List Blk → Option Cli → Value → Prop
 | none : OCi h bw91 bw131 bw107 bw161 bw88 [] none .nilFunc
 | some {seg : List Blk} {x : Cli} {v : Value} (c : COi h bw91 bw131 bw107 bw161 bw88 none seg x v) : OCi h bw91 bw131 bw107 bw161 bw88 seg (some x) v
theorem OCi.ext {h h' : Heap} {bw91 bw131 bw107 bw161 bw88 : Nat} {seg : List Blk} {x : Option Cli} {v : Value} (c : OCi h bw91 bw131 bw107 bw161 bw88 seg x v) (e : Kn h h') : OCi h' bw91 bw131 bw107 bw161 bw88 seg x v := by
 cases c with
 | none => exact .none
 | some c => exact .some (c.ext e)
theorem OCi.nd {h : Heap} {bw91 bw131 bw107 bw161 bw88 : Nat} {seg : List Blk} {x : Option Cli} {v : Value} (c : OCi h bw91 bw131 bw107 bw161 bw88 seg x v) : ∀ e ∈ seg, e.o ≠ .dead := by
 cases c with
 | none => intro e he; cases he
 | some c => exact c.nd
theorem OCi.one {h : Heap} {bw91 bw131 bw107 bw161 bw88 : Nat} {seg : List Blk} {x : Option Cli} {v : Value} (c : OCi h bw91 bw131 bw107 bw161 bw88 seg x v) : v.cells.toList = [v] := by
 cases c with
 | none => rfl
 | some c => exact c.one
theorem OCi.sz {h : Heap} {bw91 bw131 bw107 bw161 bw88 : Nat} {seg : List Blk} {x : Option Cli} {v : Value} (c : OCi h bw91 bw131 bw107 bw161 bw88 seg x v) : Nat.beq v.cells.size 1 = true := by
 cases c with
 | none => rfl
 | some c => exact c.sz
theorem OCi.okc {h : Heap} {bw91 bw131 bw107 bw161 bw88 : Nat} {seg : List Blk} {x : Option Cli} {v : Value} (c : OCi h bw91 bw131 bw107 bw161 bw88 seg x v) : [v].all cellOk = true := by
 cases c with
 | none => rfl
 | some c => exact c.okc
theorem OCi.get {h : Heap} {bw91 bw131 bw107 bw161 bw88 : Nat} {seg : List Blk} {x : Option Cli} {y : Cli} {v : Value} (c : OCi h bw91 bw131 bw107 bw161 bw88 seg x v) (e : x = Option.some y) : COi h bw91 bw131 bw107 bw161 bw88 Option.none seg y v := by
 cases c with
 | none => cases e
 | some c => cases e; exact c
theorem OCi.eqn {h : Heap} {bw91 bw131 bw107 bw161 bw88 : Nat} {seg : List Blk} {x : Option Cli} {v : Value} (c : OCi h bw91 bw131 bw107 bw161 bw88 seg x v) : binV EE .eql 84 v .nilFunc = Option.some (Value.bool x.isNone) := by
 cases c with
 | none => kernel_rfl
 | some c => obtain ⟨_, _, rfl⟩ := c.fn; kernel_rfl
theorem OCi.nen {h : Heap} {bw91 bw131 bw107 bw161 bw88 : Nat} {seg : List Blk} {x : Option Cli} {v : Value} (c : OCi h bw91 bw131 bw107 bw161 bw88 seg x v) : binV EE .neq 84 v .nilFunc = Option.some (Value.bool x.isSome) := by
 cases c with
 | none => kernel_rfl
 | some c => obtain ⟨_, _, rfl⟩ := c.fn; kernel_rfl
theorem ndci {h : Heap} {bw91 bw131 bw107 bw161 bw88 : Nat} {seg : List Blk} {x : Option Cli} {v : Value} {r : List (List Blk)} (c : OCi h bw91 bw131 bw107 bw161 bw88 seg x v) (k : ∀ e ∈ r.flatten, e.o ≠ .dead) : ∀ e ∈ (seg :: r : List (List Blk)).flatten, e.o ≠ .dead := nd1 c.nd k
def Zindex_Work_2 (h : Heap) (bw91 bw107 bw131 bw161 b0 : Nat) (s : List Blk) (x0 : Oindex_Work_2) : Prop := ∃ v_1 t_1 q_4 t_4, s = List.flatten [[⟨b0, .cells [.pointer (some ⟨bw91, 0, none⟩), v_1, .int .i64 x0.cell, .int .i64 x0.bad, .slice q_4 x0.found.length x0.found.length] 88⟩], t_1, t_4] ∧ OCi h bw91 bw131 bw107 bw161 b0 t_1 x0.next v_1 ∧ AccR R_TKV 56 h t_4 (.slice q_4 x0.found.length x0.found.length) x0.found
theorem Zindex_Work_2.ext {h h' : Heap} {bw91 bw107 bw131 bw161 b0 : Nat} {s : List Blk} {x0 : Oindex_Work_2} (y : Zindex_Work_2 h bw91 bw107 bw131 bw161 b0 s x0) (e : Kn h h') : Zindex_Work_2 h' bw91 bw107 bw131 bw161 b0 s x0 := by
 obtain ⟨v_1, t_1, q_4, t_4, rfl, f0, f1⟩ := y
 exact ⟨v_1, t_1, q_4, t_4, rfl, f0.ext e, f1.ext e⟩
theorem Zindex_Work_2.nd {h : Heap} {bw91 bw107 bw131 bw161 b0 : Nat} {s : List Blk} {x0 : Oindex_Work_2} (y : Zindex_Work_2 h bw91 bw107 bw131 bw161 b0 s x0) : ∀ e ∈ s, e.o ≠ .dead := by
 obtain ⟨v_1, t_1, q_4, t_4, rfl, f0, f1⟩ := y
 exact (ndb (by intro e; cases e) (ndci f0 (ndt f1 nd0)))
def Argi.vals : Argi → List Value
 | .u => []
def RCiok (rc : RCi) : Prop := ∀ {h : Heap} (_ : Wf h) (p0 : Obst_Tree) (p0o0 : Omem_Mem) (p0o1 : Ochain_Store) (p1 : Oindex_Work) {bp0 bp0_1 bp0_2 bp0_3 : Nat} {z0 : List Blk} {bp1 : Nat} {z1 : List Blk} (_ : Zindex_Index h bp0 bp0_1 bp0_2 bp0_3 z0 p0 p0o0 p0o1) (_ : Zindex_Work h bp0 bp1 z1 p1) (x : Cli) (a : Argi) {v : Value} (seg : List Blk) (_ : COi h bp0 bp0_1 bp0_2 bp0_3 bp1 none seg x v) {r : (Option Cli) × Obst_Tree × Omem_Mem × Ochain_Store × Oindex_Work} (_ : rc p0 p0o0 p0o1 p1 x a = some r), CallV EE v a.vals [z0, z1, seg] h (fun v S h1 => ∃ zy0 zy1 vr tr, v = vr ∧ S = [zy0, zy1, tr] ∧ Zindex_Index h1 bp0 bp0_1 bp0_2 bp0_3 zy0 r.2.1 r.2.2.1 r.2.2.2.1 ∧ Zindex_Work h1 bp0 bp1 zy1 r.2.2.2.2 ∧ OCi h1 bp0 bp0_1 bp0_2 bp0_3 bp1 tr r.1 vr)
end Go.Proofs.YtndhbaidibioeaaGreat.V
