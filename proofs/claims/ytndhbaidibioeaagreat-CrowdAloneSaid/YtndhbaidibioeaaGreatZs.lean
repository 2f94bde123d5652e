/- Objects that are shut.
   No condition: these are laws of the clean machine and of this program. -/
import Derived.Test.YtndhbaidibioeaaGreatCo
import Derived.Test.YtndhbaidibioeaaGreatVo
namespace Go.Proofs.YtndhbaidibioeaaGreat.V
open Go
set_option linter.unusedVariables false
set_option linter.unusedSimpArgs false
set_option maxRecDepth 100000
def Zmem_Mem (h : Heap) (b0 : Nat) (s : List Blk) (x0 : Omem_Mem) : Prop := ∃ q_0 t_0, s = List.flatten [[⟨b0, .cells [.slice q_0 x0.cells.length x0.cells.length, .int .i64 x0.count] 107⟩], t_0] ∧ AccR (RI_ .u64 93) 93 h t_0 (.slice q_0 x0.cells.length x0.cells.length) x0.cells
theorem Zmem_Mem.ext {h h' : Heap} {b0 : Nat} {s : List Blk} {x0 : Omem_Mem} (y : Zmem_Mem h b0 s x0) (e : Kn h h') : Zmem_Mem h' b0 s x0 := by
 obtain ⟨q_0, t_0, rfl, f0⟩ := y
 exact ⟨q_0, t_0, rfl, f0.ext e⟩
theorem Zmem_Mem.nd {h : Heap} {b0 : Nat} {s : List Blk} {x0 : Omem_Mem} (y : Zmem_Mem h b0 s x0) : ∀ e ∈ s, e.o ≠ .dead := by
 obtain ⟨q_0, t_0, rfl, f0⟩ := y
 exact (ndb (by intro e; cases e) (ndt f0 nd0))
def Zbst_Tree (h : Heap) (b0 b1 : Nat) (s : List Blk) (x0 : Obst_Tree) (x1 : Omem_Mem) : Prop := ∃ q_1 t_1 q_2 t_2 z_0, s = List.flatten [[⟨b0, .cells [.pointer (some ⟨b1, 0, none⟩), .slice q_1 x0.nodes.length x0.nodes.length, .slice q_2 x0.infos.length x0.infos.length] 131⟩], t_1, t_2, z_0] ∧ AccR R_Tbst_node 127 h t_1 (.slice q_1 x0.nodes.length x0.nodes.length) x0.nodes ∧ AccR R_Tbst_info 155 h t_2 (.slice q_2 x0.infos.length x0.infos.length) x0.infos ∧ Zmem_Mem h b1 z_0 x1
theorem Zbst_Tree.ext {h h' : Heap} {b0 b1 : Nat} {s : List Blk} {x0 : Obst_Tree} {x1 : Omem_Mem} (y : Zbst_Tree h b0 b1 s x0 x1) (e : Kn h h') : Zbst_Tree h' b0 b1 s x0 x1 := by
 obtain ⟨q_1, t_1, q_2, t_2, z_0, rfl, f0, f1, f2⟩ := y
 exact ⟨q_1, t_1, q_2, t_2, z_0, rfl, f0.ext e, f1.ext e, f2.ext e⟩
theorem Zbst_Tree.nd {h : Heap} {b0 b1 : Nat} {s : List Blk} {x0 : Obst_Tree} {x1 : Omem_Mem} (y : Zbst_Tree h b0 b1 s x0 x1) : ∀ e ∈ s, e.o ≠ .dead := by
 obtain ⟨q_1, t_1, q_2, t_2, z_0, rfl, f0, f1, f2⟩ := y
 exact (ndb (by intro e; cases e) (ndt f0 (ndt f1 (nd1 f2.nd nd0))))
def Zbst_Call (h : Heap) (b0 : Nat) (s : List Blk) (x0 : Obst_Call) : Prop := ∃ v_4, s = List.flatten [[⟨b0, .cells [.bool x0.told_Ok, .string x0.told_Key, .int .u64 x0.told_Val, .int .i64 x0.told_Err, v_4] 146⟩]]
theorem Zbst_Call.ext {h h' : Heap} {b0 : Nat} {s : List Blk} {x0 : Obst_Call} (y : Zbst_Call h b0 s x0) (e : Kn h h') : Zbst_Call h' b0 s x0 := by
 obtain ⟨v_4, rfl⟩ := y
 exact ⟨v_4, rfl⟩
theorem Zbst_Call.nd {h : Heap} {b0 : Nat} {s : List Blk} {x0 : Obst_Call} (y : Zbst_Call h b0 s x0) : ∀ e ∈ s, e.o ≠ .dead := by
 obtain ⟨v_4, rfl⟩ := y
 exact (ndb (by intro e; cases e) nd0)
def Zbst_Call_2 (h : Heap) (bw0 b0 : Nat) (s : List Blk) (x0 : Obst_Call_2) : Prop := ∃ v_4 t_4, s = List.flatten [[⟨b0, .cells [.bool x0.told_Ok, .string x0.told_Key, .int .u64 x0.told_Val, .int .i64 x0.told_Err, v_4] 146⟩], t_4] ∧ OC h bw0 b0 t_4 x0.next v_4
theorem Zbst_Call_2.ext {h h' : Heap} {bw0 b0 : Nat} {s : List Blk} {x0 : Obst_Call_2} (y : Zbst_Call_2 h bw0 b0 s x0) (e : Kn h h') : Zbst_Call_2 h' bw0 b0 s x0 := by
 obtain ⟨v_4, t_4, rfl, f0⟩ := y
 exact ⟨v_4, t_4, rfl, f0.ext e⟩
theorem Zbst_Call_2.nd {h : Heap} {bw0 b0 : Nat} {s : List Blk} {x0 : Obst_Call_2} (y : Zbst_Call_2 h bw0 b0 s x0) : ∀ e ∈ s, e.o ≠ .dead := by
 obtain ⟨v_4, t_4, rfl, f0⟩ := y
 exact (ndb (by intro e; cases e) (ndc f0 nd0))
def Z_string (h : Heap) (b0 : Nat) (s : List Blk) (x0 : O_string) : Prop := ∃ q_0 t_0, s = List.flatten [[⟨b0, .cells [.slice q_0 x0.v.length x0.v.length] 65⟩], t_0] ∧ AccR (RS_ 9) 9 h t_0 (.slice q_0 x0.v.length x0.v.length) x0.v
theorem Z_string.ext {h h' : Heap} {b0 : Nat} {s : List Blk} {x0 : O_string} (y : Z_string h b0 s x0) (e : Kn h h') : Z_string h' b0 s x0 := by
 obtain ⟨q_0, t_0, rfl, f0⟩ := y
 exact ⟨q_0, t_0, rfl, f0.ext e⟩
theorem Z_string.nd {h : Heap} {b0 : Nat} {s : List Blk} {x0 : O_string} (y : Z_string h b0 s x0) : ∀ e ∈ s, e.o ≠ .dead := by
 obtain ⟨q_0, t_0, rfl, f0⟩ := y
 exact (ndb (by intro e; cases e) (ndt f0 nd0))
def ORbst_Call_2 (bw0 : Nat) : OR Obst_Call_2 := ⟨fun h b s x => Zbst_Call_2 h bw0 b s x, fun e c => Zbst_Call_2.ext c e, fun c => Zbst_Call_2.nd c⟩
def Zcrowd_Crowd (h : Heap) (bw0 b0 : Nat) (s : List Blk) (x0 : Ocrowd_Crowd) : Prop := ∃ b_0 t_0 q_1 t_1, s = List.flatten [[⟨b0, .cells [.slice (some ⟨b_0, 0, none⟩) x0.threads.length x0.threads.length, .slice q_1 x0.calls.length x0.calls.length, .int .i64 x0.clock] 122⟩], t_0, t_1] ∧ PO (ORbst_Call_2 bw0) 118 h b_0 t_0 x0.threads ∧ AccR R_Torder_Call 76 h t_1 (.slice q_1 x0.calls.length x0.calls.length) x0.calls
theorem Zcrowd_Crowd.ext {h h' : Heap} {bw0 b0 : Nat} {s : List Blk} {x0 : Ocrowd_Crowd} (y : Zcrowd_Crowd h bw0 b0 s x0) (e : Kn h h') : Zcrowd_Crowd h' bw0 b0 s x0 := by
 obtain ⟨b_0, t_0, q_1, t_1, rfl, f0, f1⟩ := y
 exact ⟨b_0, t_0, q_1, t_1, rfl, f0.ext e, f1.ext e⟩
theorem Zcrowd_Crowd.nd {h : Heap} {bw0 b0 : Nat} {s : List Blk} {x0 : Ocrowd_Crowd} (y : Zcrowd_Crowd h bw0 b0 s x0) : ∀ e ∈ s, e.o ≠ .dead := by
 obtain ⟨b_0, t_0, q_1, t_1, rfl, f0, f1⟩ := y
 exact (ndb (by intro e; cases e) (nd1 f0.nd (ndt f1 nd0)))
def RCok (rc : RC) : Prop := ∀ {h : Heap} (_ : Wf h) (p0 : Obst_Tree) (p0o0 : Omem_Mem) (p1 : Obst_Call) {bp0 bp0_1 : Nat} {z0 : List Blk} {bp1 : Nat} {z1 : List Blk} (_ : Zbst_Tree h bp0 bp0_1 z0 p0 p0o0) (_ : Zbst_Call h bp1 z1 p1) (x : Clo) (a : Arg) {v : Value} (seg : List Blk) (_ : CO h bp0 bp1 seg x v) {r : (Option Clo) × Obst_Tree × Omem_Mem × Obst_Call} (_ : rc p0 p0o0 p1 x a = some r), CallV EE v a.vals [z0, z1, seg] h (fun v S h1 => ∃ zy0 zy1 vr tr, v = vr ∧ S = [zy0, zy1, tr] ∧ Zbst_Tree h1 bp0 bp0_1 zy0 r.2.1 r.2.2.1 ∧ Zbst_Call h1 bp1 zy1 r.2.2.2 ∧ OC h1 bp0 bp1 tr r.1 vr)
end Go.Proofs.YtndhbaidibioeaaGreat.V
