/- Closures that are kept, and how they lie.
   No condition: these are laws of the clean machine and of this program. -/
import Derived.Test.YtndhbaidibioeaaGreatPT
namespace Go.Proofs.YtndhbaidibioeaaGreat.V
open Go
set_option linter.unusedVariables false
set_option linter.unusedSimpArgs false
set_option maxRecDepth 100000
inductive CO (h : Heap) (bT bC : Nat) : List Blk → Clo → Value → Prop
 | c_Find_1_1 {q0 : Nat} {q1 : Nat} {x0 : Tbst_node}  {q2 : Nat} (g0 : BK h q0 [.pointer (some ⟨bT, 0, none⟩)] 61) (g1 : BK h q1 [.string x0.key, .int .i64 x0.top, .int .u64 x0.val, .int .i64 x0.cell] 127) (g2 : BK h q2 [.pointer (some ⟨bC, 0, none⟩)] 85) : CO h bT bC [] (.c_Find_1_1 x0) (.func (.func 74) #[] #[.pointer (some ⟨q0, 0, none⟩), .pointer (some ⟨q1, 0, none⟩), .pointer (some ⟨q2, 0, none⟩)])
 | c_insert_1 {q0 : Nat} {q1 : Nat} {q2 : Nat} {x0 : Tbst_node}  (g0 : BK h q0 [.pointer (some ⟨bT, 0, none⟩)] 61) (g1 : BK h q1 [.pointer (some ⟨bC, 0, none⟩)] 85) (g2 : BK h q2 [.string x0.key, .int .i64 x0.top, .int .u64 x0.val, .int .i64 x0.cell] 127) : CO h bT bC [] (.c_insert_1 x0) (.func (.func 117) #[] #[.pointer (some ⟨q0, 0, none⟩), .pointer (some ⟨q1, 0, none⟩), .pointer (some ⟨q2, 0, none⟩)])
 | c_insert_2 {q0 : Nat} {q1 : Nat} {x0 : Tbst_node}  {q2 : Nat} {q3 : Nat} {v3 : Value} {x1 : Clo} (g0 : BK h q0 [.pointer (some ⟨bT, 0, none⟩)] 61) (g1 : BK h q1 [.string x0.key, .int .i64 x0.top, .int .u64 x0.val, .int .i64 x0.cell] 127) (g2 : BK h q2 [.pointer (some ⟨bC, 0, none⟩)] 85) (g3 : BK h q3 [v3] 134) (k3 : CO h bT bC [] x1 v3) : CO h bT bC [] (.c_insert_2 x0 x1) (.func (.func 118) #[] #[.pointer (some ⟨q0, 0, none⟩), .pointer (some ⟨q1, 0, none⟩), .pointer (some ⟨q2, 0, none⟩), .pointer (some ⟨q3, 0, none⟩)])
 | c_remove_1 {q0 : Nat} {q1 : Nat} {q2 : Nat} {x0 : Tbst_node}  (g0 : BK h q0 [.pointer (some ⟨bT, 0, none⟩)] 61) (g1 : BK h q1 [.pointer (some ⟨bC, 0, none⟩)] 85) (g2 : BK h q2 [.string x0.key, .int .i64 x0.top, .int .u64 x0.val, .int .i64 x0.cell] 127) : CO h bT bC [] (.c_remove_1 x0) (.func (.func 126) #[] #[.pointer (some ⟨q0, 0, none⟩), .pointer (some ⟨q1, 0, none⟩), .pointer (some ⟨q2, 0, none⟩)])
 | c_remove_2 {q0 : Nat} {q1 : Nat} {x0 : Tbst_node}  {q2 : Nat} {q3 : Nat} {v3 : Value} {x1 : Clo} (g0 : BK h q0 [.pointer (some ⟨bT, 0, none⟩)] 61) (g1 : BK h q1 [.string x0.key, .int .i64 x0.top, .int .u64 x0.val, .int .i64 x0.cell] 127) (g2 : BK h q2 [.pointer (some ⟨bC, 0, none⟩)] 85) (g3 : BK h q3 [v3] 134) (k3 : CO h bT bC [] x1 v3) : CO h bT bC [] (.c_remove_2 x0 x1) (.func (.func 127) #[] #[.pointer (some ⟨q0, 0, none⟩), .pointer (some ⟨q1, 0, none⟩), .pointer (some ⟨q2, 0, none⟩), .pointer (some ⟨q3, 0, none⟩)])
 | c_remove_2_1 {q0 : Nat} {q1 : Nat} {x0 : Tbst_seen}  {q2 : Nat} {x1 : Int}  {q3 : Nat} {v3 : Value} {x2 : Clo} {q4 : Nat} {q5 : Nat} {x3 : Int}  (g0 : BK h q0 [.pointer (some ⟨bT, 0, none⟩)] 61) (g1 : BK h q1 [.int .i64 x0.grand, .int .i64 x0.parent, .int .i64 x0.leaf, .int .u64 x0.grandWord, .int .u64 x0.parentWord, .int .i64 x0.turn] 138) (g2 : BK h q2 [.int .i64 x1] 3) (g3 : BK h q3 [v3] 134) (k3 : CO h bT bC [] x2 v3) (g4 : BK h q4 [.pointer (some ⟨bC, 0, none⟩)] 85) (g5 : BK h q5 [.int .u64 x3] 93) : CO h bT bC [] (.c_remove_2_1 x0 x1 x2 x3) (.func (.func 128) #[] #[.pointer (some ⟨q0, 0, none⟩), .pointer (some ⟨q1, 0, none⟩), .pointer (some ⟨q2, 0, none⟩), .pointer (some ⟨q3, 0, none⟩), .pointer (some ⟨q4, 0, none⟩), .pointer (some ⟨q5, 0, none⟩)])
 | c_remove_2_1_1 {q0 : Nat} {v0 : Value} {x0 : Clo} {q1 : Nat} {q2 : Nat} {x1 : Int}  (g0 : BK h q0 [v0] 134) (k0 : CO h bT bC [] x0 v0) (g1 : BK h q1 [.pointer (some ⟨bC, 0, none⟩)] 85) (g2 : BK h q2 [.int .u64 x1] 93) : CO h bT bC [] (.c_remove_2_1_1 x0 x1) (.func (.func 132) #[] #[.pointer (some ⟨q0, 0, none⟩), .pointer (some ⟨q1, 0, none⟩), .pointer (some ⟨q2, 0, none⟩)])
 | c_down_1 {q0 : Nat} {q1 : Nat} {x0 : Tbst_seen}  {q2 : Nat} {x1 : Tbst_node}  {q3 : Nat} {v3 : Value} {x2 : Clo} (g0 : BK h q0 [.pointer (some ⟨bT, 0, none⟩)] 61) (g2 : BK h q2 [.string x1.key, .int .i64 x1.top, .int .u64 x1.val, .int .i64 x1.cell] 127) (g3 : BK h q3 [v3] 141) (k3 : CO h bT bC [] x2 v3) : CO h bT bC [⟨q1, .cells [.int .i64 x0.grand, .int .i64 x0.parent, .int .i64 x0.leaf, .int .u64 x0.grandWord, .int .u64 x0.parentWord, .int .i64 x0.turn] 138⟩] (.c_down_1 x0 x1 x2) (.func (.func 133) #[] #[.pointer (some ⟨q0, 0, none⟩), .pointer (some ⟨q1, 0, none⟩), .pointer (some ⟨q2, 0, none⟩), .pointer (some ⟨q3, 0, none⟩)])
 | c_down_1_1 {q0 : Nat} {q1 : Nat} {x0 : Tbst_seen}  {q2 : Nat} {x1 : Tbst_node}  {q3 : Nat} {v3 : Value} {x2 : Clo} (g0 : BK h q0 [.pointer (some ⟨bT, 0, none⟩)] 61) (g2 : BK h q2 [.string x1.key, .int .i64 x1.top, .int .u64 x1.val, .int .i64 x1.cell] 127) (g3 : BK h q3 [v3] 141) (k3 : CO h bT bC [] x2 v3) : CO h bT bC [⟨q1, .cells [.int .i64 x0.grand, .int .i64 x0.parent, .int .i64 x0.leaf, .int .u64 x0.grandWord, .int .u64 x0.parentWord, .int .i64 x0.turn] 138⟩] (.c_down_1_1 x0 x1 x2) (.func (.func 134) #[] #[.pointer (some ⟨q0, 0, none⟩), .pointer (some ⟨q1, 0, none⟩), .pointer (some ⟨q2, 0, none⟩), .pointer (some ⟨q3, 0, none⟩)])
 | c_help_1 {q0 : Nat} {v0 : Value} {x0 : Clo} (g0 : BK h q0 [v0] 134) (k0 : CO h bT bC [] x0 v0) : CO h bT bC [] (.c_help_1 x0) (.func (.func 141) #[] #[.pointer (some ⟨q0, 0, none⟩)])
 | c_grow_1 {q0 : Nat} {q1 : Nat} {x0 : Int}  {q2 : Nat} {x1 : Int}  {q3 : Nat} {x2 : Int}  {q4 : Nat} {x3 : Tbst_seen}  {q5 : Nat} {x4 : Int}  {q6 : Nat} {q7 : Nat} {x5 : Tbst_node}  (g0 : BK h q0 [.pointer (some ⟨bT, 0, none⟩)] 61) (g1 : BK h q1 [.int .i64 x0] 3) (g2 : BK h q2 [.int .i64 x1] 3) (g3 : BK h q3 [.int .i64 x2] 3) (g4 : BK h q4 [.int .i64 x3.grand, .int .i64 x3.parent, .int .i64 x3.leaf, .int .u64 x3.grandWord, .int .u64 x3.parentWord, .int .i64 x3.turn] 138) (g5 : BK h q5 [.int .i64 x4] 3) (g6 : BK h q6 [.pointer (some ⟨bC, 0, none⟩)] 85) (g7 : BK h q7 [.string x5.key, .int .i64 x5.top, .int .u64 x5.val, .int .i64 x5.cell] 127) : CO h bT bC [] (.c_grow_1 x0 x1 x2 x3 x4 x5) (.func (.func 143) #[] #[.pointer (some ⟨q0, 0, none⟩), .pointer (some ⟨q1, 0, none⟩), .pointer (some ⟨q2, 0, none⟩), .pointer (some ⟨q3, 0, none⟩), .pointer (some ⟨q4, 0, none⟩), .pointer (some ⟨q5, 0, none⟩), .pointer (some ⟨q6, 0, none⟩), .pointer (some ⟨q7, 0, none⟩)])
 | c_grow_1_1 {q0 : Nat} {q1 : Nat} {x0 : Int}  {q2 : Nat} {x1 : Int}  {q3 : Nat} {x2 : Tbst_seen}  {q4 : Nat} {x3 : Int}  {q5 : Nat} {q6 : Nat} {x4 : Tbst_node}  (g0 : BK h q0 [.pointer (some ⟨bT, 0, none⟩)] 61) (g1 : BK h q1 [.int .i64 x0] 3) (g2 : BK h q2 [.int .i64 x1] 3) (g3 : BK h q3 [.int .i64 x2.grand, .int .i64 x2.parent, .int .i64 x2.leaf, .int .u64 x2.grandWord, .int .u64 x2.parentWord, .int .i64 x2.turn] 138) (g4 : BK h q4 [.int .i64 x3] 3) (g5 : BK h q5 [.pointer (some ⟨bC, 0, none⟩)] 85) (g6 : BK h q6 [.string x4.key, .int .i64 x4.top, .int .u64 x4.val, .int .i64 x4.cell] 127) : CO h bT bC [] (.c_grow_1_1 x0 x1 x2 x3 x4) (.func (.func 144) #[] #[.pointer (some ⟨q0, 0, none⟩), .pointer (some ⟨q1, 0, none⟩), .pointer (some ⟨q2, 0, none⟩), .pointer (some ⟨q3, 0, none⟩), .pointer (some ⟨q4, 0, none⟩), .pointer (some ⟨q5, 0, none⟩), .pointer (some ⟨q6, 0, none⟩)])
 | c_grow_1_1_1 {q0 : Nat} {q1 : Nat} {x0 : Tbst_seen}  {q2 : Nat} {x1 : Int}  {q3 : Nat} {q4 : Nat} {x2 : Tbst_node}  (g0 : BK h q0 [.pointer (some ⟨bT, 0, none⟩)] 61) (g1 : BK h q1 [.int .i64 x0.grand, .int .i64 x0.parent, .int .i64 x0.leaf, .int .u64 x0.grandWord, .int .u64 x0.parentWord, .int .i64 x0.turn] 138) (g2 : BK h q2 [.int .i64 x1] 3) (g3 : BK h q3 [.pointer (some ⟨bC, 0, none⟩)] 85) (g4 : BK h q4 [.string x2.key, .int .i64 x2.top, .int .u64 x2.val, .int .i64 x2.cell] 127) : CO h bT bC [] (.c_grow_1_1_1 x0 x1 x2) (.func (.func 145) #[] #[.pointer (some ⟨q0, 0, none⟩), .pointer (some ⟨q1, 0, none⟩), .pointer (some ⟨q2, 0, none⟩), .pointer (some ⟨q3, 0, none⟩), .pointer (some ⟨q4, 0, none⟩)])
 | c_grow_1_1_1_1 {q0 : Nat} {q1 : Nat} {q2 : Nat} {x0 : Tbst_node}  (g0 : BK h q0 [.pointer (some ⟨bT, 0, none⟩)] 61) (g1 : BK h q1 [.pointer (some ⟨bC, 0, none⟩)] 85) (g2 : BK h q2 [.string x0.key, .int .i64 x0.top, .int .u64 x0.val, .int .i64 x0.cell] 127) : CO h bT bC [] (.c_grow_1_1_1_1 x0) (.func (.func 146) #[] #[.pointer (some ⟨q0, 0, none⟩), .pointer (some ⟨q1, 0, none⟩), .pointer (some ⟨q2, 0, none⟩)])
 | c_grow_1_1_1_2 {q0 : Nat} {q1 : Nat} {x0 : Tbst_node}  (g0 : BK h q0 [.pointer (some ⟨bC, 0, none⟩)] 85) (g1 : BK h q1 [.string x0.key, .int .i64 x0.top, .int .u64 x0.val, .int .i64 x0.cell] 127) : CO h bT bC [] (.c_grow_1_1_1_2 x0) (.func (.func 147) #[] #[.pointer (some ⟨q0, 0, none⟩), .pointer (some ⟨q1, 0, none⟩)])
 | c_loses_1 {q0 : Nat} {q1 : Nat} {x0 : Tbst_info}  {q2 : Nat} {x1 : Int}  {q3 : Nat} {x2 : Int}  {q4 : Nat} {v4 : Value} {x3 : Clo} (g0 : BK h q0 [.pointer (some ⟨bT, 0, none⟩)] 61) (g1 : BK h q1 [.int .i64 x0.grand, .int .i64 x0.parent, .int .i64 x0.leaf, .int .i64 x0.next, .int .u64 x0.was] 155) (g2 : BK h q2 [.int .u64 x1] 93) (g3 : BK h q3 [.int .i64 x2] 3) (g4 : BK h q4 [v4] 201) (k4 : CO h bT bC [] x3 v4) : CO h bT bC [] (.c_loses_1 x0 x1 x2 x3) (.func (.func 148) #[] #[.pointer (some ⟨q0, 0, none⟩), .pointer (some ⟨q1, 0, none⟩), .pointer (some ⟨q2, 0, none⟩), .pointer (some ⟨q3, 0, none⟩), .pointer (some ⟨q4, 0, none⟩)])
 | c_loses_1_1 {q0 : Nat} {v0 : Value} {x0 : Clo} (g0 : BK h q0 [v0] 201) (k0 : CO h bT bC [] x0 v0) : CO h bT bC [] (.c_loses_1_1 x0) (.func (.func 149) #[] #[.pointer (some ⟨q0, 0, none⟩)])
 | c_loses_1_2 {q0 : Nat} {q1 : Nat} {x0 : Tbst_info}  {q2 : Nat} {x1 : Int}  {q3 : Nat} {v3 : Value} {x2 : Clo} (g0 : BK h q0 [.pointer (some ⟨bT, 0, none⟩)] 61) (g1 : BK h q1 [.int .i64 x0.grand, .int .i64 x0.parent, .int .i64 x0.leaf, .int .i64 x0.next, .int .u64 x0.was] 155) (g2 : BK h q2 [.int .i64 x1] 3) (g3 : BK h q3 [v3] 201) (k3 : CO h bT bC [] x2 v3) : CO h bT bC [] (.c_loses_1_2 x0 x1 x2) (.func (.func 150) #[] #[.pointer (some ⟨q0, 0, none⟩), .pointer (some ⟨q1, 0, none⟩), .pointer (some ⟨q2, 0, none⟩), .pointer (some ⟨q3, 0, none⟩)])
 | c_loses_1_2_1 {q0 : Nat} {v0 : Value} {x0 : Clo} (g0 : BK h q0 [v0] 201) (k0 : CO h bT bC [] x0 v0) : CO h bT bC [] (.c_loses_1_2_1 x0) (.func (.func 152) #[] #[.pointer (some ⟨q0, 0, none⟩)])
 | c_grows_1 {q0 : Nat} {q1 : Nat} {x0 : Tbst_info}  {q2 : Nat} {x1 : Int}  {q3 : Nat} {v3 : Value} {x2 : Clo} (g0 : BK h q0 [.pointer (some ⟨bT, 0, none⟩)] 61) (g1 : BK h q1 [.int .i64 x0.grand, .int .i64 x0.parent, .int .i64 x0.leaf, .int .i64 x0.next, .int .u64 x0.was] 155) (g2 : BK h q2 [.int .i64 x1] 3) (g3 : BK h q3 [v3] 134) (k3 : CO h bT bC [] x2 v3) : CO h bT bC [] (.c_grows_1 x0 x1 x2) (.func (.func 154) #[] #[.pointer (some ⟨q0, 0, none⟩), .pointer (some ⟨q1, 0, none⟩), .pointer (some ⟨q2, 0, none⟩), .pointer (some ⟨q3, 0, none⟩)])
 | c_goes_1 {q0 : Nat} {q1 : Nat} {x0 : Tbst_info}  {q2 : Nat} {x1 : Int}  {q3 : Nat} {v3 : Value} {x2 : Clo} (g0 : BK h q0 [.pointer (some ⟨bT, 0, none⟩)] 61) (g1 : BK h q1 [.int .i64 x0.grand, .int .i64 x0.parent, .int .i64 x0.leaf, .int .i64 x0.next, .int .u64 x0.was] 155) (g2 : BK h q2 [.int .i64 x1] 3) (g3 : BK h q3 [v3] 134) (k3 : CO h bT bC [] x2 v3) : CO h bT bC [] (.c_goes_1 x0 x1 x2) (.func (.func 155) #[] #[.pointer (some ⟨q0, 0, none⟩), .pointer (some ⟨q1, 0, none⟩), .pointer (some ⟨q2, 0, none⟩), .pointer (some ⟨q3, 0, none⟩)])
 | c_goes_1_1 {q0 : Nat} {q1 : Nat} {x0 : Tbst_info}  {q2 : Nat} {x1 : Int}  {q3 : Nat} {v3 : Value} {x2 : Clo} (g0 : BK h q0 [.pointer (some ⟨bT, 0, none⟩)] 61) (g1 : BK h q1 [.int .i64 x0.grand, .int .i64 x0.parent, .int .i64 x0.leaf, .int .i64 x0.next, .int .u64 x0.was] 155) (g2 : BK h q2 [.int .i64 x1] 3) (g3 : BK h q3 [v3] 134) (k3 : CO h bT bC [] x2 v3) : CO h bT bC [] (.c_goes_1_1 x0 x1 x2) (.func (.func 156) #[] #[.pointer (some ⟨q0, 0, none⟩), .pointer (some ⟨q1, 0, none⟩), .pointer (some ⟨q2, 0, none⟩), .pointer (some ⟨q3, 0, none⟩)])
 | c_goes_2 {q0 : Nat} {q1 : Nat} {x0 : Tbst_info}  {q2 : Nat} {v2 : Value} {x1 : Clo} (g0 : BK h q0 [.pointer (some ⟨bT, 0, none⟩)] 61) (g1 : BK h q1 [.int .i64 x0.grand, .int .i64 x0.parent, .int .i64 x0.leaf, .int .i64 x0.next, .int .u64 x0.was] 155) (g2 : BK h q2 [v2] 210) (k2 : CO h bT bC [] x1 v2) : CO h bT bC [] (.c_goes_2 x0 x1) (.func (.func 157) #[] #[.pointer (some ⟨q0, 0, none⟩), .pointer (some ⟨q1, 0, none⟩), .pointer (some ⟨q2, 0, none⟩)])
 | c_goes_2_1 {q0 : Nat} {q1 : Nat} {x0 : Tbst_info}  {q2 : Nat} {v2 : Value} {x1 : Clo} (g0 : BK h q0 [.pointer (some ⟨bT, 0, none⟩)] 61) (g1 : BK h q1 [.int .i64 x0.grand, .int .i64 x0.parent, .int .i64 x0.leaf, .int .i64 x0.next, .int .u64 x0.was] 155) (g2 : BK h q2 [v2] 210) (k2 : CO h bT bC [] x1 v2) : CO h bT bC [] (.c_goes_2_1 x0 x1) (.func (.func 158) #[] #[.pointer (some ⟨q0, 0, none⟩), .pointer (some ⟨q1, 0, none⟩), .pointer (some ⟨q2, 0, none⟩)])
 | c_clean_1 {q0 : Nat} {q1 : Nat} {x0 : Int}  {q2 : Nat} {x1 : Int}  {q3 : Nat} {x2 : Int}  {q4 : Nat} {v4 : Value} {x3 : Clo} (g0 : BK h q0 [.pointer (some ⟨bT, 0, none⟩)] 61) (g1 : BK h q1 [.int .i64 x0] 3) (g2 : BK h q2 [.int .i64 x1] 3) (g3 : BK h q3 [.int .i64 x2] 3) (g4 : BK h q4 [v4] 134) (k4 : CO h bT bC [] x3 v4) : CO h bT bC [] (.c_clean_1 x0 x1 x2 x3) (.func (.func 159) #[] #[.pointer (some ⟨q0, 0, none⟩), .pointer (some ⟨q1, 0, none⟩), .pointer (some ⟨q2, 0, none⟩), .pointer (some ⟨q3, 0, none⟩), .pointer (some ⟨q4, 0, none⟩)])
 | c_turn_1 {q0 : Nat} {q1 : Nat} {x0 : Int}  {q2 : Nat} {x1 : Int}  {q3 : Nat} {x2 : Int}  {q4 : Nat} {v4 : Value} {x3 : Clo} (g0 : BK h q0 [.pointer (some ⟨bT, 0, none⟩)] 61) (g1 : BK h q1 [.int .i64 x0] 3) (g2 : BK h q2 [.int .i64 x1] 3) (g3 : BK h q3 [.int .i64 x2] 3) (g4 : BK h q4 [v4] 134) (k4 : CO h bT bC [] x3 v4) : CO h bT bC [] (.c_turn_1 x0 x1 x2 x3) (.func (.func 160) #[] #[.pointer (some ⟨q0, 0, none⟩), .pointer (some ⟨q1, 0, none⟩), .pointer (some ⟨q2, 0, none⟩), .pointer (some ⟨q3, 0, none⟩), .pointer (some ⟨q4, 0, none⟩)])
theorem CO.ext {h h' : Heap} {bT bC : Nat} {seg : List Blk} {x : Clo} {v : Value} (c : CO h bT bC seg x v) (e : Kn h h') : CO h' bT bC seg x v := by
 induction c with
 | c_Find_1_1 g0 g1 g2 => exact .c_Find_1_1 (g0.ext e) (g1.ext e) (g2.ext e)
 | c_insert_1 g0 g1 g2 => exact .c_insert_1 (g0.ext e) (g1.ext e) (g2.ext e)
 | c_insert_2 g0 g1 g2 g3 k3 i3 => exact .c_insert_2 (g0.ext e) (g1.ext e) (g2.ext e) (g3.ext e) i3
 | c_remove_1 g0 g1 g2 => exact .c_remove_1 (g0.ext e) (g1.ext e) (g2.ext e)
 | c_remove_2 g0 g1 g2 g3 k3 i3 => exact .c_remove_2 (g0.ext e) (g1.ext e) (g2.ext e) (g3.ext e) i3
 | c_remove_2_1 g0 g1 g2 g3 k3 g4 g5 i3 => exact .c_remove_2_1 (g0.ext e) (g1.ext e) (g2.ext e) (g3.ext e) i3 (g4.ext e) (g5.ext e)
 | c_remove_2_1_1 g0 k0 g1 g2 i0 => exact .c_remove_2_1_1 (g0.ext e) i0 (g1.ext e) (g2.ext e)
 | c_down_1 g0 g2 g3 k3 i3 => exact .c_down_1 (g0.ext e) (g2.ext e) (g3.ext e) i3
 | c_down_1_1 g0 g2 g3 k3 i3 => exact .c_down_1_1 (g0.ext e) (g2.ext e) (g3.ext e) i3
 | c_help_1 g0 k0 i0 => exact .c_help_1 (g0.ext e) i0
 | c_grow_1 g0 g1 g2 g3 g4 g5 g6 g7 => exact .c_grow_1 (g0.ext e) (g1.ext e) (g2.ext e) (g3.ext e) (g4.ext e) (g5.ext e) (g6.ext e) (g7.ext e)
 | c_grow_1_1 g0 g1 g2 g3 g4 g5 g6 => exact .c_grow_1_1 (g0.ext e) (g1.ext e) (g2.ext e) (g3.ext e) (g4.ext e) (g5.ext e) (g6.ext e)
 | c_grow_1_1_1 g0 g1 g2 g3 g4 => exact .c_grow_1_1_1 (g0.ext e) (g1.ext e) (g2.ext e) (g3.ext e) (g4.ext e)
 | c_grow_1_1_1_1 g0 g1 g2 => exact .c_grow_1_1_1_1 (g0.ext e) (g1.ext e) (g2.ext e)
 | c_grow_1_1_1_2 g0 g1 => exact .c_grow_1_1_1_2 (g0.ext e) (g1.ext e)
 | c_loses_1 g0 g1 g2 g3 g4 k4 i4 => exact .c_loses_1 (g0.ext e) (g1.ext e) (g2.ext e) (g3.ext e) (g4.ext e) i4
 | c_loses_1_1 g0 k0 i0 => exact .c_loses_1_1 (g0.ext e) i0
 | c_loses_1_2 g0 g1 g2 g3 k3 i3 => exact .c_loses_1_2 (g0.ext e) (g1.ext e) (g2.ext e) (g3.ext e) i3
 | c_loses_1_2_1 g0 k0 i0 => exact .c_loses_1_2_1 (g0.ext e) i0
 | c_grows_1 g0 g1 g2 g3 k3 i3 => exact .c_grows_1 (g0.ext e) (g1.ext e) (g2.ext e) (g3.ext e) i3
 | c_goes_1 g0 g1 g2 g3 k3 i3 => exact .c_goes_1 (g0.ext e) (g1.ext e) (g2.ext e) (g3.ext e) i3
 | c_goes_1_1 g0 g1 g2 g3 k3 i3 => exact .c_goes_1_1 (g0.ext e) (g1.ext e) (g2.ext e) (g3.ext e) i3
 | c_goes_2 g0 g1 g2 k2 i2 => exact .c_goes_2 (g0.ext e) (g1.ext e) (g2.ext e) i2
 | c_goes_2_1 g0 g1 g2 k2 i2 => exact .c_goes_2_1 (g0.ext e) (g1.ext e) (g2.ext e) i2
 | c_clean_1 g0 g1 g2 g3 g4 k4 i4 => exact .c_clean_1 (g0.ext e) (g1.ext e) (g2.ext e) (g3.ext e) (g4.ext e) i4
 | c_turn_1 g0 g1 g2 g3 g4 k4 i4 => exact .c_turn_1 (g0.ext e) (g1.ext e) (g2.ext e) (g3.ext e) (g4.ext e) i4
theorem CO.nd {h : Heap} {bT bC : Nat} {seg : List Blk} {x : Clo} {v : Value} (c : CO h bT bC seg x v) : ∀ e ∈ seg, e.o ≠ .dead := by
 cases c <;> intro e he <;> simp only [List.mem_singleton, List.not_mem_nil] at he <;> subst he <;> intro q <;> cases q
theorem CO.one {h : Heap} {bT bC : Nat} {seg : List Blk} {x : Clo} {v : Value} (c : CO h bT bC seg x v) : v.cells.toList = [v] := by cases c <;> rfl
theorem CO.sz {h : Heap} {bT bC : Nat} {seg : List Blk} {x : Clo} {v : Value} (c : CO h bT bC seg x v) : Nat.beq v.cells.size 1 = true := by cases c <;> rfl
theorem CO.okc {h : Heap} {bT bC : Nat} {seg : List Blk} {x : Clo} {v : Value} (c : CO h bT bC seg x v) : [v].all cellOk = true := by cases c <;> rfl
inductive OC (h : Heap) (bT bC : Nat) : List Blk → Option Clo → Value → Prop
 | none : OC h bT bC [] none .nilFunc
 | some {seg : List Blk} {x : Clo} {v : Value} (c : CO h bT bC seg x v) : OC h bT bC seg (some x) v
theorem OC.ext {h h' : Heap} {bT bC : Nat} {seg : List Blk} {x : Option Clo} {v : Value} (c : OC h bT bC seg x v) (e : Kn h h') : OC h' bT bC seg x v := by
 cases c with
 | none => exact .none
 | some c => exact .some (c.ext e)
theorem OC.nd {h : Heap} {bT bC : Nat} {seg : List Blk} {x : Option Clo} {v : Value} (c : OC h bT bC seg x v) : ∀ e ∈ seg, e.o ≠ .dead := by
 cases c with
 | none => intro e he; cases he
 | some c => exact c.nd
theorem OC.one {h : Heap} {bT bC : Nat} {seg : List Blk} {x : Option Clo} {v : Value} (c : OC h bT bC seg x v) : v.cells.toList = [v] := by
 cases c with
 | none => rfl
 | some c => exact c.one
theorem OC.sz {h : Heap} {bT bC : Nat} {seg : List Blk} {x : Option Clo} {v : Value} (c : OC h bT bC seg x v) : Nat.beq v.cells.size 1 = true := by
 cases c with
 | none => rfl
 | some c => exact c.sz
theorem OC.okc {h : Heap} {bT bC : Nat} {seg : List Blk} {x : Option Clo} {v : Value} (c : OC h bT bC seg x v) : [v].all cellOk = true := by
 cases c with
 | none => rfl
 | some c => exact c.okc
theorem OC.get {h : Heap} {bT bC : Nat} {seg : List Blk} {x : Option Clo} {y : Clo} {v : Value} (c : OC h bT bC seg x v) (e : x = Option.some y) : CO h bT bC seg y v := by
 cases c with
 | none => cases e
 | some c => cases e; exact c
theorem OC.eqn {h : Heap} {bT bC : Nat} {seg : List Blk} {x : Option Clo} {v : Value} (c : OC h bT bC seg x v) : binV EE .eql 135 v .nilFunc = Option.some (Value.bool x.isNone) := by
 cases c with
 | none => kernel_rfl
 | some c => cases c <;> kernel_rfl
theorem OC.nen {h : Heap} {bT bC : Nat} {seg : List Blk} {x : Option Clo} {v : Value} (c : OC h bT bC seg x v) : binV EE .neq 135 v .nilFunc = Option.some (Value.bool x.isSome) := by
 cases c with
 | none => kernel_rfl
 | some c => cases c <;> kernel_rfl
theorem ndc {h : Heap} {bT bC : Nat} {seg : List Blk} {x : Option Clo} {v : Value} {r : List (List Blk)} (c : OC h bT bC seg x v) (k : ∀ e ∈ r.flatten, e.o ≠ .dead) : ∀ e ∈ (seg :: r : List (List Blk)).flatten, e.o ≠ .dead := by
 intro e he
 rw [List.flatten_cons] at he
 rcases List.mem_append.mp he with q | q
 ·
  exact c.nd e q
 ·
  exact k e q
def Arg.vals : Arg → List Value
 | .u => []
 | .s x => [.agg #[.int .i64 x.grand, .int .i64 x.parent, .int .i64 x.leaf, .int .u64 x.grandWord, .int .u64 x.parentWord, .int .i64 x.turn]]
 | .b x => [.bool x]
 | .w x => [.int .u64 x]
end Go.Proofs.YtndhbaidibioeaaGreat.V
