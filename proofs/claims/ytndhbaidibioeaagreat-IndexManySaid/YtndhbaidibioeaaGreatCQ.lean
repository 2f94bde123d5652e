/- Closures that are kept, and how they lie.
   No condition: these are laws of the clean machine and of this program. -/
import Derived.Test.YtndhbaidibioeaaGreatPQ
import Derived.Test.YtndhbaidibioeaaGreatVQ
namespace Go.Proofs.YtndhbaidibioeaaGreat.V
open Go
set_option linter.unusedVariables false
set_option linter.unusedSimpArgs false
set_option maxRecDepth 100000
inductive CO (h : Heap) (bT bC : Nat) : List Blk → Clo → Value → Prop
 | c_Find_1_1 {q0 : Nat} {q1 : Nat} {x0 : Tbst_node}  {q2 : Nat} (g0 : BK h q0 [.pointer (some ⟨bT, 0, none⟩)] 61) (g1 : BK h q1 [.string x0.key, .int .i64 x0.top, .int .u64 x0.val, .int .i64 x0.cell] 127) (g2 : BK h q2 [.pointer (some ⟨bC, 0, none⟩)] 85) : CO h bT bC [] (.c_Find_1_1 x0) (.func (.func 74) #[] #[.pointer (some ⟨q0, 0, none⟩), .pointer (some ⟨q1, 0, none⟩), .pointer (some ⟨q2, 0, none⟩)])
 | c_Seek_1_1 {q0 : Nat} {q1 : Nat} {x0 : Tbst_node}  {q2 : Nat} (g0 : BK h q0 [.pointer (some ⟨bT, 0, none⟩)] 61) (g1 : BK h q1 [.string x0.key, .int .i64 x0.top, .int .u64 x0.val, .int .i64 x0.cell] 127) (g2 : BK h q2 [.pointer (some ⟨bC, 0, none⟩)] 85) : CO h bT bC [] (.c_Seek_1_1 x0) (.func (.func 110) #[] #[.pointer (some ⟨q0, 0, none⟩), .pointer (some ⟨q1, 0, none⟩), .pointer (some ⟨q2, 0, none⟩)])
 | c_insert_1 {q0 : Nat} {q1 : Nat} {q2 : Nat} {x0 : Tbst_node}  (g0 : BK h q0 [.pointer (some ⟨bT, 0, none⟩)] 61) (g1 : BK h q1 [.pointer (some ⟨bC, 0, none⟩)] 85) (g2 : BK h q2 [.string x0.key, .int .i64 x0.top, .int .u64 x0.val, .int .i64 x0.cell] 127) : CO h bT bC [] (.c_insert_1 x0) (.func (.func 117) #[] #[.pointer (some ⟨q0, 0, none⟩), .pointer (some ⟨q1, 0, none⟩), .pointer (some ⟨q2, 0, none⟩)])
 | c_insert_2 {q0 : Nat} {q1 : Nat} {x0 : Tbst_node}  {q2 : Nat} {q3 : Nat} {v3 : Value} {x1 : Clo} (g0 : BK h q0 [.pointer (some ⟨bT, 0, none⟩)] 61) (g1 : BK h q1 [.string x0.key, .int .i64 x0.top, .int .u64 x0.val, .int .i64 x0.cell] 127) (g2 : BK h q2 [.pointer (some ⟨bC, 0, none⟩)] 85) (g3 : BK h q3 [v3] 134) (k3 : CO h bT bC [] x1 v3) : CO h bT bC [] (.c_insert_2 x0 x1) (.func (.func 118) #[] #[.pointer (some ⟨q0, 0, none⟩), .pointer (some ⟨q1, 0, none⟩), .pointer (some ⟨q2, 0, none⟩), .pointer (some ⟨q3, 0, none⟩)])
 | c_down_1 {q0 : Nat} {q1 : Nat} {x0 : Tbst_seen}  {q2 : Nat} {x1 : Tbst_node}  {q3 : Nat} {v3 : Value} {x2 : Clo} (g0 : BK h q0 [.pointer (some ⟨bT, 0, none⟩)] 61) (g2 : BK h q2 [.string x1.key, .int .i64 x1.top, .int .u64 x1.val, .int .i64 x1.cell] 127) (g3 : BK h q3 [v3] 141) (k3 : CO h bT bC [] x2 v3) : CO h bT bC [⟨q1, .cells [.int .i64 x0.grand, .int .i64 x0.parent, .int .i64 x0.leaf, .int .u64 x0.grandWord, .int .u64 x0.parentWord, .int .i64 x0.turn] 138⟩] (.c_down_1 x0 x1 x2) (.func (.func 133) #[] #[.pointer (some ⟨q0, 0, none⟩), .pointer (some ⟨q1, 0, none⟩), .pointer (some ⟨q2, 0, none⟩), .pointer (some ⟨q3, 0, none⟩)])
 | c_down_1_1 {q0 : Nat} {q1 : Nat} {x0 : Tbst_seen}  {q2 : Nat} {x1 : Tbst_node}  {q3 : Nat} {v3 : Value} {x2 : Clo} (g0 : BK h q0 [.pointer (some ⟨bT, 0, none⟩)] 61) (g2 : BK h q2 [.string x1.key, .int .i64 x1.top, .int .u64 x1.val, .int .i64 x1.cell] 127) (g3 : BK h q3 [v3] 141) (k3 : CO h bT bC [] x2 v3) : CO h bT bC [⟨q1, .cells [.int .i64 x0.grand, .int .i64 x0.parent, .int .i64 x0.leaf, .int .u64 x0.grandWord, .int .u64 x0.parentWord, .int .i64 x0.turn] 138⟩] (.c_down_1_1 x0 x1 x2) (.func (.func 134) #[] #[.pointer (some ⟨q0, 0, none⟩), .pointer (some ⟨q1, 0, none⟩), .pointer (some ⟨q2, 0, none⟩), .pointer (some ⟨q3, 0, none⟩)])
 | c_least_1 {q0 : Nat} {q1 : Nat} {x0 : Int}  {q2 : Nat} (g0 : BK h q0 [.pointer (some ⟨bT, 0, none⟩)] 61) (g1 : BK h q1 [.int .i64 x0] 3) (g2 : BK h q2 [.pointer (some ⟨bC, 0, none⟩)] 85) : CO h bT bC [] (.c_least_1 x0) (.func (.func 136) #[] #[.pointer (some ⟨q0, 0, none⟩), .pointer (some ⟨q1, 0, none⟩), .pointer (some ⟨q2, 0, none⟩)])
 | c_help_1 {q0 : Nat} {v0 : Value} {x0 : Clo} (g0 : BK h q0 [v0] 134) (k0 : CO h bT bC [] x0 v0) : CO h bT bC [] (.c_help_1 x0) (.func (.func 141) #[] #[.pointer (some ⟨q0, 0, none⟩)])
 | c_grow_1 {q0 : Nat} {q1 : Nat} {x0 : Int}  {q2 : Nat} {x1 : Int}  {q3 : Nat} {x2 : Int}  {q4 : Nat} {x3 : Tbst_seen}  {q5 : Nat} {x4 : Int}  {q6 : Nat} {q7 : Nat} {x5 : Tbst_node}  (g0 : BK h q0 [.pointer (some ⟨bT, 0, none⟩)] 61) (g1 : BK h q1 [.int .i64 x0] 3) (g2 : BK h q2 [.int .i64 x1] 3) (g3 : BK h q3 [.int .i64 x2] 3) (g4 : BK h q4 [.int .i64 x3.grand, .int .i64 x3.parent, .int .i64 x3.leaf, .int .u64 x3.grandWord, .int .u64 x3.parentWord, .int .i64 x3.turn] 138) (g5 : BK h q5 [.int .i64 x4] 3) (g6 : BK h q6 [.pointer (some ⟨bC, 0, none⟩)] 85) (g7 : BK h q7 [.string x5.key, .int .i64 x5.top, .int .u64 x5.val, .int .i64 x5.cell] 127) : CO h bT bC [] (.c_grow_1 x0 x1 x2 x3 x4 x5) (.func (.func 143) #[] #[.pointer (some ⟨q0, 0, none⟩), .pointer (some ⟨q1, 0, none⟩), .pointer (some ⟨q2, 0, none⟩), .pointer (some ⟨q3, 0, none⟩), .pointer (some ⟨q4, 0, none⟩), .pointer (some ⟨q5, 0, none⟩), .pointer (some ⟨q6, 0, none⟩), .pointer (some ⟨q7, 0, none⟩)])
 | c_grow_1_1 {q0 : Nat} {q1 : Nat} {x0 : Int}  {q2 : Nat} {x1 : Int}  {q3 : Nat} {x2 : Tbst_seen}  {q4 : Nat} {x3 : Int}  {q5 : Nat} {q6 : Nat} {x4 : Tbst_node}  (g0 : BK h q0 [.pointer (some ⟨bT, 0, none⟩)] 61) (g1 : BK h q1 [.int .i64 x0] 3) (g2 : BK h q2 [.int .i64 x1] 3) (g3 : BK h q3 [.int .i64 x2.grand, .int .i64 x2.parent, .int .i64 x2.leaf, .int .u64 x2.grandWord, .int .u64 x2.parentWord, .int .i64 x2.turn] 138) (g4 : BK h q4 [.int .i64 x3] 3) (g5 : BK h q5 [.pointer (some ⟨bC, 0, none⟩)] 85) (g6 : BK h q6 [.string x4.key, .int .i64 x4.top, .int .u64 x4.val, .int .i64 x4.cell] 127) : CO h bT bC [] (.c_grow_1_1 x0 x1 x2 x3 x4) (.func (.func 144) #[] #[.pointer (some ⟨q0, 0, none⟩), .pointer (some ⟨q1, 0, none⟩), .pointer (some ⟨q2, 0, none⟩), .pointer (some ⟨q3, 0, none⟩), .pointer (some ⟨q4, 0, none⟩), .pointer (some ⟨q5, 0, none⟩), .pointer (some ⟨q6, 0, none⟩)])
 | c_grow_1_1_1 {q0 : Nat} {q1 : Nat} {x0 : Tbst_seen}  {q2 : Nat} {x1 : Int}  {q3 : Nat} {q4 : Nat} {x2 : Tbst_node}  (g0 : BK h q0 [.pointer (some ⟨bT, 0, none⟩)] 61) (g1 : BK h q1 [.int .i64 x0.grand, .int .i64 x0.parent, .int .i64 x0.leaf, .int .u64 x0.grandWord, .int .u64 x0.parentWord, .int .i64 x0.turn] 138) (g2 : BK h q2 [.int .i64 x1] 3) (g3 : BK h q3 [.pointer (some ⟨bC, 0, none⟩)] 85) (g4 : BK h q4 [.string x2.key, .int .i64 x2.top, .int .u64 x2.val, .int .i64 x2.cell] 127) : CO h bT bC [] (.c_grow_1_1_1 x0 x1 x2) (.func (.func 145) #[] #[.pointer (some ⟨q0, 0, none⟩), .pointer (some ⟨q1, 0, none⟩), .pointer (some ⟨q2, 0, none⟩), .pointer (some ⟨q3, 0, none⟩), .pointer (some ⟨q4, 0, none⟩)])
 | c_grow_1_1_1_1 {q0 : Nat} {q1 : Nat} {q2 : Nat} {x0 : Tbst_node}  (g0 : BK h q0 [.pointer (some ⟨bT, 0, none⟩)] 61) (g1 : BK h q1 [.pointer (some ⟨bC, 0, none⟩)] 85) (g2 : BK h q2 [.string x0.key, .int .i64 x0.top, .int .u64 x0.val, .int .i64 x0.cell] 127) : CO h bT bC [] (.c_grow_1_1_1_1 x0) (.func (.func 146) #[] #[.pointer (some ⟨q0, 0, none⟩), .pointer (some ⟨q1, 0, none⟩), .pointer (some ⟨q2, 0, none⟩)])
 | c_grow_1_1_1_2 {q0 : Nat} {q1 : Nat} {x0 : Tbst_node}  (g0 : BK h q0 [.pointer (some ⟨bC, 0, none⟩)] 85) (g1 : BK h q1 [.string x0.key, .int .i64 x0.top, .int .u64 x0.val, .int .i64 x0.cell] 127) : CO h bT bC [] (.c_grow_1_1_1_2 x0) (.func (.func 147) #[] #[.pointer (some ⟨q0, 0, none⟩), .pointer (some ⟨q1, 0, none⟩)])
 | c_loses_1 {q0 : Nat} {q1 : Nat} {x0 : Tbst_info}  {q2 : Nat} {x1 : Int}  {q3 : Nat} {x2 : Int}  {q4 : Nat} {v4 : Value} {x3 : Clo} (g0 : BK h q0 [.pointer (some ⟨bT, 0, none⟩)] 61) (g1 : BK h q1 [.int .i64 x0.grand, .int .i64 x0.parent, .int .i64 x0.leaf, .int .i64 x0.next, .int .u64 x0.was] 155) (g2 : BK h q2 [.int .u64 x1] 93) (g3 : BK h q3 [.int .i64 x2] 3) (g4 : BK h q4 [v4] 201) (k4 : CO h bT bC [] x3 v4) : CO h bT bC [] (.c_loses_1 x0 x1 x2 x3) (.func (.func 148) #[] #[.pointer (some ⟨q0, 0, none⟩), .pointer (some ⟨q1, 0, none⟩), .pointer (some ⟨q2, 0, none⟩), .pointer (some ⟨q3, 0, none⟩), .pointer (some ⟨q4, 0, none⟩)])
 | c_loses_1_1 {q0 : Nat} {v0 : Value} {x0 : Clo} (g0 : BK h q0 [v0] 201) (k0 : CO h bT bC [] x0 v0) : CO h bT bC [] (.c_loses_1_1 x0) (.func (.func 149) #[] #[.pointer (some ⟨q0, 0, none⟩)])
 | c_loses_1_2 {q0 : Nat} {q1 : Nat} {x0 : Tbst_info}  {q2 : Nat} {x1 : Int}  {q3 : Nat} {v3 : Value} {x2 : Clo} (g0 : BK h q0 [.pointer (some ⟨bT, 0, none⟩)] 61) (g1 : BK h q1 [.int .i64 x0.grand, .int .i64 x0.parent, .int .i64 x0.leaf, .int .i64 x0.next, .int .u64 x0.was] 155) (g2 : BK h q2 [.int .i64 x1] 3) (g3 : BK h q3 [v3] 201) (k3 : CO h bT bC [] x2 v3) : CO h bT bC [] (.c_loses_1_2 x0 x1 x2) (.func (.func 150) #[] #[.pointer (some ⟨q0, 0, none⟩), .pointer (some ⟨q1, 0, none⟩), .pointer (some ⟨q2, 0, none⟩), .pointer (some ⟨q3, 0, none⟩)])
 | c_loses_1_2_1 {q0 : Nat} {v0 : Value} {x0 : Clo} (g0 : BK h q0 [v0] 201) (k0 : CO h bT bC [] x0 v0) : CO h bT bC [] (.c_loses_1_2_1 x0) (.func (.func 152) #[] #[.pointer (some ⟨q0, 0, none⟩)])
 | c_grows_1 {q0 : Nat} {q1 : Nat} {x0 : Tbst_info}  {q2 : Nat} {x1 : Int}  {q3 : Nat} {v3 : Value} {x2 : Clo} (g0 : BK h q0 [.pointer (some ⟨bT, 0, none⟩)] 61) (g1 : BK h q1 [.int .i64 x0.grand, .int .i64 x0.parent, .int .i64 x0.leaf, .int .i64 x0.next, .int .u64 x0.was] 155) (g2 : BK h q2 [.int .i64 x1] 3) (g3 : BK h q3 [v3] 134) (k3 : CO h bT bC [] x2 v3) : CO h bT bC [] (.c_grows_1 x0 x1 x2) (.func (.func 154) #[] #[.pointer (some ⟨q0, 0, none⟩), .pointer (some ⟨q1, 0, none⟩), .pointer (some ⟨q2, 0, none⟩), .pointer (some ⟨q3, 0, none⟩)])
 | c_goes_1 {q0 : Nat} {q1 : Nat} {x0 : Tbst_info}  {q2 : Nat} {x1 : Int}  {q3 : Nat} {v3 : Value} {x2 : Clo} (g0 : BK h q0 [.pointer (some ⟨bT, 0, none⟩)] 61) (g1 : BK h q1 [.int .i64 x0.grand, .int .i64 x0.parent, .int .i64 x0.leaf, .int .i64 x0.next, .int .u64 x0.was] 155) (g2 : BK h q2 [.int .i64 x1] 3) (g3 : BK h q3 [v3] 134) (k3 : CO h bT bC [] x2 v3) : CO h bT bC [] (.c_goes_1 x0 x1 x2) (.func (.func 155) #[] #[.pointer (some ⟨q0, 0, none⟩), .pointer (some ⟨q1, 0, none⟩), .pointer (some ⟨q2, 0, none⟩), .pointer (some ⟨q3, 0, none⟩)])
 | c_goes_1_1 {q0 : Nat} {q1 : Nat} {x0 : Tbst_info}  {q2 : Nat} {x1 : Int}  {q3 : Nat} {v3 : Value} {x2 : Clo} (g0 : BK h q0 [.pointer (some ⟨bT, 0, none⟩)] 61) (g1 : BK h q1 [.int .i64 x0.grand, .int .i64 x0.parent, .int .i64 x0.leaf, .int .i64 x0.next, .int .u64 x0.was] 155) (g2 : BK h q2 [.int .i64 x1] 3) (g3 : BK h q3 [v3] 134) (k3 : CO h bT bC [] x2 v3) : CO h bT bC [] (.c_goes_1_1 x0 x1 x2) (.func (.func 156) #[] #[.pointer (some ⟨q0, 0, none⟩), .pointer (some ⟨q1, 0, none⟩), .pointer (some ⟨q2, 0, none⟩), .pointer (some ⟨q3, 0, none⟩)])
 | c_goes_2 {q0 : Nat} {q1 : Nat} {x0 : Tbst_info}  {q2 : Nat} {v2 : Value} {x1 : Clo} (g0 : BK h q0 [.pointer (some ⟨bT, 0, none⟩)] 61) (g1 : BK h q1 [.int .i64 x0.grand, .int .i64 x0.parent, .int .i64 x0.leaf, .int .i64 x0.next, .int .u64 x0.was] 155) (g2 : BK h q2 [v2] 210) (k2 : CO h bT bC [] x1 v2) : CO h bT bC [] (.c_goes_2 x0 x1) (.func (.func 157) #[] #[.pointer (some ⟨q0, 0, none⟩), .pointer (some ⟨q1, 0, none⟩), .pointer (some ⟨q2, 0, none⟩)])
 | c_goes_2_1 {q0 : Nat} {q1 : Nat} {x0 : Tbst_info}  {q2 : Nat} {v2 : Value} {x1 : Clo} (g0 : BK h q0 [.pointer (some ⟨bT, 0, none⟩)] 61) (g1 : BK h q1 [.int .i64 x0.grand, .int .i64 x0.parent, .int .i64 x0.leaf, .int .i64 x0.next, .int .u64 x0.was] 155) (g2 : BK h q2 [v2] 210) (k2 : CO h bT bC [] x1 v2) : CO h bT bC [] (.c_goes_2_1 x0 x1) (.func (.func 158) #[] #[.pointer (some ⟨q0, 0, none⟩), .pointer (some ⟨q1, 0, none⟩), .pointer (some ⟨q2, 0, none⟩)])
 | c_clean_1 {q0 : Nat} {q1 : Nat} {x0 : Int}  {q2 : Nat} {x1 : Int}  {q3 : Nat} {x2 : Int}  {q4 : Nat} {v4 : Value} {x3 : Clo} (g0 : BK h q0 [.pointer (some ⟨bT, 0, none⟩)] 61) (g1 : BK h q1 [.int .i64 x0] 3) (g2 : BK h q2 [.int .i64 x1] 3) (g3 : BK h q3 [.int .i64 x2] 3) (g4 : BK h q4 [v4] 134) (k4 : CO h bT bC [] x3 v4) : CO h bT bC [] (.c_clean_1 x0 x1 x2 x3) (.func (.func 159) #[] #[.pointer (some ⟨q0, 0, none⟩), .pointer (some ⟨q1, 0, none⟩), .pointer (some ⟨q2, 0, none⟩), .pointer (some ⟨q3, 0, none⟩), .pointer (some ⟨q4, 0, none⟩)])
 | c_turn_1 {q0 : Nat} {q1 : Nat} {x0 : Int}  {q2 : Nat} {x1 : Int}  {q3 : Nat} {x2 : Int}  {q4 : Nat} {v4 : Value} {x3 : Clo} (g0 : BK h q0 [.pointer (some ⟨bT, 0, none⟩)] 61) (g1 : BK h q1 [.int .i64 x0] 3) (g2 : BK h q2 [.int .i64 x1] 3) (g3 : BK h q3 [.int .i64 x2] 3) (g4 : BK h q4 [v4] 134) (k4 : CO h bT bC [] x3 v4) : CO h bT bC [] (.c_turn_1 x0 x1 x2 x3) (.func (.func 160) #[] #[.pointer (some ⟨q0, 0, none⟩), .pointer (some ⟨q1, 0, none⟩), .pointer (some ⟨q2, 0, none⟩), .pointer (some ⟨q3, 0, none⟩), .pointer (some ⟨q4, 0, none⟩)])
theorem CO.ext {h h' : Heap} {bT bC : Nat} {seg : List Blk} {x : Clo} {v : Value} (c : CO h bT bC seg x v) (e : Kn h h') : CO h' bT bC seg x v := by
 induction c with
 | c_Find_1_1 g0 g1 g2 => exact .c_Find_1_1 (g0.ext e) (g1.ext e) (g2.ext e)
 | c_Seek_1_1 g0 g1 g2 => exact .c_Seek_1_1 (g0.ext e) (g1.ext e) (g2.ext e)
 | c_insert_1 g0 g1 g2 => exact .c_insert_1 (g0.ext e) (g1.ext e) (g2.ext e)
 | c_insert_2 g0 g1 g2 g3 k3 i3 => exact .c_insert_2 (g0.ext e) (g1.ext e) (g2.ext e) (g3.ext e) i3
 | c_down_1 g0 g2 g3 k3 i3 => exact .c_down_1 (g0.ext e) (g2.ext e) (g3.ext e) i3
 | c_down_1_1 g0 g2 g3 k3 i3 => exact .c_down_1_1 (g0.ext e) (g2.ext e) (g3.ext e) i3
 | c_least_1 g0 g1 g2 => exact .c_least_1 (g0.ext e) (g1.ext e) (g2.ext e)
 | c_help_1 g0 k0 i0 => exact .c_help_1 (g0.ext e) i0
 | c_grow_1 g0 g1 g2 g3 g4 g5 g6 g7 => exact .c_grow_1 (g0.ext e) (g1.ext e) (g2.ext e) (g3.ext e) (g4.ext e) (g5.ext e) (g6.ext e) (g7.ext e)
 | c_grow_1_1 g0 g1 g2 g3 g4 g5 g6 => exact .c_grow_1_1 (g0.ext e) (g1.ext e) (g2.ext e) (g3.ext e) (g4.ext e) (g5.ext e) (g6.ext e)
 | c_grow_1_1_1 g0 g1 g2 g3 g4 => exact .c_grow_1_1_1 (g0.ext e) (g1.ext e) (g2.ext e) (g3.ext e) (g4.ext e)
 | c_grow_1_1_1_1 g0 g1 g2 => exact .c_grow_1_1_1_1 (g0.ext e) (g1.ext e) (g2.ext e)
 | c_grow_1_1_1_2 g0 g1 => exact .c_grow_1_1_1_2 (g0.ext e) (g1.ext e)
 | c_loses_1 g0 g1 g2 g3 g4 k4 i4 => exact .c_loses_1 (g0.ext e) (g1.ext e) (g2.ext e) (g3.ext e) (g4.ext e) i4
 | c_loses_1_1 g0 k0 i0 => exact .c_loses_1_1 (g0.ext e) i0
 | c_loses_1_2 g0 g1 g2 g3 k3 i3 => exact .c_loses_1_2 (g0.ext e) (g1.ext e) (g2.ext e) (g3.ext e) i3
 | c_loses_1_2_1 g0 k0 i0 => exact .c_loses_1_2_1 (g0.ext e) i0
 | c_grows_1 g0 g1 g2 g3 k3 i3 => exact .c_grows_1 (g0.ext e) (g1.ext e) (g2.ext e) (g3.ext e) i3
 | c_goes_1 g0 g1 g2 g3 k3 i3 => exact .c_goes_1 (g0.ext e) (g1.ext e) (g2.ext e) (g3.ext e) i3
 | c_goes_1_1 g0 g1 g2 g3 k3 i3 => exact .c_goes_1_1 (g0.ext e) (g1.ext e) (g2.ext e) (g3.ext e) i3
 | c_goes_2 g0 g1 g2 k2 i2 => exact .c_goes_2 (g0.ext e) (g1.ext e) (g2.ext e) i2
 | c_goes_2_1 g0 g1 g2 k2 i2 => exact .c_goes_2_1 (g0.ext e) (g1.ext e) (g2.ext e) i2
 | c_clean_1 g0 g1 g2 g3 g4 k4 i4 => exact .c_clean_1 (g0.ext e) (g1.ext e) (g2.ext e) (g3.ext e) (g4.ext e) i4
 | c_turn_1 g0 g1 g2 g3 g4 k4 i4 => exact .c_turn_1 (g0.ext e) (g1.ext e) (g2.ext e) (g3.ext e) (g4.ext e) i4
theorem CO.nd {h : Heap} {bT bC : Nat} {seg : List Blk} {x : Clo} {v : Value} (c : CO h bT bC seg x v) : ∀ e ∈ seg, e.o ≠ .dead := by
 cases c <;> intro e he <;> simp only [List.mem_singleton, List.not_mem_nil] at he <;> subst he <;> intro q <;> cases q
theorem CO.one {h : Heap} {bT bC : Nat} {seg : List Blk} {x : Clo} {v : Value} (c : CO h bT bC seg x v) : v.cells.toList = [v] := by cases c <;> rfl
theorem CO.sz {h : Heap} {bT bC : Nat} {seg : List Blk} {x : Clo} {v : Value} (c : CO h bT bC seg x v) : Nat.beq v.cells.size 1 = true := by cases c <;> rfl
theorem CO.okc {h : Heap} {bT bC : Nat} {seg : List Blk} {x : Clo} {v : Value} (c : CO h bT bC seg x v) : [v].all cellOk = true := by cases c <;> rfl
inductive OC (h : Heap) (bT bC : Nat) : List Blk → Option Clo → Value → Prop
 | none : OC h bT bC [] none .nilFunc
 | some {seg : List Blk} {x : Clo} {v : Value} (c : CO h bT bC seg x v) : OC h bT bC seg (some x) v
theorem OC.ext {h h' : Heap} {bT bC : Nat} {seg : List Blk} {x : Option Clo} {v : Value} (c : OC h bT bC seg x v) (e : Kn h h') : OC h' bT bC seg x v := by
 cases c with
 | none => exact .none
 | some c => exact .some (c.ext e)
theorem OC.nd {h : Heap} {bT bC : Nat} {seg : List Blk} {x : Option Clo} {v : Value} (c : OC h bT bC seg x v) : ∀ e ∈ seg, e.o ≠ .dead := by
 cases c with
 | none => intro e he; cases he
 | some c => exact c.nd
theorem OC.one {h : Heap} {bT bC : Nat} {seg : List Blk} {x : Option Clo} {v : Value} (c : OC h bT bC seg x v) : v.cells.toList = [v] := by
 cases c with
 | none => rfl
 | some c => exact c.one
theorem OC.sz {h : Heap} {bT bC : Nat} {seg : List Blk} {x : Option Clo} {v : Value} (c : OC h bT bC seg x v) : Nat.beq v.cells.size 1 = true := by
 cases c with
 | none => rfl
 | some c => exact c.sz
theorem OC.okc {h : Heap} {bT bC : Nat} {seg : List Blk} {x : Option Clo} {v : Value} (c : OC h bT bC seg x v) : [v].all cellOk = true := by
 cases c with
 | none => rfl
 | some c => exact c.okc
theorem OC.get {h : Heap} {bT bC : Nat} {seg : List Blk} {x : Option Clo} {y : Clo} {v : Value} (c : OC h bT bC seg x v) (e : x = Option.some y) : CO h bT bC seg y v := by
 cases c with
 | none => cases e
 | some c => cases e; exact c
theorem OC.eqn {h : Heap} {bT bC : Nat} {seg : List Blk} {x : Option Clo} {v : Value} (c : OC h bT bC seg x v) : binV EE .eql 135 v .nilFunc = Option.some (Value.bool x.isNone) := by
 cases c with
 | none => kernel_rfl
 | some c => cases c <;> kernel_rfl
theorem OC.nen {h : Heap} {bT bC : Nat} {seg : List Blk} {x : Option Clo} {v : Value} (c : OC h bT bC seg x v) : binV EE .neq 135 v .nilFunc = Option.some (Value.bool x.isSome) := by
 cases c with
 | none => kernel_rfl
 | some c => cases c <;> kernel_rfl
theorem ndc {h : Heap} {bT bC : Nat} {seg : List Blk} {x : Option Clo} {v : Value} {r : List (List Blk)} (c : OC h bT bC seg x v) (k : ∀ e ∈ r.flatten, e.o ≠ .dead) : ∀ e ∈ (seg :: r : List (List Blk)).flatten, e.o ≠ .dead := by
 intro e he
 rw [List.flatten_cons] at he
 rcases List.mem_append.mp he with q | q
 ·
  exact c.nd e q
 ·
  exact k e q
end Go.Proofs.YtndhbaidibioeaaGreat.V
namespace Go.Proofs.YtndhbaidibioeaaGreat.V
open Go
set_option linter.unusedVariables false
set_option linter.unusedSimpArgs false
section
variable {X : Cx} {st : List It} {l : L} {h0 : Heap} {segs pieces rest : List (List Blk)}
theorem gs_pack (P : List Blk → Prop) (tk : Takes pieces segs rest) (h : P pieces.flatten) (g : ∀ s, P s → Goes X st l (s :: rest).flatten h0) : Goes X st l segs.flatten h0 := by
 refine go_perm tk.perm ?_
 have := g _ h
 rwa [List.flatten_cons, ← List.flatten_append] at this
theorem gs_unz (g : Goes X st l (pieces ++ rest).flatten h0) : Goes X st l (pieces.flatten :: rest).flatten h0 := by
 rw [List.flatten_append] at g
 exact g
end
theorem nd1 {s : List Blk} {r : List (List Blk)} (c : ∀ e ∈ s, e.o ≠ .dead) (k : ∀ e ∈ r.flatten, e.o ≠ .dead) : ∀ e ∈ (s :: r : List (List Blk)).flatten, e.o ≠ .dead := by
 intro e he
 rw [List.flatten_cons] at he
 rcases List.mem_append.mp he with q | q
 ·
  exact c e q
 ·
  exact k e q
section
variable {E : Env} {nt : Nat} {res : List ResultVar} {hh h0 : Heap} {Q : Value → List (List Blk) → Heap → Prop} {st : List It} {l : L} {segs S rest : List (List Blk)} {vs : List Value}
theorem g_retO (h : RS ⟨E, nt, res, fun v h' => ∃ segs' h1 hf', HExt hh h1 ∧ Wf h1 ∧ Has segs'.flatten h1 h' hf' ∧ (∀ e ∈ segs'.flatten, e.o ≠ .dead) ∧ Q v segs' h1⟩ l segs.flatten h0 res vs) (tk : Takes S segs rest) (e : HExt hh h0) (w : Wf h0) (nd : ∀ e ∈ S.flatten, e.o ≠ .dead) (hq : Q (packV vs) S h0) :
 Goes ⟨E, nt, res, fun v h' => ∃ segs' h1 hf', HExt hh h1 ∧ Wf h1 ∧ Has segs'.flatten h1 h' hf' ∧ (∀ e ∈ segs'.flatten, e.o ≠ .dead) ∧ Q v segs' h1⟩ (.code .ret :: st) l segs.flatten h0 :=
 g_ret h fun h1 hf hs => by
  have hs2 := hs.perm tk.perm
  rw [List.flatten_append] at hs2
  obtain ⟨hf', hs3⟩ := hs2.sub (List.sublist_append_left _ _)
  exact ⟨S, h0, hf', e, w, hs3, nd, hq⟩
theorem g_endO (h : RS ⟨E, nt, res, fun v h' => ∃ segs' h1 hf', HExt hh h1 ∧ Wf h1 ∧ Has segs'.flatten h1 h' hf' ∧ (∀ e ∈ segs'.flatten, e.o ≠ .dead) ∧ Q v segs' h1⟩ l segs.flatten h0 res vs) (tk : Takes S segs rest) (e : HExt hh h0) (w : Wf h0) (nd : ∀ e ∈ S.flatten, e.o ≠ .dead) (hq : Q (packV vs) S h0) :
 Goes ⟨E, nt, res, fun v h' => ∃ segs' h1 hf', HExt hh h1 ∧ Wf h1 ∧ Has segs'.flatten h1 h' hf' ∧ (∀ e ∈ segs'.flatten, e.o ≠ .dead) ∧ Q v segs' h1⟩ [] l segs.flatten h0 :=
 g_end h fun h1 hf hs => by
  have hs2 := hs.perm tk.perm
  rw [List.flatten_append] at hs2
  obtain ⟨hf', hs3⟩ := hs2.sub (List.sublist_append_left _ _)
  exact ⟨S, h0, hf', e, w, hs3, nd, hq⟩
end
theorem ca_ {α : Type} {a : α} {b c : List α} : a :: b ++ c = a :: (b ++ c) := List.cons_append
theorem na_ {α : Type} {b : List α} : [] ++ b = b := List.nil_append b
abbrev pt (b : Nat) : Value := .pointer (some ⟨b, 0, none⟩)
theorem ld_bkw {E : Env} {t T : TypeId} {b n : Nat} {cs : List Value} {h : Heap} (ht : isAggT E.P t = some true) (hz : sz E.P t = some n) (hb : BK h b cs T) (hl : cs.length = n) : loadV E h t ⟨b, 0, none⟩ = some (.agg cs.toArray) :=
 ld_bk ht hz hb (by omega) (by rw [List.drop_zero]; exact List.take_of_length_le (by omega))
section
variable {X : Cx} {st : List It} {l : L} {h0 : Heap} {segs F rest : List (List Blk)}
variable {r : Array Oper} {q : Bool} {os : List Oper} {d x : Nat} {ty : TypeId} {pos : String} {aft : Array Edge}
theorem glc {t T : TypeId} {b off : Nat} {cs : List Value} {v : Value} (ha : isAggT X.E.P t = some false) (g : BK h0 b cs T) (hn : Nat.blt d X.nt = true) (hx : lk l x = some (true, .pointer (some ⟨b, off, none⟩))) (hv : cs[off]? = some v)
 (k : Goes X (.ops r q os :: st) ((d, true, v) :: l) segs.flatten h0) : Goes X (.ops r q (⟨some d, .load t (.tmp x), ty, pos, aft, none⟩ :: os) :: st) l segs.flatten h0 :=
 gr hn (r_load (ot hx) (lo_e fun hf kn => ld_cell ha (g.ext kn) hv)) k
theorem glb {t T : TypeId} {b n : Nat} {cs : List Value} (ha : isAggT X.E.P t = some true) (hz : sz X.E.P t = some n) (g : BK h0 b cs T) (hn : Nat.blt d X.nt = true) (hx : lk l x = some (true, .pointer (some ⟨b, 0, none⟩))) (hl : cs.length = n)
 (k : Goes X (.ops r q os :: st) ((d, true, .agg cs.toArray) :: l) segs.flatten h0) : Goes X (.ops r q (⟨some d, .load t (.tmp x), ty, pos, aft, none⟩ :: os) :: st) l segs.flatten h0 :=
 gr hn (r_load (ot hx) (lo_e fun hf kn => ld_bkw ha hz (g.ext kn) hl)) k
theorem gls (i : Nat) {t T : TypeId} {b off : Nat} {cs : List Value} {v : Value} (ha : isAggT X.E.P t = some false) (hn : Nat.blt d X.nt = true) (hx : lk l x = some (true, .pointer (some ⟨b, off, none⟩))) (hs : segs[i]? = some [⟨b, .cells cs T⟩]) (hv : cs[off]? = some v)
 (k : Goes X (.ops r q os :: st) ((d, true, v) :: l) segs.flatten h0) : Goes X (.ops r q (⟨some d, .load t (.tmp x), ty, pos, aft, none⟩ :: os) :: st) l segs.flatten h0 :=
 gr hn (r_load (ot hx) (lm_s (mem_seg i hs) ha hv)) k
theorem glw (i : Nat) {t T : TypeId} {b n : Nat} {cs : List Value} (ha : isAggT X.E.P t = some true) (hz : sz X.E.P t = some n) (hn : Nat.blt d X.nt = true) (hx : lk l x = some (true, .pointer (some ⟨b, 0, none⟩))) (hs : segs[i]? = some [⟨b, .cells cs T⟩]) (hl : cs.length = n)
 (k : Goes X (.ops r q os :: st) ((d, true, .agg cs.toArray) :: l) segs.flatten h0) : Goes X (.ops r q (⟨some d, .load t (.tmp x), ty, pos, aft, none⟩ :: os) :: st) l segs.flatten h0 :=
 gr hn (r_load (ot hx) (lm_w (mem_seg i hs) ha hz hl)) k
theorem gF {s : TypeId} {f : Nat} {a v : Value} (h : fieldAddrV X.E s a f = some v) (hn : Nat.blt d X.nt = true) (hx : lk l x = some (true, a))
 (k : Goes X (.ops r q os :: st) ((d, true, v) :: l) segs.flatten h0) : Goes X (.ops r q (⟨some d, .fieldAddr s (.tmp x) f, ty, pos, aft, none⟩ :: os) :: st) l segs.flatten h0 :=
 gr hn (r_fa (ot hx) h) k
theorem gN {a : Addr} (hn : Nat.blt d X.nt = true) (hx : lk l x = some (true, .pointer (some a)))
 (k : Goes X (.ops r q os :: st) ((d, true, .pointer (some a)) :: l) segs.flatten h0) : Goes X (.ops r q (⟨some d, .nilCheck (.tmp x), ty, pos, aft, none⟩ :: os) :: st) l segs.flatten h0 :=
 gr hn (r_nilck (ot hx)) k
def okD (nt : Nat) : Option Nat → Bool
 | some d => Nat.blt d nt
 | none => true
theorem kcX {dst : Option Nat} {f : Operand} {xs : Array Operand} {ts : Array TypeId} {gf : FuncId} {fi ca : Array Value} {vs : List Value} {Q : Value → List (List Blk) → Heap → Prop}
 (hF : FramedE X.E) (hw0 : Wf h0) (hp : Takes F segs rest) (hn : okD X.nt dst = true) (hf' : OP l true f (.func (.func gf) fi ca)) (hx : OPs l true xs.toList vs) (hb : hasBody X.E.P gf = true)
 (hs : EvO X.E gf (fi.toList ++ (vs ++ ca.toList)) F h0 Q)
 (kk : ∀ v F' h1, HExt h0 h1 → Wf h1 → Q v F' h1 → Goes X (.ops r false os :: st) (match (generalizing := false) dst with | some d => (d, true, v) :: l | none => l) (F' ++ rest).flatten h1) :
 Goes X (.ops r false (⟨dst, .call ⟨.value f, xs, ts⟩, ty, pos, aft, none⟩ :: os) :: st) l segs.flatten h0 := by
 cases dst with
 | none => exact gs_call hF hw0 hp (fun _ h => by cases h) hf' hx hb hs kk
 | some d => exact gs_call hF hw0 hp (fun _ h => by cases h; exact hn) hf' hx hb hs kk
theorem gs_calli {dst : Option Nat} {iv : Operand} {name : String} {t : TypeId} {rv : Value} {xs : Array Operand} {ts : Array TypeId} {gf : FuncId} {vs : List Value} {Q : Value → List (List Blk) → Heap → Prop}
 (hF : FramedE X.E) (hw0 : Wf h0) (hp : Takes F segs rest) (hn : ∀ d, dst = some d → Nat.blt d X.nt = true) (hf' : OP l true iv (.iface t rv)) (hm : X.E.meth t name = some gf) (hx : OPs l true xs.toList vs) (hb : hasBody X.E.P gf = true)
 (hs : EvO X.E gf (rv :: vs) F h0 Q)
 (kk : ∀ v F' h1, HExt h0 h1 → Wf h1 → Q v F' h1 → Goes X (.ops r false os :: st) (match dst with | some d => (d, true, v) :: l | none => l) (F' ++ rest).flatten h1) :
 Goes X (.ops r false (⟨dst, .call ⟨.invoke iv name, xs, ts⟩, ty, pos, aft, none⟩ :: os) :: st) l segs.flatten h0 := by
 refine go_perm hp.perm ?_
 intro fr h hf ag hs'
 rw [List.flatten_append] at hs'
 obtain ⟨hm', m1, m2⟩ := Has.split _ _ _ hs'
 obtain ⟨n, v, h', F', h1, hf2, hr, e1, w1, m3, nd, hq⟩ := hs hm' hf m2
 obtain ⟨h2, hr2, mk, kp⟩ := run_msk hF n (inOwn rest.flatten) hm' h gf _ v h' m1.msk hr
 have ho : opV X.E (run X.E n) fr h (.call ⟨.invoke iv name, xs, ts⟩) = some (v, h2) := by
  simp only [opV, readV, writeV, calleeV, hf' fr ag rfl, hm, hx fr ag rfl, hb, cond_true]
  exact hr2
 have hh := Has.join (hf := hf) m1 e1.lim m3 nd mk kp
 rw [← List.flatten_append] at hh
 cases dst with
 | none => exact step_op rfl ho rfl (kk v F' h1 e1 w1 hq _ _ _ ag hh)
 | some d => exact step_op rfl ho (put_some (hn d rfl) _ _) (kk v F' h1 e1 w1 hq _ _ _ (ag.set d true v) hh)
theorem ops_t {xs : List Operand} {v : Value} {vs : List Value} {g : Bool} (h : lk l x = some (true, v)) (k : OPs l g xs vs) : OPs l g (.tmp x :: xs) (v :: vs) := os1 (ot h) k
theorem ops_c {xs : List Operand} {v : Value} {vs : List Value} {g : Bool} (h : plainN 4 v = true) (k : OPs l g xs vs) : OPs l g (.const v :: xs) (v :: vs) := os1 (oc h) k
theorem rcc {i : Nat} {t T : TypeId} {b off : Nat} {cs : List Value} {v : Value} {vs : List (Nat × Value)} (ha : isAggT X.E.P t = some false) (g : BK h0 b cs T) (ho : r[i]? = some ⟨some d, .load t (.tmp x), ty, pos, aft, none⟩) (hx : lk l x = some (true, .pointer (some ⟨b, off, none⟩))) (hv : cs[off]? = some v)
 (k : ∀ fr h hf, Agree l fr → Has segs.flatten h0 h hf → Rcd X.E r vs fr h) : ∀ fr h hf, Agree l fr → Has segs.flatten h0 h hf → Rcd X.E r ((i, v) :: vs) fr h :=
 rc1 ho (r_load (ot hx) (lo_e fun hf kn => ld_cell ha (g.ext kn) hv)) k
theorem rcs (j : Nat) {i : Nat} {t T : TypeId} {b off : Nat} {cs : List Value} {v : Value} {vs : List (Nat × Value)} (ha : isAggT X.E.P t = some false) (ho : r[i]? = some ⟨some d, .load t (.tmp x), ty, pos, aft, none⟩) (hx : lk l x = some (true, .pointer (some ⟨b, off, none⟩))) (hs : segs[j]? = some [⟨b, .cells cs T⟩]) (hv : cs[off]? = some v)
 (k : ∀ fr h hf, Agree l fr → Has segs.flatten h0 h hf → Rcd X.E r vs fr h) : ∀ fr h hf, Agree l fr → Has segs.flatten h0 h hf → Rcd X.E r ((i, v) :: vs) fr h :=
 rc1 ho (r_load (ot hx) (lm_s (mem_seg j hs) ha hv)) k
end
def sq : Nat → Nat → List (Nat × List Nat)
 | _, 0 => []
 | i, n + 1 => (i, []) :: sq (i + 1) n
end Go.Proofs.YtndhbaidibioeaaGreat.V
namespace Go.Proofs.YtndhbaidibioeaaGreat.V
open Go
set_option linter.unusedVariables false
set_option linter.unusedSimpArgs false
structure OR (γ : Type) where
 C : Heap → Nat → List Blk → γ → Prop
 mono : ∀ {h h' b s x}, Kn h h' → C h b s x → C h' b s x
 nd : ∀ {h b s x}, C h b s x → ∀ e ∈ s, e.o ≠ .dead
def ptO : Option Nat → Value
 | none => .pointer none
 | some b => .pointer (some ⟨b, 0, none⟩)
variable {γ : Type} {R : OR γ}
theorem nox {α : Type} {P : Prop} {r : α} (h : (none : Option α) = some r) : P := nomatch h
theorem Sub8 {m l : L} {t1 t2 t3 t4 t5 t6 t7 t8 : Nat} {g1 g2 g3 g4 g5 g6 g7 g8 : Bool} {v1 v2 v3 v4 v5 v6 v7 v8 : Value} (s : Sub m l) (h1 : lk l t1 = some (g1, v1)) (h2 : lk l t2 = some (g2, v2)) (h3 : lk l t3 = some (g3, v3)) (h4 : lk l t4 = some (g4, v4)) (h5 : lk l t5 = some (g5, v5)) (h6 : lk l t6 = some (g6, v6)) (h7 : lk l t7 = some (g7, v7)) (h8 : lk l t8 = some (g8, v8)) : Sub ((t8, g8, v8) :: (t7, g7, v7) :: (t6, g6, v6) :: (t5, g5, v5) :: (t4, g4, v4) :: (t3, g3, v3) :: (t2, g2, v2) :: (t1, g1, v1) :: m) l := .cons (.cons (.cons (.cons (.cons (.cons (.cons (.cons s h1) h2) h3) h4) h5) h6) h7) h8
def hdq (s : List Blk) : Option Nat := s.head?.map (fun e => e.b)
def OQ (R : OR γ) (h : Heap) (s : List Blk) (x : Option γ) : Prop := (x = none ∧ s = []) ∨ ∃ b c, x = some c ∧ hdq s = some b ∧ R.C h b s c
theorem OQ.ext {h h' : Heap} {s : List Blk} {x : Option γ} (o : OQ R h s x) (e : Kn h h') : OQ R h' s x := by
 rcases o with q | ⟨b, c, h1, h2, h3⟩
 ·
  exact .inl q
 ·
  exact .inr ⟨b, c, h1, h2, R.mono e h3⟩
theorem OQ.nd {h : Heap} {s : List Blk} {x : Option γ} (o : OQ R h s x) : ∀ e ∈ s, e.o ≠ .dead := by
 rcases o with ⟨_, q⟩ | ⟨b, c, h1, h2, h3⟩
 ·
  subst q; intro e he; cases he
 ·
  exact R.nd h3
theorem OQ.mk0 {h : Heap} : OQ R h [] none := .inl ⟨rfl, rfl⟩
theorem OQ.mks {h : Heap} {b : Nat} {s : List Blk} {c : γ} (e : hdq s = some b) (k : R.C h b s c) : OQ R h s (some c) := .inr ⟨b, c, rfl, e, k⟩
theorem OQ.no {h : Heap} {s : List Blk} {x : Option γ} (o : OQ R h s x) (e : x = none) : s = [] := by
 rcases o with ⟨_, q⟩ | ⟨b, c, h1, _⟩
 ·
  exact q
 ·
  rw [e] at h1; cases h1
theorem OQ.get {h : Heap} {s : List Blk} {x : Option γ} {c : γ} (o : OQ R h s x) (e : x = some c) : ∃ b, hdq s = some b ∧ R.C h b s c := by
 rcases o with ⟨q, _⟩ | ⟨b, c', h1, h2, h3⟩
 ·
  rw [e] at q; cases q
 ·
  rw [e] at h1; cases h1; exact ⟨b, h2, h3⟩
theorem OQ.case {P : Value → Bool → Prop} {h : Heap} {s : List Blk} {x : Option γ} (o : OQ R h s x) (h0 : P (.pointer none) true) (h1 : ∀ b : Nat, P (.pointer (some ⟨b, 0, none⟩)) false) : P (ptO (hdq s)) x.isNone := by
 rcases o with ⟨rfl, rfl⟩ | ⟨b, c, rfl, h2, _⟩
 ·
  exact h0
 ·
  rw [h2]; exact h1 b
end Go.Proofs.YtndhbaidibioeaaGreat.V
namespace Go.Proofs.YtndhbaidibioeaaGreat.V
open Go
set_option linter.unusedVariables false
set_option linter.unusedSimpArgs false
set_option maxRecDepth 100000
def Zmem_Mem (h : Heap) (b0 : Nat) (s : List Blk) (x0 : Omem_Mem) : Prop := ∃ q_0 t_0, s = List.flatten [[⟨b0, .cells [.slice q_0 x0.cells.length x0.cells.length, .int .i64 x0.count] 107⟩], t_0] ∧ AccR (RI_ .u64 93) 93 h t_0 (.slice q_0 x0.cells.length x0.cells.length) x0.cells
theorem Zmem_Mem.ext {h h' : Heap} {b0 : Nat} {s : List Blk} {x0 : Omem_Mem} (y : Zmem_Mem h b0 s x0) (e : Kn h h') : Zmem_Mem h' b0 s x0 := by
 obtain ⟨q_0, t_0, rfl, f0⟩ := y
 exact ⟨q_0, t_0, rfl, f0.ext e⟩
theorem Zmem_Mem.nd {h : Heap} {b0 : Nat} {s : List Blk} {x0 : Omem_Mem} (y : Zmem_Mem h b0 s x0) : ∀ e ∈ s, e.o ≠ .dead := by
 obtain ⟨q_0, t_0, rfl, f0⟩ := y
 exact (ndb (by intro e; cases e) (ndt f0 nd0))
def Zbst_Tree (h : Heap) (b0 b1 : Nat) (s : List Blk) (x0 : Obst_Tree) (x1 : Omem_Mem) : Prop := ∃ q_1 t_1 q_2 t_2 z_0, s = List.flatten [[⟨b0, .cells [.pointer (some ⟨b1, 0, none⟩), .slice q_1 x0.nodes.length x0.nodes.length, .slice q_2 x0.infos.length x0.infos.length] 131⟩], t_1, t_2, z_0] ∧ AccR R_Tbst_node 127 h t_1 (.slice q_1 x0.nodes.length x0.nodes.length) x0.nodes ∧ AccR R_Tbst_info 155 h t_2 (.slice q_2 x0.infos.length x0.infos.length) x0.infos ∧ Zmem_Mem h b1 z_0 x1
theorem Zbst_Tree.ext {h h' : Heap} {b0 b1 : Nat} {s : List Blk} {x0 : Obst_Tree} {x1 : Omem_Mem} (y : Zbst_Tree h b0 b1 s x0 x1) (e : Kn h h') : Zbst_Tree h' b0 b1 s x0 x1 := by
 obtain ⟨q_1, t_1, q_2, t_2, z_0, rfl, f0, f1, f2⟩ := y
 exact ⟨q_1, t_1, q_2, t_2, z_0, rfl, f0.ext e, f1.ext e, f2.ext e⟩
theorem Zbst_Tree.nd {h : Heap} {b0 b1 : Nat} {s : List Blk} {x0 : Obst_Tree} {x1 : Omem_Mem} (y : Zbst_Tree h b0 b1 s x0 x1) : ∀ e ∈ s, e.o ≠ .dead := by
 obtain ⟨q_1, t_1, q_2, t_2, z_0, rfl, f0, f1, f2⟩ := y
 exact (ndb (by intro e; cases e) (ndt f0 (ndt f1 (nd1 f2.nd nd0))))
def Zbst_Call (h : Heap) (b0 : Nat) (s : List Blk) (x0 : Obst_Call) : Prop := ∃ v_4, s = List.flatten [[⟨b0, .cells [.bool x0.told_Ok, .string x0.told_Key, .int .u64 x0.told_Val, .int .i64 x0.told_Err, v_4] 146⟩]]
theorem Zbst_Call.ext {h h' : Heap} {b0 : Nat} {s : List Blk} {x0 : Obst_Call} (y : Zbst_Call h b0 s x0) (e : Kn h h') : Zbst_Call h' b0 s x0 := by
 obtain ⟨v_4, rfl⟩ := y
 exact ⟨v_4, rfl⟩
theorem Zbst_Call.nd {h : Heap} {b0 : Nat} {s : List Blk} {x0 : Obst_Call} (y : Zbst_Call h b0 s x0) : ∀ e ∈ s, e.o ≠ .dead := by
 obtain ⟨v_4, rfl⟩ := y
 exact (ndb (by intro e; cases e) nd0)
def Zbst_Call_2 (h : Heap) (bw0 b0 : Nat) (s : List Blk) (x0 : Obst_Call_2) : Prop := ∃ v_4 t_4, s = List.flatten [[⟨b0, .cells [.bool x0.told_Ok, .string x0.told_Key, .int .u64 x0.told_Val, .int .i64 x0.told_Err, v_4] 146⟩], t_4] ∧ OC h bw0 b0 t_4 x0.next v_4
theorem Zbst_Call_2.ext {h h' : Heap} {bw0 b0 : Nat} {s : List Blk} {x0 : Obst_Call_2} (y : Zbst_Call_2 h bw0 b0 s x0) (e : Kn h h') : Zbst_Call_2 h' bw0 b0 s x0 := by
 obtain ⟨v_4, t_4, rfl, f0⟩ := y
 exact ⟨v_4, t_4, rfl, f0.ext e⟩
theorem Zbst_Call_2.nd {h : Heap} {bw0 b0 : Nat} {s : List Blk} {x0 : Obst_Call_2} (y : Zbst_Call_2 h bw0 b0 s x0) : ∀ e ∈ s, e.o ≠ .dead := by
 obtain ⟨v_4, t_4, rfl, f0⟩ := y
 exact (ndb (by intro e; cases e) (ndc f0 nd0))
def Z_string (h : Heap) (b0 : Nat) (s : List Blk) (x0 : O_string) : Prop := ∃ q_0 t_0, s = List.flatten [[⟨b0, .cells [.slice q_0 x0.v.length x0.v.length] 65⟩], t_0] ∧ AccR (RS_ 9) 9 h t_0 (.slice q_0 x0.v.length x0.v.length) x0.v
theorem Z_string.ext {h h' : Heap} {b0 : Nat} {s : List Blk} {x0 : O_string} (y : Z_string h b0 s x0) (e : Kn h h') : Z_string h' b0 s x0 := by
 obtain ⟨q_0, t_0, rfl, f0⟩ := y
 exact ⟨q_0, t_0, rfl, f0.ext e⟩
theorem Z_string.nd {h : Heap} {b0 : Nat} {s : List Blk} {x0 : O_string} (y : Z_string h b0 s x0) : ∀ e ∈ s, e.o ≠ .dead := by
 obtain ⟨q_0, t_0, rfl, f0⟩ := y
 exact (ndb (by intro e; cases e) (ndt f0 nd0))
def Arg.vals : Arg → List Value
 | .u => []
 | .s x => [.agg #[.int .i64 x.grand, .int .i64 x.parent, .int .i64 x.leaf, .int .u64 x.grandWord, .int .u64 x.parentWord, .int .i64 x.turn]]
 | .b x => [.bool x]
 | .w x => [.int .u64 x]
def RCok (rc : RC) : Prop := ∀ {h : Heap} (_ : Wf h) (p0 : Obst_Tree) (p0o0 : Omem_Mem) (p1 : Obst_Call) {bp0 bp0_1 : Nat} {z0 : List Blk} {bp1 : Nat} {z1 : List Blk} (_ : Zbst_Tree h bp0 bp0_1 z0 p0 p0o0) (_ : Zbst_Call h bp1 z1 p1) (x : Clo) (a : Arg) {v : Value} (seg : List Blk) (_ : CO h bp0 bp1 seg x v) {r : (Option Clo) × Obst_Tree × Omem_Mem × Obst_Call} (_ : rc p0 p0o0 p1 x a = some r), CallV EE v a.vals [z0, z1, seg] h (fun v S h1 => ∃ zy0 zy1 vr tr, v = vr ∧ S = [zy0, zy1, tr] ∧ Zbst_Tree h1 bp0 bp0_1 zy0 r.2.1 r.2.2.1 ∧ Zbst_Call h1 bp1 zy1 r.2.2.2 ∧ OC h1 bp0 bp1 tr r.1 vr)
end Go.Proofs.YtndhbaidibioeaaGreat.V
namespace Go.Proofs.YtndhbaidibioeaaGreat.V
open Go
set_option linter.unusedVariables false
set_option linter.unusedSimpArgs false
set_option maxRecDepth 100000
def Zchain_Store (h : Heap) (bw107 b0 : Nat) (s : List Blk) (x0 : Ochain_Store) : Prop := ∃ q_1 t_1, s = List.flatten [[⟨b0, .cells [.pointer (some ⟨bw107, 0, none⟩), .slice q_1 x0.all.length x0.all.length] 161⟩], t_1] ∧ AccR R_Tchain_version 175 h t_1 (.slice q_1 x0.all.length x0.all.length) x0.all
theorem Zchain_Store.ext {h h' : Heap} {bw107 b0 : Nat} {s : List Blk} {x0 : Ochain_Store} (y : Zchain_Store h bw107 b0 s x0) (e : Kn h h') : Zchain_Store h' bw107 b0 s x0 := by
 obtain ⟨q_1, t_1, rfl, f0⟩ := y
 exact ⟨q_1, t_1, rfl, f0.ext e⟩
theorem Zchain_Store.nd {h : Heap} {bw107 b0 : Nat} {s : List Blk} {x0 : Ochain_Store} (y : Zchain_Store h bw107 b0 s x0) : ∀ e ∈ s, e.o ≠ .dead := by
 obtain ⟨q_1, t_1, rfl, f0⟩ := y
 exact (ndb (by intro e; cases e) (ndt f0 nd0))
def Zindex_Index (h : Heap) (b0 b1 b2 b3 : Nat) (s : List Blk) (x0 : Obst_Tree) (x1 : Omem_Mem) (x2 : Ochain_Store) : Prop := ∃ z_0 z_1, s = List.flatten [[⟨b0, .cells [.pointer (some ⟨b1, 0, none⟩), .pointer (some ⟨b3, 0, none⟩), .pointer (some ⟨b2, 0, none⟩)] 91⟩], z_0, z_1] ∧ Zbst_Tree h b1 b2 z_0 x0 x1 ∧ Zchain_Store h b2 b3 z_1 x2
theorem Zindex_Index.ext {h h' : Heap} {b0 b1 b2 b3 : Nat} {s : List Blk} {x0 : Obst_Tree} {x1 : Omem_Mem} {x2 : Ochain_Store} (y : Zindex_Index h b0 b1 b2 b3 s x0 x1 x2) (e : Kn h h') : Zindex_Index h' b0 b1 b2 b3 s x0 x1 x2 := by
 obtain ⟨z_0, z_1, rfl, f0, f1⟩ := y
 exact ⟨z_0, z_1, rfl, f0.ext e, f1.ext e⟩
theorem Zindex_Index.nd {h : Heap} {b0 b1 b2 b3 : Nat} {s : List Blk} {x0 : Obst_Tree} {x1 : Omem_Mem} {x2 : Ochain_Store} (y : Zindex_Index h b0 b1 b2 b3 s x0 x1 x2) : ∀ e ∈ s, e.o ≠ .dead := by
 obtain ⟨z_0, z_1, rfl, f0, f1⟩ := y
 exact (ndb (by intro e; cases e) (nd1 f0.nd (nd1 f1.nd nd0)))
def Zindex_Work (h : Heap) (bw91 b0 : Nat) (s : List Blk) (x0 : Oindex_Work) : Prop := ∃ v_1 q_4 t_4, s = List.flatten [[⟨b0, .cells [.pointer (some ⟨bw91, 0, none⟩), v_1, .int .i64 x0.cell, .int .i64 x0.bad, .slice q_4 x0.found.length x0.found.length] 88⟩], t_4] ∧ AccR R_TKV 56 h t_4 (.slice q_4 x0.found.length x0.found.length) x0.found
theorem Zindex_Work.ext {h h' : Heap} {bw91 b0 : Nat} {s : List Blk} {x0 : Oindex_Work} (y : Zindex_Work h bw91 b0 s x0) (e : Kn h h') : Zindex_Work h' bw91 b0 s x0 := by
 obtain ⟨v_1, q_4, t_4, rfl, f0⟩ := y
 exact ⟨v_1, q_4, t_4, rfl, f0.ext e⟩
theorem Zindex_Work.nd {h : Heap} {bw91 b0 : Nat} {s : List Blk} {x0 : Oindex_Work} (y : Zindex_Work h bw91 b0 s x0) : ∀ e ∈ s, e.o ≠ .dead := by
 obtain ⟨v_1, q_4, t_4, rfl, f0⟩ := y
 exact (ndb (by intro e; cases e) (ndt f0 nd0))
def Zchain_Put (h : Heap) (bw161 b0 : Nat) (s : List Blk) (x0 : Ochain_Put) : Prop := s = List.flatten [[⟨b0, .cells [.pointer (some ⟨bw161, 0, none⟩), .int .i64 x0.cell, .int .i64 x0.e_Rev, .string x0.e_Key, .string x0.e_Val, .bool x0.e_Del, .int .u64 x0.last, .bool x0.seen, .bool x0.done] 163⟩]]
theorem Zchain_Put.ext {h h' : Heap} {bw161 b0 : Nat} {s : List Blk} {x0 : Ochain_Put} (y : Zchain_Put h bw161 b0 s x0) (e : Kn h h') : Zchain_Put h' bw161 b0 s x0 := by
 obtain rfl := y
 exact rfl
theorem Zchain_Put.nd {h : Heap} {bw161 b0 : Nat} {s : List Blk} {x0 : Ochain_Put} (y : Zchain_Put h bw161 b0 s x0) : ∀ e ∈ s, e.o ≠ .dead := by
 obtain rfl := y
 exact (ndb (by intro e; cases e) nd0)
inductive COi (h : Heap) (bw91 bw131 bw107 bw161 bw88 : Nat) : Option Nat → List Blk → Cli → Value → Prop
 | c_Index_Get_1_1 {q0 bo : Nat} {q1 : Nat} {q2 : Nat} {x0 : Int}  (g0 : BK h q0 [.pointer (some ⟨bo, 0, none⟩)] 85) (g1 : BK h q1 [.pointer (some ⟨bw88, 0, none⟩)] 32) (g2 : BK h q2 [.int .i64 x0] 3)  : COi h bw91 bw131 bw107 bw161 bw88 (some bo) [] (.c_Index_Get_1_1 x0) (.func (.func 43) #[] #[.pointer (some ⟨q0, 0, none⟩), .pointer (some ⟨q1, 0, none⟩), .pointer (some ⟨q2, 0, none⟩)])
 | c_end    : COi h bw91 bw131 bw107 bw161 bw88 none [] (.c_end ) (.func (.func 46) #[] #[])
 | c_Index_Put_1_1 {q0 : Nat} {q1 : Nat} {q2 : Nat} {x0 : TEvent}  (g0 : BK h q0 [.pointer (some ⟨bw91, 0, none⟩)] 27) (g1 : BK h q1 [.pointer (some ⟨bw88, 0, none⟩)] 32) (g2 : BK h q2 [.int .i64 x0.Rev, .string x0.Key, .string x0.Val, .bool x0.Del] 36)  : COi h bw91 bw131 bw107 bw161 bw88 none [] (.c_Index_Put_1_1 x0) (.func (.func 55) #[] #[.pointer (some ⟨q0, 0, none⟩), .pointer (some ⟨q1, 0, none⟩), .pointer (some ⟨q2, 0, none⟩)])
 | c_after_1 {y0 : Obst_Call_2} {seg : List Blk} {q0 bo : Nat} {q1 : Nat} {v1 : Value} {x0 : Cli} {q2 : Nat} (g0 : BK h q0 [.iface 85 (.pointer (some ⟨bo, 0, none⟩))] 144) (g1 : BK h q1 [v1] 83) (k1 : COi h bw91 bw131 bw107 bw161 bw88 (some bo) [] x0 v1) (g2 : BK h q2 [.func (.func 77) #[] #[.pointer (some ⟨q0, 0, none⟩), .pointer (some ⟨q1, 0, none⟩), .pointer (some ⟨q2, 0, none⟩)]] 84) (z : Zbst_Call_2 h bw131 bo seg y0) : COi h bw91 bw131 bw107 bw161 bw88 none seg (.c_after_1 y0 x0) (.func (.func 77) #[] #[.pointer (some ⟨q0, 0, none⟩), .pointer (some ⟨q1, 0, none⟩), .pointer (some ⟨q2, 0, none⟩)])
 | c_after_1_v1 {y0 : Ochain_Put} {seg : List Blk} {q0 bo : Nat} {q1 : Nat} {v1 : Value} {x0 : Cli} {q2 : Nat} (g0 : BK h q0 [.iface 108 (.pointer (some ⟨bo, 0, none⟩))] 144) (g1 : BK h q1 [v1] 83) (k1 : COi h bw91 bw131 bw107 bw161 bw88 none [] x0 v1) (g2 : BK h q2 [.func (.func 77) #[] #[.pointer (some ⟨q0, 0, none⟩), .pointer (some ⟨q1, 0, none⟩), .pointer (some ⟨q2, 0, none⟩)]] 84) (z : Zchain_Put h bw161 bo seg y0) : COi h bw91 bw131 bw107 bw161 bw88 none seg (.c_after_1_v1 y0 x0) (.func (.func 77) #[] #[.pointer (some ⟨q0, 0, none⟩), .pointer (some ⟨q1, 0, none⟩), .pointer (some ⟨q2, 0, none⟩)])
 | c_Work_look_1 {q0 : Nat} {q1 : Nat} {x0 : Int}  {q2 : Nat} {x1 : Int}  {q3 : Nat} {v3 : Value} {x2 : Cli} (g0 : BK h q0 [.pointer (some ⟨bw88, 0, none⟩)] 32) (g1 : BK h q1 [.int .u64 x0] 93) (g2 : BK h q2 [.int .i64 x1] 3) (g3 : BK h q3 [v3] 83) (k3 : COi h bw91 bw131 bw107 bw161 bw88 none [] x2 v3)  : COi h bw91 bw131 bw107 bw161 bw88 none [] (.c_Work_look_1 x0 x1 x2) (.func (.func 78) #[] #[.pointer (some ⟨q0, 0, none⟩), .pointer (some ⟨q1, 0, none⟩), .pointer (some ⟨q2, 0, none⟩), .pointer (some ⟨q3, 0, none⟩)])
 | c_Work_walk_1 {q0 bo : Nat} {q1 : Nat} {x0 : TRange}  {q2 : Nat} {q3 : Nat} {x1 : Int}  (g0 : BK h q0 [.pointer (some ⟨bo, 0, none⟩)] 85) (g1 : BK h q1 [.string x0.From, .string x0.To] 24) (g2 : BK h q2 [.pointer (some ⟨bw88, 0, none⟩)] 32) (g3 : BK h q3 [.int .i64 x1] 3)  : COi h bw91 bw131 bw107 bw161 bw88 (some bo) [] (.c_Work_walk_1 x0 x1) (.func (.func 82) #[] #[.pointer (some ⟨q0, 0, none⟩), .pointer (some ⟨q1, 0, none⟩), .pointer (some ⟨q2, 0, none⟩), .pointer (some ⟨q3, 0, none⟩)])
 | c_Work_walk_1_1 {q0 : Nat} {q1 : Nat} {x0 : TRange}  {q2 : Nat} {x1 : Tbst_Answer}  {q3 : Nat} {x2 : Int}  (g0 : BK h q0 [.pointer (some ⟨bw88, 0, none⟩)] 32) (g1 : BK h q1 [.string x0.From, .string x0.To] 24) (g2 : BK h q2 [.bool x1.Ok, .string x1.Key, .int .u64 x1.Val, .int .i64 x1.Err] 95) (g3 : BK h q3 [.int .i64 x2] 3)  : COi h bw91 bw131 bw107 bw161 bw88 none [] (.c_Work_walk_1_1 x0 x1 x2) (.func (.func 84) #[] #[.pointer (some ⟨q0, 0, none⟩), .pointer (some ⟨q1, 0, none⟩), .pointer (some ⟨q2, 0, none⟩), .pointer (some ⟨q3, 0, none⟩)])
 | c_Work_ensure_1 {q0 bo : Nat} {q1 : Nat} {q2 : Nat} {v2 : Value} {x0 : Cli} {q3 : Nat} {x1 : ByteArray}  (g0 : BK h q0 [.pointer (some ⟨bo, 0, none⟩)] 85) (g1 : BK h q1 [.pointer (some ⟨bw88, 0, none⟩)] 32) (g2 : BK h q2 [v2] 83) (k2 : COi h bw91 bw131 bw107 bw161 bw88 none [] x0 v2) (g3 : BK h q3 [.string x1] 9)  : COi h bw91 bw131 bw107 bw161 bw88 (some bo) [] (.c_Work_ensure_1 x0 x1) (.func (.func 86) #[] #[.pointer (some ⟨q0, 0, none⟩), .pointer (some ⟨q1, 0, none⟩), .pointer (some ⟨q2, 0, none⟩), .pointer (some ⟨q3, 0, none⟩)])
 | c_Work_ensure_1_1 {q0 bo : Nat} {q1 : Nat} {q2 : Nat} {v2 : Value} {x0 : Cli} (g0 : BK h q0 [.pointer (some ⟨bo, 0, none⟩)] 85) (g1 : BK h q1 [.pointer (some ⟨bw88, 0, none⟩)] 32) (g2 : BK h q2 [v2] 83) (k2 : COi h bw91 bw131 bw107 bw161 bw88 none [] x0 v2)  : COi h bw91 bw131 bw107 bw161 bw88 (some bo) [] (.c_Work_ensure_1_1 x0) (.func (.func 88) #[] #[.pointer (some ⟨q0, 0, none⟩), .pointer (some ⟨q1, 0, none⟩), .pointer (some ⟨q2, 0, none⟩)])
 | w146 {bo : Nat} {seg : List Blk} {th : Cli} {v : Value} {y0 : Obst_Call_2} (k : COi h bw91 bw131 bw107 bw161 bw88 (some bo) [] th v) (z : Zbst_Call_2 h bw131 bo seg y0) : COi h bw91 bw131 bw107 bw161 bw88 none seg (.w146 y0 th) v
theorem COi.ext {h h' : Heap} {bw91 bw131 bw107 bw161 bw88 : Nat} {o : Option Nat} {seg : List Blk} {x : Cli} {v : Value} (c : COi h bw91 bw131 bw107 bw161 bw88 o seg x v) (e : Kn h h') : COi h' bw91 bw131 bw107 bw161 bw88 o seg x v := by
 induction c with
 | c_Index_Get_1_1 g0 g1 g2 => exact .c_Index_Get_1_1 (g0.ext e) (g1.ext e) (g2.ext e)
 | c_end  => exact .c_end
 | c_Index_Put_1_1 g0 g1 g2 => exact .c_Index_Put_1_1 (g0.ext e) (g1.ext e) (g2.ext e)
 | c_after_1 g0 g1 k1 g2 z ik1 => exact .c_after_1 (g0.ext e) (g1.ext e) ik1 (g2.ext e) (z.ext e)
 | c_after_1_v1 g0 g1 k1 g2 z ik1 => exact .c_after_1_v1 (g0.ext e) (g1.ext e) ik1 (g2.ext e) (z.ext e)
 | c_Work_look_1 g0 g1 g2 g3 k3 ik3 => exact .c_Work_look_1 (g0.ext e) (g1.ext e) (g2.ext e) (g3.ext e) ik3
 | c_Work_walk_1 g0 g1 g2 g3 => exact .c_Work_walk_1 (g0.ext e) (g1.ext e) (g2.ext e) (g3.ext e)
 | c_Work_walk_1_1 g0 g1 g2 g3 => exact .c_Work_walk_1_1 (g0.ext e) (g1.ext e) (g2.ext e) (g3.ext e)
 | c_Work_ensure_1 g0 g1 g2 k2 g3 ik2 => exact .c_Work_ensure_1 (g0.ext e) (g1.ext e) (g2.ext e) ik2 (g3.ext e)
 | c_Work_ensure_1_1 g0 g1 g2 k2 ik2 => exact .c_Work_ensure_1_1 (g0.ext e) (g1.ext e) (g2.ext e) ik2
 | w146 k z ik => exact .w146 ik (z.ext e)
theorem COi.nd {h : Heap} {bw91 bw131 bw107 bw161 bw88 : Nat} {o : Option Nat} {seg : List Blk} {x : Cli} {v : Value} (c : COi h bw91 bw131 bw107 bw161 bw88 o seg x v) : ∀ e ∈ seg, e.o ≠ .dead := by
 cases c with
 | c_Index_Get_1_1 g0 g1 g2 => intro e he; cases he
 | c_end  => intro e he; cases he
 | c_Index_Put_1_1 g0 g1 g2 => intro e he; cases he
 | c_after_1 g0 g1 k1 g2 z => exact z.nd
 | c_after_1_v1 g0 g1 k1 g2 z => exact z.nd
 | c_Work_look_1 g0 g1 g2 g3 k3 => intro e he; cases he
 | c_Work_walk_1 g0 g1 g2 g3 => intro e he; cases he
 | c_Work_walk_1_1 g0 g1 g2 g3 => intro e he; cases he
 | c_Work_ensure_1 g0 g1 g2 k2 g3 => intro e he; cases he
 | c_Work_ensure_1_1 g0 g1 g2 k2 => intro e he; cases he
 | w146 k z => exact z.nd
theorem COi.fn {h : Heap} {bw91 bw131 bw107 bw161 bw88 : Nat} {o : Option Nat} {seg : List Blk} {x : Cli} {v : Value} (c : COi h bw91 bw131 bw107 bw161 bw88 o seg x v) : ∃ g ca, v = .func (.func g) #[] ca := by
 induction c <;> first | exact ⟨_, _, rfl⟩ | assumption
theorem COi.one {h : Heap} {bw91 bw131 bw107 bw161 bw88 : Nat} {o : Option Nat} {seg : List Blk} {x : Cli} {v : Value} (c : COi h bw91 bw131 bw107 bw161 bw88 o seg x v) : v.cells.toList = [v] := by obtain ⟨_, _, rfl⟩ := c.fn; rfl
theorem COi.sz {h : Heap} {bw91 bw131 bw107 bw161 bw88 : Nat} {o : Option Nat} {seg : List Blk} {x : Cli} {v : Value} (c : COi h bw91 bw131 bw107 bw161 bw88 o seg x v) : Nat.beq v.cells.size 1 = true := by obtain ⟨_, _, rfl⟩ := c.fn; rfl
theorem COi.okc {h : Heap} {bw91 bw131 bw107 bw161 bw88 : Nat} {o : Option Nat} {seg : List Blk} {x : Cli} {v : Value} (c : COi h bw91 bw131 bw107 bw161 bw88 o seg x v) : [v].all cellOk = true := by obtain ⟨_, _, rfl⟩ := c.fn; rfl
inductive OCi (h : Heap) (bw91 bw131 bw107 bw161 bw88 : Nat) : List Blk → Option Cli → Value → Prop
 | none : OCi h bw91 bw131 bw107 bw161 bw88 [] none .nilFunc
 | some {seg : List Blk} {x : Cli} {v : Value} (c : COi h bw91 bw131 bw107 bw161 bw88 none seg x v) : OCi h bw91 bw131 bw107 bw161 bw88 seg (some x) v
theorem OCi.ext {h h' : Heap} {bw91 bw131 bw107 bw161 bw88 : Nat} {seg : List Blk} {x : Option Cli} {v : Value} (c : OCi h bw91 bw131 bw107 bw161 bw88 seg x v) (e : Kn h h') : OCi h' bw91 bw131 bw107 bw161 bw88 seg x v := by
 cases c with
 | none => exact .none
 | some c => exact .some (c.ext e)
theorem OCi.nd {h : Heap} {bw91 bw131 bw107 bw161 bw88 : Nat} {seg : List Blk} {x : Option Cli} {v : Value} (c : OCi h bw91 bw131 bw107 bw161 bw88 seg x v) : ∀ e ∈ seg, e.o ≠ .dead := by
 cases c with
 | none => intro e he; cases he
 | some c => exact c.nd
theorem OCi.one {h : Heap} {bw91 bw131 bw107 bw161 bw88 : Nat} {seg : List Blk} {x : Option Cli} {v : Value} (c : OCi h bw91 bw131 bw107 bw161 bw88 seg x v) : v.cells.toList = [v] := by
 cases c with
 | none => rfl
 | some c => exact c.one
theorem OCi.sz {h : Heap} {bw91 bw131 bw107 bw161 bw88 : Nat} {seg : List Blk} {x : Option Cli} {v : Value} (c : OCi h bw91 bw131 bw107 bw161 bw88 seg x v) : Nat.beq v.cells.size 1 = true := by
 cases c with
 | none => rfl
 | some c => exact c.sz
theorem OCi.okc {h : Heap} {bw91 bw131 bw107 bw161 bw88 : Nat} {seg : List Blk} {x : Option Cli} {v : Value} (c : OCi h bw91 bw131 bw107 bw161 bw88 seg x v) : [v].all cellOk = true := by
 cases c with
 | none => rfl
 | some c => exact c.okc
theorem OCi.get {h : Heap} {bw91 bw131 bw107 bw161 bw88 : Nat} {seg : List Blk} {x : Option Cli} {y : Cli} {v : Value} (c : OCi h bw91 bw131 bw107 bw161 bw88 seg x v) (e : x = Option.some y) : COi h bw91 bw131 bw107 bw161 bw88 Option.none seg y v := by
 cases c with
 | none => cases e
 | some c => cases e; exact c
theorem OCi.eqn {h : Heap} {bw91 bw131 bw107 bw161 bw88 : Nat} {seg : List Blk} {x : Option Cli} {v : Value} (c : OCi h bw91 bw131 bw107 bw161 bw88 seg x v) : binV EE .eql 84 v .nilFunc = Option.some (Value.bool x.isNone) := by
 cases c with
 | none => kernel_rfl
 | some c => obtain ⟨_, _, rfl⟩ := c.fn; kernel_rfl
theorem OCi.nen {h : Heap} {bw91 bw131 bw107 bw161 bw88 : Nat} {seg : List Blk} {x : Option Cli} {v : Value} (c : OCi h bw91 bw131 bw107 bw161 bw88 seg x v) : binV EE .neq 84 v .nilFunc = Option.some (Value.bool x.isSome) := by
 cases c with
 | none => kernel_rfl
 | some c => obtain ⟨_, _, rfl⟩ := c.fn; kernel_rfl
theorem ndci {h : Heap} {bw91 bw131 bw107 bw161 bw88 : Nat} {seg : List Blk} {x : Option Cli} {v : Value} {r : List (List Blk)} (c : OCi h bw91 bw131 bw107 bw161 bw88 seg x v) (k : ∀ e ∈ r.flatten, e.o ≠ .dead) : ∀ e ∈ (seg :: r : List (List Blk)).flatten, e.o ≠ .dead := nd1 c.nd k
def Zindex_Work_2 (h : Heap) (bw91 bw107 bw131 bw161 b0 : Nat) (s : List Blk) (x0 : Oindex_Work_2) : Prop := ∃ v_1 t_1 q_4 t_4, s = List.flatten [[⟨b0, .cells [.pointer (some ⟨bw91, 0, none⟩), v_1, .int .i64 x0.cell, .int .i64 x0.bad, .slice q_4 x0.found.length x0.found.length] 88⟩], t_1, t_4] ∧ OCi h bw91 bw131 bw107 bw161 b0 t_1 x0.next v_1 ∧ AccR R_TKV 56 h t_4 (.slice q_4 x0.found.length x0.found.length) x0.found
theorem Zindex_Work_2.ext {h h' : Heap} {bw91 bw107 bw131 bw161 b0 : Nat} {s : List Blk} {x0 : Oindex_Work_2} (y : Zindex_Work_2 h bw91 bw107 bw131 bw161 b0 s x0) (e : Kn h h') : Zindex_Work_2 h' bw91 bw107 bw131 bw161 b0 s x0 := by
 obtain ⟨v_1, t_1, q_4, t_4, rfl, f0, f1⟩ := y
 exact ⟨v_1, t_1, q_4, t_4, rfl, f0.ext e, f1.ext e⟩
theorem Zindex_Work_2.nd {h : Heap} {bw91 bw107 bw131 bw161 b0 : Nat} {s : List Blk} {x0 : Oindex_Work_2} (y : Zindex_Work_2 h bw91 bw107 bw131 bw161 b0 s x0) : ∀ e ∈ s, e.o ≠ .dead := by
 obtain ⟨v_1, t_1, q_4, t_4, rfl, f0, f1⟩ := y
 exact (ndb (by intro e; cases e) (ndci f0 (ndt f1 nd0)))
theorem Zindex_Work_2.hd {h : Heap} {bw91 bw107 bw131 bw161 b0 : Nat} {s : List Blk} {x0 : Oindex_Work_2} (y : Zindex_Work_2 h bw91 bw107 bw131 bw161 b0 s x0) : hdq s = some b0 := by
 obtain ⟨v_1, t_1, q_4, t_4, rfl, f0, f1⟩ := y
 rfl
def ORindex_Work_2 (bw91 bw107 bw131 bw161 : Nat) : OR Oindex_Work_2 := ⟨fun h b s x => Zindex_Work_2 h bw91 bw107 bw131 bw161 b s x, fun e c => Zindex_Work_2.ext c e, fun c => Zindex_Work_2.nd c⟩
def Argi.vals : Argi → List Value
 | .u => []
def RCiok (rc : RCi) : Prop := ∀ {h : Heap} (_ : Wf h) (p0 : Obst_Tree) (p0o0 : Omem_Mem) (p0o1 : Ochain_Store) (p1 : Oindex_Work) {bp0 bp0_1 bp0_2 bp0_3 : Nat} {z0 : List Blk} {bp1 : Nat} {z1 : List Blk} (_ : Zindex_Index h bp0 bp0_1 bp0_2 bp0_3 z0 p0 p0o0 p0o1) (_ : Zindex_Work h bp0 bp1 z1 p1) (x : Cli) (a : Argi) {v : Value} (seg : List Blk) (_ : COi h bp0 bp0_1 bp0_2 bp0_3 bp1 none seg x v) {r : (Option Cli) × Obst_Tree × Omem_Mem × Ochain_Store × Oindex_Work} (_ : rc p0 p0o0 p0o1 p1 x a = some r), CallV EE v a.vals [z0, z1, seg] h (fun v S h1 => ∃ zy0 zy1 vr tr, v = vr ∧ S = [zy0, zy1, tr] ∧ Zindex_Index h1 bp0 bp0_1 bp0_2 bp0_3 zy0 r.2.1 r.2.2.1 r.2.2.2.1 ∧ Zindex_Work h1 bp0 bp1 zy1 r.2.2.2.2 ∧ OCi h1 bp0 bp0_1 bp0_2 bp0_3 bp1 tr r.1 vr)
end Go.Proofs.YtndhbaidibioeaaGreat.V
namespace Go.Proofs.YtndhbaidibioeaaGreat.V
open Go
set_option linter.unusedVariables false
set_option linter.unusedSimpArgs false
set_option maxRecDepth 100000
set_option maxHeartbeats 4000000
theorem s_mem_at_ok {h : Heap} (hw : Wf h) {bp bb n : Nat} {c i : Int} (hz : 0 ≤ i) (hi : i < (n : Int)) :
 EvO EE 107 [.pointer (some ⟨bp, 0, none⟩), .int .i64 i] [[⟨bp, .cells [.slice (some ⟨bb, 0, some 0⟩) n n, .int .i64 c] 107⟩]] h (fun v S h1 => v = .pointer (some ⟨bb, i.toNat * 1, none⟩) ∧ S = [[⟨bp, .cells [.slice (some ⟨bb, 0, some 0⟩) n n, .int .i64 (IntKind.i64.wrap (c + 1))] 107⟩]]) := by
 refine evo_of rfl at_107 rfl rfl ?_
 refine go_seq ?_
 refine go_region ?_
 refine gAc rfl rfl ?_
 refine go_nil ?_
 refine go_seq ?_
 refine go_seq ?_
 refine go_region ?_
 refine gM rfl rfl ?_
 refine gr rfl (r_bin (v := .bool false) (ot rfl) (oc rfl) (by first | rfl | kernel_rfl)) ?_
 refine gM rfl rfl ?_
 refine g_do rfl rfl rfl ?_
 refine gM rfl rfl ?_
 refine g_do rfl rfl rfl ?_
 refine gr rfl (r_bin (ot rfl) (oc rfl) rfl) ?_
 refine gr rfl (r_pkF (ot rfl) (ot rfl)) ?_
 refine gM rfl rfl ?_
 refine go_joinr 8 (β := Unit) (fun s h' => True) (fun s => [(0, true, .pointer (some ⟨bp, 0, none⟩)), (1, true, .int .i64 i), (4, true, .pointer none), (19, true, .bool false)]) (fun s => (List.flatten [[⟨bp, .cells [.slice (some ⟨bb, 0, some 0⟩) n n, .int .i64 c] 107⟩]] : List Blk)) ?_ (fun J2 => ?_)
 ·
  rintro _ h2 e2 w2 _
  refine go_nil ?_
  refine g_cond (b := false) (ot rfl) (fun hc3 => ?_) (fun hc3 => ?_)
  ·
   cases hc3
  ·
   refine go_skip ?_
   refine go_seq ?_
   refine go_region ?_
   refine gM rfl rfl ?_
   refine gr rfl (r_nilck (ot rfl)) ?_
   refine gr rfl (r_fa (ot rfl) (fa_107_1 _ _)) ?_
   refine gr rfl (r_load (ot rfl) (lm_s (mem_seg 0 rfl) ag_3 rfl)) ?_
   refine gr rfl (r_bin (ot rfl) (oc rfl) rfl) ?_
   refine gr rfl (r_nilck (ot rfl)) ?_
   refine gr rfl (r_fa (ot rfl) (fa_107_1 _ _)) ?_
   refine gs_store (ot rfl) (ot rfl) sz_3 rfl rfl rfl rfl rfl .z ?_
   refine go_nil ?_
   refine go_seq ?_
   refine go_region ?_
   refine gM rfl rfl ?_
   refine gr rfl (r_nilck (ot rfl)) ?_
   refine gr rfl (r_fa (ot rfl) (fa_107_0 _ _)) ?_
   refine gr rfl (r_load (ot rfl) (lm_s (mem_seg 0 rfl) ag_105 rfl)) ?_
   refine gM rfl rfl ?_
   refine gr rfl (r_ia (ot rfl) (ot rfl) (ia_acc (k := 1) ut_105 sz_93 hz hi)) ?_
   refine gA rfl rfl ?_
   refine go_nil ?_
   exact g_ret (rst rfl rs0) (fun h1 hf hs => ⟨[[⟨bp, .cells [.slice (some ⟨bb, 0, some 0⟩) n n, .int .i64 (IntKind.i64.wrap (c + 1))] 107⟩]], _, hf, e2, w2, hs, (ndb (by intro e; cases e) nd0), ⟨rfl, rfl⟩⟩)
 ·
  rcases Bool.eq_false_or_eq_true (decide (i < 0)) with hb1 | hb1
  ·
   exact absurd (of_decide_eq_true hb1) (by omega)
  ·
   have hb1' : ¬ i < 0 := of_decide_eq_false hb1
   refine go_re 11 (v2 := .bool false) rfl (congrArg Value.bool hb1) ?_
   refine g_do rfl rfl rfl ?_
   refine gM rfl rfl ?_
   refine g_do rfl rfl rfl ?_
   refine gM rfl rfl ?_
   refine g_do rfl rfl rfl ?_
   refine gr rfl (r_nilck (ot rfl)) ?_
   refine g_do rfl rfl rfl ?_
   refine gr rfl (r_fa (ot rfl) (fa_107_0 _ _)) ?_
   refine g_do rfl rfl rfl ?_
   refine gr rfl (r_load (ot rfl) (lm_s (mem_seg 0 rfl) ag_105 rfl)) ?_
   refine g_do rfl rfl rfl ?_
   refine gr rfl (r_len rfl (os1 (ot rfl) os0) (fun _ _ => ln_105)) ?_
   refine g_do rfl rfl rfl ?_
   refine gr rfl (r_bin (ot rfl) (ot rfl) rfl) ?_
   refine gr rfl (r_pkF (ot rfl) (ot rfl)) ?_
   refine go_re 19 (v2 := .bool false) rfl (congrArg Value.bool (decide_eq_false (by omega))) ?_
   exact Goes.weak (J2 () _ (HExt.refl _) hw trivial) (Sub.cons (Sub.cons (Sub.cons (Sub.cons (Sub.nil _) rfl) rfl) rfl) rfl)
theorem s_mem_at_bad {h : Heap} (hw : Wf h) {bp n : Nat} {q : Option Addr} {c i : Int} (hb : ¬ (0 ≤ i ∧ i < (n : Int))) :
 EvO EE 107 [.pointer (some ⟨bp, 0, none⟩), .int .i64 i] [[⟨bp, .cells [.slice q n n, .int .i64 c] 107⟩]] h (fun v S h1 => v = .pointer none ∧ S = [[⟨bp, .cells [.slice q n n, .int .i64 c] 107⟩]]) := by
 refine evo_of rfl at_107 rfl rfl ?_
 refine go_seq ?_
 refine go_region ?_
 refine gAc rfl rfl ?_
 refine go_nil ?_
 refine go_seq ?_
 refine go_seq ?_
 refine go_region ?_
 refine gM rfl rfl ?_
 refine gr rfl (r_bin (v := .bool false) (ot rfl) (oc rfl) (by first | rfl | kernel_rfl)) ?_
 refine gM rfl rfl ?_
 refine g_do rfl rfl rfl ?_
 refine gM rfl rfl ?_
 refine g_do rfl rfl rfl ?_
 refine gr rfl (r_bin (ot rfl) (oc rfl) rfl) ?_
 refine gr rfl (r_pkF (ot rfl) (ot rfl)) ?_
 refine gM rfl rfl ?_
 refine go_joinr 8 (β := Unit) (fun s h' => True) (fun s => [(0, true, .pointer (some ⟨bp, 0, none⟩)), (1, true, .int .i64 i), (4, true, .pointer none), (19, true, .bool true)]) (fun s => (List.flatten [[⟨bp, .cells [.slice q n n, .int .i64 c] 107⟩]] : List Blk)) ?_ (fun J2 => ?_)
 ·
  rintro _ h2 e2 w2 _
  refine go_nil ?_
  refine g_cond (b := true) (ot rfl) (fun hc3 => ?_) (fun hc3 => ?_)
  ·
   refine go_seq ?_
   refine go_region ?_
   refine gAc rfl rfl ?_
   refine go_nil ?_
   exact g_ret (rst rfl rs0) (fun h1 hf hs => ⟨[[⟨bp, .cells [.slice q n n, .int .i64 c] 107⟩]], _, hf, e2, w2, hs, (ndb (by intro e; cases e) nd0), ⟨rfl, rfl⟩⟩)
  ·
   cases hc3
 ·
  rcases Bool.eq_false_or_eq_true (decide (i < 0)) with hb1 | hb1
  ·
   refine go_re 11 (v2 := .bool true) rfl (congrArg Value.bool hb1) ?_
   refine g_no rfl rfl rfl rfl rfl ?_
   refine g_no rfl rfl rfl rfl rfl ?_
   refine g_no rfl rfl rfl rfl rfl ?_
   refine g_no rfl rfl rfl rfl rfl ?_
   refine g_no rfl rfl rfl rfl rfl ?_
   refine g_no rfl rfl rfl rfl rfl ?_
   refine g_no rfl rfl rfl rfl rfl ?_
   refine gr rfl (r_pkT (ot rfl) (oc rfl)) ?_
   exact Goes.weak (J2 () _ (HExt.refl _) hw trivial) (Sub.cons (Sub.cons (Sub.cons (Sub.cons (Sub.nil _) rfl) rfl) rfl) rfl)
  ·
   have hb1' : ¬ i < 0 := of_decide_eq_false hb1
   refine go_re 11 (v2 := .bool false) rfl (congrArg Value.bool hb1) ?_
   refine g_do rfl rfl rfl ?_
   refine gM rfl rfl ?_
   refine g_do rfl rfl rfl ?_
   refine gM rfl rfl ?_
   refine g_do rfl rfl rfl ?_
   refine gr rfl (r_nilck (ot rfl)) ?_
   refine g_do rfl rfl rfl ?_
   refine gr rfl (r_fa (ot rfl) (fa_107_0 _ _)) ?_
   refine g_do rfl rfl rfl ?_
   refine gr rfl (r_load (ot rfl) (lm_s (mem_seg 0 rfl) ag_105 rfl)) ?_
   refine g_do rfl rfl rfl ?_
   refine gr rfl (r_len rfl (os1 (ot rfl) os0) (fun _ _ => ln_105)) ?_
   refine g_do rfl rfl rfl ?_
   refine gr rfl (r_bin (ot rfl) (ot rfl) rfl) ?_
   refine gr rfl (r_pkF (ot rfl) (ot rfl)) ?_
   refine go_re 19 (v2 := .bool true) rfl (congrArg Value.bool (decide_eq_true (by omega))) ?_
   exact Goes.weak (J2 () _ (HExt.refl _) hw trivial) (Sub.cons (Sub.cons (Sub.cons (Sub.cons (Sub.nil _) rfl) rfl) rfl) rfl)
theorem getI_bad {α : Type} {l : List α} {i : Int} (h : getI l i = none) : ¬ (0 ≤ i ∧ i < (l.length : Int)) := by
 rintro ⟨a, b⟩
 unfold getI at h
 rw [if_pos a, List.getElem?_eq_getElem (by omega)] at h
 cases h
end Go.Proofs.YtndhbaidibioeaaGreat.V
