/- Kinds of values.
   No condition: these are laws of the clean machine and of this program. -/
import Derived.Test.YtndhbaidibioeaaGreatVo
namespace Go.Proofs.YtndhbaidibioeaaGreat.V
open Go
set_option linter.unusedVariables false
set_option linter.unusedSimpArgs false
set_option maxRecDepth 100000
structure Tmem_Mem where
 cells : (List Int)
 count : Int
 deriving Inhabited
structure Omem_Mem where
 cells : (List Int)
 count : Int
 deriving Inhabited
structure Tbst_node where
 key : ByteArray
 top : Int
 val : Int
 cell : Int
 deriving DecidableEq, Inhabited
structure Tbst_info where
 grand : Int
 parent : Int
 leaf : Int
 next : Int
 was : Int
 deriving DecidableEq, Inhabited
structure Obst_Tree where
 nodes : (List Tbst_node)
 infos : (List Tbst_info)
 deriving Inhabited
structure Tbst_Answer where
 Ok : Bool
 Key : ByteArray
 Val : Int
 Err : Int
 deriving DecidableEq, Inhabited
structure Obst_Call where
 told_Ok : Bool
 told_Key : ByteArray
 told_Val : Int
 told_Err : Int
 deriving Inhabited
structure Tbst_seen where
 grand : Int
 parent : Int
 leaf : Int
 grandWord : Int
 parentWord : Int
 turn : Int
 deriving DecidableEq, Inhabited
structure O_string where
 v : (List ByteArray)
 deriving Inhabited
structure Torder_Call where
 Kind : Int
 Key : ByteArray
 Ok : Bool
 Inv : Int
 Ret : Int
 deriving DecidableEq, Inhabited
structure Timpostlaw16_Deed where
 Kind : Int
 T : Int
 Key : ByteArray
 deriving DecidableEq, Inhabited
structure Timpostref14_Call where
 Kind : Int
 Key : ByteArray
 Ok : Bool
 Inv : Int
 Ret : Int
 deriving DecidableEq, Inhabited
def c_Tbst_node (x : Tbst_node) : List Value := [.string x.key, .int .i64 x.top, .int .u64 x.val, .int .i64 x.cell]
def R_Tbst_node : Rep Tbst_node := Rep.flat 4 127 c_Tbst_node (fun _ => ⟨rfl, rfl⟩)
def c_Tbst_info (x : Tbst_info) : List Value := [.int .i64 x.grand, .int .i64 x.parent, .int .i64 x.leaf, .int .i64 x.next, .int .u64 x.was]
def R_Tbst_info : Rep Tbst_info := Rep.flat 5 155 c_Tbst_info (fun _ => ⟨rfl, rfl⟩)
def c_Torder_Call (x : Torder_Call) : List Value := [.int .i64 x.Kind, .string x.Key, .bool x.Ok, .int .i64 x.Inv, .int .i64 x.Ret]
def R_Torder_Call : Rep Torder_Call := Rep.flat 5 76 c_Torder_Call (fun _ => ⟨rfl, rfl⟩)
def c_Timpostlaw16_Deed (x : Timpostlaw16_Deed) : List Value := [.int .i64 x.Kind, .int .i64 x.T, .string x.Key]
def R_Timpostlaw16_Deed : Rep Timpostlaw16_Deed := Rep.flat 3 67 c_Timpostlaw16_Deed (fun _ => ⟨rfl, rfl⟩)
def W_Timpostlaw16_Deed (x : Timpostlaw16_Deed) : Prop := (okI .i64) x.Kind ∧ (okI .i64) x.T ∧ (fun x => x.size ≤ maxLen) x.Key
inductive Clo where
 | c_Find_1_1 (x0 : Tbst_node)
 | c_insert_1 (x0 : Tbst_node)
 | c_insert_2 (x0 : Tbst_node) (x1 : Clo)
 | c_remove_1 (x0 : Tbst_node)
 | c_remove_2 (x0 : Tbst_node) (x1 : Clo)
 | c_remove_2_1 (x0 : Tbst_seen) (x1 : Int) (x2 : Clo) (x3 : Int)
 | c_remove_2_1_1 (x0 : Clo) (x1 : Int)
 | c_down_1 (x0 : Tbst_seen) (x1 : Tbst_node) (x2 : Clo)
 | c_down_1_1 (x0 : Tbst_seen) (x1 : Tbst_node) (x2 : Clo)
 | c_help_1 (x0 : Clo)
 | c_grow_1 (x0 : Int) (x1 : Int) (x2 : Int) (x3 : Tbst_seen) (x4 : Int) (x5 : Tbst_node)
 | c_grow_1_1 (x0 : Int) (x1 : Int) (x2 : Tbst_seen) (x3 : Int) (x4 : Tbst_node)
 | c_grow_1_1_1 (x0 : Tbst_seen) (x1 : Int) (x2 : Tbst_node)
 | c_grow_1_1_1_1 (x0 : Tbst_node)
 | c_grow_1_1_1_2 (x0 : Tbst_node)
 | c_loses_1 (x0 : Tbst_info) (x1 : Int) (x2 : Int) (x3 : Clo)
 | c_loses_1_1 (x0 : Clo)
 | c_loses_1_2 (x0 : Tbst_info) (x1 : Int) (x2 : Clo)
 | c_loses_1_2_1 (x0 : Clo)
 | c_grows_1 (x0 : Tbst_info) (x1 : Int) (x2 : Clo)
 | c_goes_1 (x0 : Tbst_info) (x1 : Int) (x2 : Clo)
 | c_goes_1_1 (x0 : Tbst_info) (x1 : Int) (x2 : Clo)
 | c_goes_2 (x0 : Tbst_info) (x1 : Clo)
 | c_goes_2_1 (x0 : Tbst_info) (x1 : Clo)
 | c_clean_1 (x0 : Int) (x1 : Int) (x2 : Int) (x3 : Clo)
 | c_turn_1 (x0 : Int) (x1 : Int) (x2 : Int) (x3 : Clo)
inductive Arg where
 | u
 | s (x : Tbst_seen)
 | b (x : Bool)
 | w (x : Int)
abbrev RC := Obst_Tree → Omem_Mem → Obst_Call → Clo → Arg → Option (Option Clo × Obst_Tree × Omem_Mem × Obst_Call)
structure Obst_Call_2 where
 told_Ok : Bool
 told_Key : ByteArray
 told_Val : Int
 told_Err : Int
 next : (Option Clo)
 deriving Inhabited
structure Ocrowd_Crowd where
 threads : (List (Th Obst_Call_2))
 calls : (List Torder_Call)
 clock : Int
 deriving Inhabited
end Go.Proofs.YtndhbaidibioeaaGreat.V
