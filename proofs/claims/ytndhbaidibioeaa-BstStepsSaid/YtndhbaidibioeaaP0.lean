/- Kinds of values.
   No condition: these are laws of the clean machine and of this program. -/
import Derived.Test.YtndhbaidibioeaaVq
namespace Go.Proofs.Ytndhbaidibioeaa.V
open Go
set_option linter.unusedVariables false
set_option linter.unusedSimpArgs false
set_option maxRecDepth 100000
structure Tmem_Mem where
  cells : (List Int)
  count : Int
  deriving Inhabited
structure Omem_Mem where
  cells : (List Int)
  count : Int
  deriving Inhabited
structure Tbst_node where
  key : ByteArray
  top : Int
  val : Int
  cell : Int
  deriving DecidableEq, Inhabited
structure Tbst_info where
  grand : Int
  parent : Int
  leaf : Int
  next : Int
  was : Int
  deriving DecidableEq, Inhabited
structure Obst_Tree where
  nodes : (List Tbst_node)
  infos : (List Tbst_info)
  deriving Inhabited
structure Tbst_Answer where
  Ok : Bool
  Key : ByteArray
  Val : Int
  Err : Int
  deriving DecidableEq, Inhabited
structure Obst_Call where
  told_Ok : Bool
  told_Key : ByteArray
  told_Val : Int
  told_Err : Int
  deriving Inhabited
structure Tbst_seen where
  grand : Int
  parent : Int
  leaf : Int
  grandWord : Int
  parentWord : Int
  turn : Int
  deriving DecidableEq, Inhabited
structure O_string where
  v : (List ByteArray)
  deriving Inhabited
structure Timpostlaw15_Deed where
  Kind : Int
  Key : ByteArray
  Val : Int
  deriving DecidableEq, Inhabited
structure Timpostref15_Entry where
  Key : ByteArray
  Val : Int
  deriving DecidableEq, Inhabited
structure Timpostref14_Call where
  Kind : Int
  Key : ByteArray
  Ok : Bool
  Inv : Int
  Ret : Int
  deriving DecidableEq, Inhabited
structure A2_Timpostlaw15_Deed where
  x0 : Timpostlaw15_Deed
  x1 : Timpostlaw15_Deed
  deriving DecidableEq, Inhabited

def c_Tbst_node (x : Tbst_node) : List Value := [.string x.key, .int .i64 x.top, .int .u64 x.val, .int .i64 x.cell]
def R_Tbst_node : Rep Tbst_node := Rep.flat 4 89 c_Tbst_node (fun _ => ⟨rfl, rfl⟩)
def c_Tbst_info (x : Tbst_info) : List Value := [.int .i64 x.grand, .int .i64 x.parent, .int .i64 x.leaf, .int .i64 x.next, .int .u64 x.was]
def R_Tbst_info : Rep Tbst_info := Rep.flat 5 86 c_Tbst_info (fun _ => ⟨rfl, rfl⟩)
def c_Timpostlaw15_Deed (x : Timpostlaw15_Deed) : List Value := [.int .i64 x.Kind, .string x.Key, .int .u64 x.Val]
def R_Timpostlaw15_Deed : Rep Timpostlaw15_Deed := Rep.flat 3 37 c_Timpostlaw15_Deed (fun _ => ⟨rfl, rfl⟩)
def c_A2_Timpostlaw15_Deed (x : A2_Timpostlaw15_Deed) : List Value := [.int .i64 x.x0.Kind, .string x.x0.Key, .int .u64 x.x0.Val, .int .i64 x.x1.Kind, .string x.x1.Key, .int .u64 x.x1.Val]
def R_A2_Timpostlaw15_Deed : Rep A2_Timpostlaw15_Deed := Rep.flat 6 54 c_A2_Timpostlaw15_Deed (fun _ => ⟨rfl, rfl⟩)
def W_Timpostlaw15_Deed (x : Timpostlaw15_Deed) : Prop := (okI .i64) x.Kind ∧ (fun x => x.size ≤ maxLen) x.Key ∧ (okI .u64) x.Val
def W_A2_Timpostlaw15_Deed (x : A2_Timpostlaw15_Deed) : Prop := W_Timpostlaw15_Deed x.x0 ∧ W_Timpostlaw15_Deed x.x1
inductive Clo where
  | c_Seek_1_1 (x0 : Tbst_node)
  | c_Find_1_1 (x0 : Tbst_node)
  | c_least_1 (x0 : Int)
  | c_insert_1 (x0 : Tbst_node)
  | c_insert_2 (x0 : Tbst_node) (x1 : Clo)
  | c_remove_1 (x0 : Tbst_node)
  | c_remove_2 (x0 : Tbst_node) (x1 : Clo)
  | c_remove_2_1 (x0 : Tbst_seen) (x1 : Int) (x2 : Clo) (x3 : Int)
  | c_remove_2_1_1 (x0 : Clo) (x1 : Int)
  | c_down_1 (x0 : Tbst_seen) (x1 : Tbst_node) (x2 : Clo)
  | c_down_1_1 (x0 : Tbst_seen) (x1 : Tbst_node) (x2 : Clo)
  | c_help_1 (x0 : Clo)
  | c_grow_1 (x0 : Int) (x1 : Int) (x2 : Int) (x3 : Tbst_seen) (x4 : Int) (x5 : Tbst_node)
  | c_grow_1_1 (x0 : Int) (x1 : Int) (x2 : Tbst_seen) (x3 : Int) (x4 : Tbst_node)
  | c_grow_1_1_1 (x0 : Tbst_seen) (x1 : Int) (x2 : Tbst_node)
  | c_grow_1_1_1_1 (x0 : Tbst_node)
  | c_grow_1_1_1_2 (x0 : Tbst_node)
  | c_loses_1 (x0 : Tbst_info) (x1 : Int) (x2 : Int) (x3 : Clo)
  | c_loses_1_1 (x0 : Clo)
  | c_loses_1_2 (x0 : Tbst_info) (x1 : Int) (x2 : Clo)
  | c_loses_1_2_1 (x0 : Clo)
  | c_grows_1 (x0 : Tbst_info) (x1 : Int) (x2 : Clo)
  | c_goes_1 (x0 : Tbst_info) (x1 : Int) (x2 : Clo)
  | c_goes_1_1 (x0 : Tbst_info) (x1 : Int) (x2 : Clo)
  | c_goes_2 (x0 : Tbst_info) (x1 : Clo)
  | c_goes_2_1 (x0 : Tbst_info) (x1 : Clo)
  | c_clean_1 (x0 : Int) (x1 : Int) (x2 : Int) (x3 : Clo)
  | c_turn_1 (x0 : Int) (x1 : Int) (x2 : Int) (x3 : Clo)
inductive Arg where
  | u
  | s (x : Tbst_seen)
  | b (x : Bool)
  | w (x : Int)
abbrev RC := Obst_Tree → Omem_Mem → Obst_Call → Clo → Arg → Option (Option Clo × Obst_Tree × Omem_Mem × Obst_Call)
structure Obst_Call_2 where
  told_Ok : Bool
  told_Key : ByteArray
  told_Val : Int
  told_Err : Int
  next : (Option Clo)
  deriving Inhabited
end Go.Proofs.Ytndhbaidibioeaa.V
