/- Kinds of values.
   No condition: these are laws of the clean machine and of this program. -/
import Derived.Test.YtndhbaidibioeaaGreatVq
namespace Go.Proofs.YtndhbaidibioeaaGreat.V
open Go
set_option linter.unusedVariables false
set_option linter.unusedSimpArgs false
set_option maxRecDepth 100000
structure Tmem_Mem where
 cells : (List Int)
 count : Int
 deriving Inhabited
structure Omem_Mem where
 cells : (List Int)
 count : Int
 deriving Inhabited
structure Tbst_node where
 key : ByteArray
 top : Int
 val : Int
 cell : Int
 deriving DecidableEq, Inhabited
structure Tbst_info where
 grand : Int
 parent : Int
 leaf : Int
 next : Int
 was : Int
 deriving DecidableEq, Inhabited
structure Obst_Tree where
 nodes : (List Tbst_node)
 infos : (List Tbst_info)
 deriving Inhabited
structure Tbst_Answer where
 Ok : Bool
 Key : ByteArray
 Val : Int
 Err : Int
 deriving DecidableEq, Inhabited
structure Obst_Call where
 told_Ok : Bool
 told_Key : ByteArray
 told_Val : Int
 told_Err : Int
 deriving Inhabited
structure Tbst_seen where
 grand : Int
 parent : Int
 leaf : Int
 grandWord : Int
 parentWord : Int
 turn : Int
 deriving DecidableEq, Inhabited
structure O_string where
 v : (List ByteArray)
 deriving Inhabited
structure TEvent where
 Rev : Int
 Key : ByteArray
 Val : ByteArray
 Del : Bool
 deriving DecidableEq, Inhabited
structure Tchain_version where
 Event : TEvent
 ahead : Int
 deriving DecidableEq, Inhabited
structure Ochain_Store where
 all : (List Tchain_version)
 deriving Inhabited
structure TKV where
 Key : ByteArray
 Val : ByteArray
 Rev : Int
 deriving DecidableEq, Inhabited
structure Oindex_Work where
 cell : Int
 bad : Int
 found : (List TKV)
 deriving Inhabited
structure Ochain_Put where
 cell : Int
 e_Rev : Int
 e_Key : ByteArray
 e_Val : ByteArray
 e_Del : Bool
 last : Int
 seen : Bool
 done : Bool
 deriving Inhabited
structure Oindex_Index where
 dummy : Unit
 deriving Inhabited
structure TRange where
 From : ByteArray
 To : ByteArray
 deriving DecidableEq, Inhabited
inductive Clo where
 | c_Find_1_1 (x0 : Tbst_node)
 | c_Seek_1_1 (x0 : Tbst_node)
 | c_insert_1 (x0 : Tbst_node)
 | c_insert_2 (x0 : Tbst_node) (x1 : Clo)
 | c_down_1 (x0 : Tbst_seen) (x1 : Tbst_node) (x2 : Clo)
 | c_down_1_1 (x0 : Tbst_seen) (x1 : Tbst_node) (x2 : Clo)
 | c_least_1 (x0 : Int)
 | c_help_1 (x0 : Clo)
 | c_grow_1 (x0 : Int) (x1 : Int) (x2 : Int) (x3 : Tbst_seen) (x4 : Int) (x5 : Tbst_node)
 | c_grow_1_1 (x0 : Int) (x1 : Int) (x2 : Tbst_seen) (x3 : Int) (x4 : Tbst_node)
 | c_grow_1_1_1 (x0 : Tbst_seen) (x1 : Int) (x2 : Tbst_node)
 | c_grow_1_1_1_1 (x0 : Tbst_node)
 | c_grow_1_1_1_2 (x0 : Tbst_node)
 | c_loses_1 (x0 : Tbst_info) (x1 : Int) (x2 : Int) (x3 : Clo)
 | c_loses_1_1 (x0 : Clo)
 | c_loses_1_2 (x0 : Tbst_info) (x1 : Int) (x2 : Clo)
 | c_loses_1_2_1 (x0 : Clo)
 | c_grows_1 (x0 : Tbst_info) (x1 : Int) (x2 : Clo)
 | c_goes_1 (x0 : Tbst_info) (x1 : Int) (x2 : Clo)
 | c_goes_1_1 (x0 : Tbst_info) (x1 : Int) (x2 : Clo)
 | c_goes_2 (x0 : Tbst_info) (x1 : Clo)
 | c_goes_2_1 (x0 : Tbst_info) (x1 : Clo)
 | c_clean_1 (x0 : Int) (x1 : Int) (x2 : Int) (x3 : Clo)
 | c_turn_1 (x0 : Int) (x1 : Int) (x2 : Int) (x3 : Clo)
structure Obst_Call_2 where
 told_Ok : Bool
 told_Key : ByteArray
 told_Val : Int
 told_Err : Int
 next : (Option Clo)
 deriving Inhabited
inductive Cli where
 | c_Index_Get_1_1 (x0 : Int)
 | c_end
 | c_Index_Put_1_1 (x0 : TEvent)
 | c_after_1 (x0 : Obst_Call_2) (x1 : Cli)
 | c_after_1_v1 (x0 : Ochain_Put) (x1 : Cli)
 | c_Work_look_1 (x0 : Int) (x1 : Int) (x2 : Cli)
 | c_Work_walk_1 (x0 : TRange) (x1 : Int)
 | c_Work_walk_1_1 (x0 : TRange) (x1 : Tbst_Answer) (x2 : Int)
 | c_Work_ensure_1 (x0 : Cli) (x1 : ByteArray)
 | c_Work_ensure_1_1 (x0 : Cli)
 | w146 (y0 : Obst_Call_2) (th : Cli)
structure Oindex_Work_2 where
 next : (Option Cli)
 cell : Int
 bad : Int
 found : (List TKV)
 deriving Inhabited
def c_Tbst_node (x : Tbst_node) : List Value := [.string x.key, .int .i64 x.top, .int .u64 x.val, .int .i64 x.cell]
def R_Tbst_node : Rep Tbst_node := Rep.flat 4 127 c_Tbst_node (fun _ => ⟨rfl, rfl⟩)
def c_Tbst_info (x : Tbst_info) : List Value := [.int .i64 x.grand, .int .i64 x.parent, .int .i64 x.leaf, .int .i64 x.next, .int .u64 x.was]
def R_Tbst_info : Rep Tbst_info := Rep.flat 5 155 c_Tbst_info (fun _ => ⟨rfl, rfl⟩)
def c_TKV (x : TKV) : List Value := [.string x.Key, .string x.Val, .int .i64 x.Rev]
def R_TKV : Rep TKV := Rep.flat 3 56 c_TKV (fun _ => ⟨rfl, rfl⟩)
def c_Tchain_version (x : Tchain_version) : List Value := [.int .i64 x.Event.Rev, .string x.Event.Key, .string x.Event.Val, .bool x.Event.Del, .int .u64 x.ahead]
def R_Tchain_version : Rep Tchain_version := Rep.flat 5 175 c_Tchain_version (fun _ => ⟨rfl, rfl⟩)
def c_TEvent (x : TEvent) : List Value := [.int .i64 x.Rev, .string x.Key, .string x.Val, .bool x.Del]
def R_TEvent : Rep TEvent := Rep.flat 4 36 c_TEvent (fun _ => ⟨rfl, rfl⟩)
inductive Arg where
 | u
 | s (x : Tbst_seen)
 | b (x : Bool)
 | w (x : Int)
abbrev RC := Obst_Tree → Omem_Mem → Obst_Call → Clo → Arg → Option (Option Clo × Obst_Tree × Omem_Mem × Obst_Call)
inductive Argi where
 | u
abbrev RCi := Obst_Tree → Omem_Mem → Ochain_Store → Oindex_Work → Cli → Argi → Option (Option Cli × Obst_Tree × Omem_Mem × Ochain_Store × Oindex_Work)
def S_TEvent (x : TEvent) : Prop := True ∧ x.Key.size ≤ reachBytes ∧ x.Val.size ≤ reachBytes ∧ True
end Go.Proofs.YtndhbaidibioeaaGreat.V
