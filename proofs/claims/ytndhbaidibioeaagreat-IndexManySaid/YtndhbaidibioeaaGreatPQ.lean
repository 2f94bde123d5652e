/- Kinds of values.
   No condition: these are laws of the clean machine and of this program. -/
import Derived.Test.YtndhbaidibioeaaGreatVQ
import Derived.Test.YtndhbaidibioeaaGreatSa
namespace Go.Proofs.YtndhbaidibioeaaGreat.V
open Go
set_option linter.unusedVariables false
set_option linter.unusedSimpArgs false
set_option maxRecDepth 100000
structure Tmem_Mem where
 cells : (List Int)
 count : Int
 deriving Inhabited
structure Omem_Mem where
 cells : (List Int)
 count : Int
 deriving Inhabited
structure Tbst_node where
 key : ByteArray
 top : Int
 val : Int
 cell : Int
 deriving DecidableEq, Inhabited
structure Tbst_info where
 grand : Int
 parent : Int
 leaf : Int
 next : Int
 was : Int
 deriving DecidableEq, Inhabited
structure Obst_Tree where
 nodes : (List Tbst_node)
 infos : (List Tbst_info)
 deriving Inhabited
structure Tbst_Answer where
 Ok : Bool
 Key : ByteArray
 Val : Int
 Err : Int
 deriving DecidableEq, Inhabited
structure Obst_Call where
 told_Ok : Bool
 told_Key : ByteArray
 told_Val : Int
 told_Err : Int
 deriving Inhabited
structure Tbst_seen where
 grand : Int
 parent : Int
 leaf : Int
 grandWord : Int
 parentWord : Int
 turn : Int
 deriving DecidableEq, Inhabited
structure O_string where
 v : (List ByteArray)
 deriving Inhabited
structure TEvent where
 Rev : Int
 Key : ByteArray
 Val : ByteArray
 Del : Bool
 deriving DecidableEq, Inhabited
structure Tchain_version where
 Event : TEvent
 ahead : Int
 deriving DecidableEq, Inhabited
structure Ochain_Store where
 all : (List Tchain_version)
 deriving Inhabited
structure TKV where
 Key : ByteArray
 Val : ByteArray
 Rev : Int
 deriving DecidableEq, Inhabited
structure Oindex_Work where
 cell : Int
 bad : Int
 found : (List TKV)
 deriving Inhabited
structure Ochain_Put where
 cell : Int
 e_Rev : Int
 e_Key : ByteArray
 e_Val : ByteArray
 e_Del : Bool
 last : Int
 seen : Bool
 done : Bool
 deriving Inhabited
structure Oindex_Index where
 dummy : Unit
 deriving Inhabited
structure TRange where
 From : ByteArray
 To : ByteArray
 deriving DecidableEq, Inhabited
inductive Clo where
 | c_Find_1_1 (x0 : Tbst_node)
 | c_Seek_1_1 (x0 : Tbst_node)
 | c_insert_1 (x0 : Tbst_node)
 | c_insert_2 (x0 : Tbst_node) (x1 : Clo)
 | c_down_1 (x0 : Tbst_seen) (x1 : Tbst_node) (x2 : Clo)
 | c_down_1_1 (x0 : Tbst_seen) (x1 : Tbst_node) (x2 : Clo)
 | c_least_1 (x0 : Int)
 | c_help_1 (x0 : Clo)
 | c_grow_1 (x0 : Int) (x1 : Int) (x2 : Int) (x3 : Tbst_seen) (x4 : Int) (x5 : Tbst_node)
 | c_grow_1_1 (x0 : Int) (x1 : Int) (x2 : Tbst_seen) (x3 : Int) (x4 : Tbst_node)
 | c_grow_1_1_1 (x0 : Tbst_seen) (x1 : Int) (x2 : Tbst_node)
 | c_grow_1_1_1_1 (x0 : Tbst_node)
 | c_grow_1_1_1_2 (x0 : Tbst_node)
 | c_loses_1 (x0 : Tbst_info) (x1 : Int) (x2 : Int) (x3 : Clo)
 | c_loses_1_1 (x0 : Clo)
 | c_loses_1_2 (x0 : Tbst_info) (x1 : Int) (x2 : Clo)
 | c_loses_1_2_1 (x0 : Clo)
 | c_grows_1 (x0 : Tbst_info) (x1 : Int) (x2 : Clo)
 | c_goes_1 (x0 : Tbst_info) (x1 : Int) (x2 : Clo)
 | c_goes_1_1 (x0 : Tbst_info) (x1 : Int) (x2 : Clo)
 | c_goes_2 (x0 : Tbst_info) (x1 : Clo)
 | c_goes_2_1 (x0 : Tbst_info) (x1 : Clo)
 | c_clean_1 (x0 : Int) (x1 : Int) (x2 : Int) (x3 : Clo)
 | c_turn_1 (x0 : Int) (x1 : Int) (x2 : Int) (x3 : Clo)
structure Obst_Call_2 where
 told_Ok : Bool
 told_Key : ByteArray
 told_Val : Int
 told_Err : Int
 next : (Option Clo)
 deriving Inhabited
inductive Cli where
 | c_Index_Get_1_1 (x0 : Int)
 | c_end
 | c_Index_Put_1_1 (x0 : TEvent)
 | c_after_1 (x0 : Obst_Call_2) (x1 : Cli)
 | c_after_1_v1 (x0 : Ochain_Put) (x1 : Cli)
 | c_Work_look_1 (x0 : Int) (x1 : Int) (x2 : Cli)
 | c_Work_walk_1 (x0 : TRange) (x1 : Int)
 | c_Work_walk_1_1 (x0 : TRange) (x1 : Tbst_Answer) (x2 : Int)
 | c_Work_ensure_1 (x0 : Cli) (x1 : ByteArray)
 | c_Work_ensure_1_1 (x0 : Cli)
 | w146 (y0 : Obst_Call_2) (th : Cli)
structure Oindex_Work_2 where
 next : (Option Cli)
 cell : Int
 bad : Int
 found : (List TKV)
 deriving Inhabited
def eq_TKV (x y : TKV) : Bool := (x.Key == y.Key) && ((x.Val == y.Val) && ((x.Rev == y.Rev) && (true)))
def c_Tbst_node (x : Tbst_node) : List Value := [.string x.key, .int .i64 x.top, .int .u64 x.val, .int .i64 x.cell]
def R_Tbst_node : Rep Tbst_node := Rep.flat 4 127 c_Tbst_node (fun _ => ⟨rfl, rfl⟩)
def c_Tbst_info (x : Tbst_info) : List Value := [.int .i64 x.grand, .int .i64 x.parent, .int .i64 x.leaf, .int .i64 x.next, .int .u64 x.was]
def R_Tbst_info : Rep Tbst_info := Rep.flat 5 155 c_Tbst_info (fun _ => ⟨rfl, rfl⟩)
def c_TKV (x : TKV) : List Value := [.string x.Key, .string x.Val, .int .i64 x.Rev]
def R_TKV : Rep TKV := Rep.flat 3 56 c_TKV (fun _ => ⟨rfl, rfl⟩)
def c_Tchain_version (x : Tchain_version) : List Value := [.int .i64 x.Event.Rev, .string x.Event.Key, .string x.Event.Val, .bool x.Event.Del, .int .u64 x.ahead]
def R_Tchain_version : Rep Tchain_version := Rep.flat 5 175 c_Tchain_version (fun _ => ⟨rfl, rfl⟩)
def c_TEvent (x : TEvent) : List Value := [.int .i64 x.Rev, .string x.Key, .string x.Val, .bool x.Del]
def R_TEvent : Rep TEvent := Rep.flat 4 36 c_TEvent (fun _ => ⟨rfl, rfl⟩)
inductive Arg where
 | u
 | s (x : Tbst_seen)
 | b (x : Bool)
 | w (x : Int)
abbrev RC := Obst_Tree → Omem_Mem → Obst_Call → Clo → Arg → Option (Option Clo × Obst_Tree × Omem_Mem × Obst_Call)
inductive Argi where
 | u
abbrev RCi := Obst_Tree → Omem_Mem → Ochain_Store → Oindex_Work → Cli → Argi → Option (Option Cli × Obst_Tree × Omem_Mem × Ochain_Store × Oindex_Work)
def S_TEvent (x : TEvent) : Prop := (okI .i64) x.Rev ∧ x.Key.size ≤ reachBytes ∧ x.Val.size ≤ reachBytes ∧ True
def F_bst_Tree_is (p0 : Obst_Tree) (p0o0 : Omem_Mem) (p1 : Int) (p2 : Tbst_node) : Option (Bool × Obst_Tree × Omem_Mem) :=
 (getI p0.nodes p1).bind fun x6 => some ((bif (x6.top == 0) then (eqB x6.key p2.key) else false), p0, p0o0)
def F_bst_Call_tell (rc : RC) (p0 : Obst_Tree) (p0o0 : Omem_Mem) (p1 : Obst_Call) (p3 : Bool) (p4 : Int) : Option ((Option Clo) × Obst_Tree × Omem_Mem × Obst_Call) :=
 some (none, p0, p0o0, (⟨p3, p1.told_Key, p4, p1.told_Err⟩ : Obst_Call))
def F_bst_Tree_Find_1_1 (rc : RC) (p0 : Obst_Tree) (p0o0 : Omem_Mem) (p1 : Obst_Call) (p2 : Tbst_seen) (p4 : Tbst_node) : Option ((Option Clo) × Obst_Tree × Omem_Mem × Obst_Call) :=
 (F_bst_Tree_is p0 p0o0 p2.leaf p4).bind fun x8 => if (!x8.1) = true then ((F_bst_Call_tell rc x8.2.1 x8.2.2 p1 false 0).bind fun x10 => some (x10.1, x10.2.1, x10.2.2.1, x10.2.2.2)) else ((getI x8.2.1.nodes p2.leaf).bind fun x12 => (F_bst_Call_tell rc x8.2.1 x8.2.2 p1 true x12.val).bind fun x13 => some (x13.1, x13.2.1, x13.2.2.1, x13.2.2.2))
def F_bst_node_less (p0 : Tbst_node) (p1 : Tbst_node) : Option (Bool) :=
 if (p0.top != p1.top) = true then (some (decide (p0.top < p1.top))) else (some (lessB p0.key p1.key))
def F_bst_Call_found (rc : RC) (p0 : Obst_Tree) (p0o0 : Omem_Mem) (p1 : Obst_Call) (p3 : Tbst_node) : Option ((Option Clo) × Obst_Tree × Omem_Mem × Obst_Call) :=
 (F_bst_Call_tell rc p0 p0o0 (⟨p1.told_Ok, p3.key, p1.told_Val, p1.told_Err⟩ : Obst_Call) true p3.val).bind fun x7 => some (x7.1, x7.2.1, x7.2.2.1, x7.2.2.2)
def F_bst_Tree_cell (p0 : Obst_Tree) (p0o0 : Omem_Mem) (p1 : Int) (p2 : Int) : Option (Int × Obst_Tree × Omem_Mem) :=
 (getI p0.nodes p1).bind fun x5 => some ((IntKind.i64.wrap (x5.cell + p2)), p0, p0o0)
def F_bst_Tree_least (rc : RC) (p0 : Obst_Tree) (p0o0 : Omem_Mem) (p1 : Obst_Call) (p4 : Int) : Option ((Option Clo) × Obst_Tree × Omem_Mem × Obst_Call) :=
 some ((some (Clo.c_least_1 p4)), p0, p0o0, p1)
def F_bst_Tree_Seek_1_1 (rc : RC) (p0 : Obst_Tree) (p0o0 : Omem_Mem) (p1 : Obst_Call) (p2 : Tbst_seen) (p4 : Tbst_node) : Option ((Option Clo) × Obst_Tree × Omem_Mem × Obst_Call) :=
 (getI p0.nodes p2.leaf).bind fun x10 => (if (x10.top == 0) = true then ((F_bst_node_less x10 p4).bind fun x22 => some (!x22)) else (some false) : Option (Bool)).bind fun s12 => if s12 = true then ((F_bst_Call_found rc p0 p0o0 p1 x10).bind fun x14 => some (x14.1, x14.2.1, x14.2.2.1, x14.2.2.2)) else (if (decide (p2.turn < 0)) = true then ((F_bst_Call_tell rc p0 p0o0 p1 false 0).bind fun x17 => some (x17.1, x17.2.1, x17.2.2.1, x17.2.2.2)) else ((F_bst_Tree_cell p0 p0o0 p2.turn 2).bind fun x19 => (F_bst_Tree_least rc x19.2.1 x19.2.2 p1 x19.1).bind fun x21 => some (x21.1, x21.2.1, x21.2.2.1, x21.2.2.2)))
def F_bst_node_leaf (p0 : Tbst_node) : Option (Bool) :=
 some (decide (p0.cell < 0))
def F_bst_Tree_down (rc : RC) (p0 : Obst_Tree) (p0o0 : Omem_Mem) (p1 : Obst_Call) (p3 : Tbst_seen) (p4 : Tbst_node) (p5 : Clo) : Option ((Option Clo) × Obst_Tree × Omem_Mem × Obst_Call) :=
 (getI p0.nodes p3.leaf).bind fun x12 => (F_bst_node_leaf x12).bind fun x13 => if x13 = true then ((rc p0 p0o0 p1 p5 (Arg.s p3)).bind fun x15 => some (x15.1, x15.2.1, x15.2.2.1, x15.2.2.2)) else (some ((some (Clo.c_down_1 (⟨p3.parent, p3.leaf, p3.leaf, p3.parentWord, p3.parentWord, p3.turn⟩ : Tbst_seen) p4 p5)), p0, p0o0, p1))
def F_bst_Tree_search (rc : RC) (p0 : Obst_Tree) (p0o0 : Omem_Mem) (p1 : Obst_Call) (p3 : Tbst_node) (p4 : Clo) : Option ((Option Clo) × Obst_Tree × Omem_Mem × Obst_Call) :=
 (F_bst_Tree_down rc p0 p0o0 p1 (⟨0, 0, 0, 0, 0, (-1)⟩ : Tbst_seen) p3 p4).bind fun x7 => some (x7.1, x7.2.1, x7.2.2.1, x7.2.2.2)
def F_bst_Tree_insert (rc : RC) (p0 : Obst_Tree) (p0o0 : Omem_Mem) (p1 : Obst_Call) (p4 : Tbst_node) : Option ((Option Clo) × Obst_Tree × Omem_Mem × Obst_Call) :=
 (F_bst_Tree_search rc p0 p0o0 p1 p4 (Clo.c_insert_2 p4 (Clo.c_insert_1 p4))).bind fun x10 => some (x10.1, x10.2.1, x10.2.2.1, x10.2.2.2)
def F_bst_Tree_insert_1 (rc : RC) (p0 : Obst_Tree) (p0o0 : Omem_Mem) (p1 : Obst_Call) (p4 : Tbst_node) : Option ((Option Clo) × Obst_Tree × Omem_Mem × Obst_Call) :=
 (F_bst_Tree_insert rc p0 p0o0 p1 p4).bind fun x6 => some (x6.1, x6.2.1, x6.2.2.1, x6.2.2.2)
def F_word_State (p0 : Int) : Option (Int) :=
 some (IntKind.i64.wrap (andI .u64 p0 3))
def F_word_Info (p0 : Int) : Option (Int) :=
 some (IntKind.i64.wrap (shrI .u64 p0 2))
def F_bst_Tree_turn (rc : RC) (p0 : Obst_Tree) (p0o0 : Omem_Mem) (p1 : Obst_Call) (p3 : Int) (p4 : Int) (p5 : Int) (p6 : Clo) : Option ((Option Clo) × Obst_Tree × Omem_Mem × Obst_Call) :=
 some ((some (Clo.c_turn_1 p3 p5 p4 p6)), p0, p0o0, p1)
def F_bst_Tree_grows (rc : RC) (p0 : Obst_Tree) (p0o0 : Omem_Mem) (p1 : Obst_Call) (p3 : Int) (p4 : Clo) : Option ((Option Clo) × Obst_Tree × Omem_Mem × Obst_Call) :=
 (getI p0.infos p3).bind fun x11 => (F_bst_Tree_turn rc p0 p0o0 p1 x11.parent x11.leaf x11.next (Clo.c_grows_1 x11 p3 p4)).bind fun x12 => some (x12.1, x12.2.1, x12.2.2.1, x12.2.2.2)
def F_word_Pack (p0 : Int) (p1 : Int) : Option (Int) :=
 some (orI .u64 (shlI .u64 (IntKind.u64.wrap p1) 2) (andI .u64 (IntKind.u64.wrap p0) 3))
def F_bst_Tree_loses (rc : RC) (p0 : Obst_Tree) (p0o0 : Omem_Mem) (p1 : Obst_Call) (p3 : Int) (p4 : Clo) : Option ((Option Clo) × Obst_Tree × Omem_Mem × Obst_Call) :=
 (getI p0.infos p3).bind fun x11 => (F_word_Pack 3 p3).bind fun x12 => some ((some (Clo.c_loses_1 x11 x12 p3 p4)), p0, p0o0, p1)
def F_bst_Tree_goes (rc : RC) (p0 : Obst_Tree) (p0o0 : Omem_Mem) (p1 : Obst_Call) (p3 : Int) (p4 : Clo) : Option ((Option Clo) × Obst_Tree × Omem_Mem × Obst_Call) :=
 (getI p0.infos p3).bind fun x11 => some ((some (Clo.c_goes_2 x11 (Clo.c_goes_1 x11 p3 p4))), p0, p0o0, p1)
def F_bst_Tree_help (rc : RC) (p0 : Obst_Tree) (p0o0 : Omem_Mem) (p1 : Obst_Call) (p3 : Int) (p4 : Clo) : Option ((Option Clo) × Obst_Tree × Omem_Mem × Obst_Call) :=
 (F_word_Info p3).bind fun x7 => (F_word_State p3).bind fun x8 => if (x8 == 1) = true then ((F_bst_Tree_grows rc p0 p0o0 p1 x7 p4).bind fun x10 => some (x10.1, x10.2.1, x10.2.2.1, x10.2.2.2)) else (if (x8 == 2) = true then ((F_bst_Tree_loses rc p0 p0o0 p1 x7 (Clo.c_help_1 p4)).bind fun x12 => some (x12.1, x12.2.1, x12.2.2.1, x12.2.2.2)) else (if (x8 == 3) = true then ((F_bst_Tree_goes rc p0 p0o0 p1 x7 p4).bind fun x16 => some (x16.1, x16.2.1, x16.2.2.1, x16.2.2.2)) else ((rc p0 p0o0 p1 p4 Arg.u).bind fun x17 => some (x17.1, x17.2.1, x17.2.2.1, x17.2.2.2))))
def F_mem_Mem_add (p0 : Omem_Mem) (p1 : (List Int)) : Option (Omem_Mem) :=
 (appL 8 p0.cells p1).bind fun x4 => some (⟨(p0.cells ++ p1), p0.count⟩ : Omem_Mem)
def F_mem_Mem_Grow (p0 : Omem_Mem) (p1 : Int) : Option (Int × Int × Omem_Mem) :=
 (if (decide (p1 < 0)) = true then (some true) else (some (decide (p1 > (IntKind.i64.wrap (65536 - (p0.cells.length : Int)))))) : Option (Bool)).bind fun s5 => if s5 = true then (some (0, 7, p0)) else ((mkZ p1).bind fun x8 => (F_mem_Mem_add p0 x8).bind fun x9 => some ((p0.cells.length : Int), 0, x9))
def F_bst_Tree_node (p0 : Obst_Tree) (p0o0 : Omem_Mem) (p1 : Tbst_node) : Option (Int × Obst_Tree × Omem_Mem) :=
 (appL 40 p0.nodes ([p1] : List Tbst_node)).bind fun x6 => some ((IntKind.i64.wrap (((p0.nodes ++ ([p1] : List Tbst_node)).length : Int) - 1)), (⟨(p0.nodes ++ ([p1] : List Tbst_node)), p0.infos⟩ : Obst_Tree), p0o0)
def F_bst_Tree_leaf (p0 : Obst_Tree) (p0o0 : Omem_Mem) (p1 : ByteArray) (p2 : Int) (p3 : Int) : Option (Int × Obst_Tree × Omem_Mem) :=
 (F_bst_Tree_node p0 p0o0 (⟨p1, p2, p3, (-1)⟩ : Tbst_node)).bind fun x5 => some (x5.1, x5.2.1, x5.2.2)
def F_bst_Tree_info (p0 : Obst_Tree) (p0o0 : Omem_Mem) (p1 : Tbst_info) : Option (Int × Obst_Tree × Omem_Mem) :=
 (appL 40 p0.infos ([p1] : List Tbst_info)).bind fun x6 => some ((IntKind.i64.wrap (((p0.infos ++ ([p1] : List Tbst_info)).length : Int) - 1)), (⟨p0.nodes, (p0.infos ++ ([p1] : List Tbst_info))⟩ : Obst_Tree), p0o0)
def F_bst_Tree_grow (rc : RC) (p0 : Obst_Tree) (p0o0 : Omem_Mem) (p1 : Obst_Call) (p4 : Tbst_node) (p5 : Tbst_seen) (p6 : Int) : Option ((Option Clo) × Obst_Tree × Omem_Mem × Obst_Call) :=
 (getI p0.nodes p5.leaf).bind fun x15 => (F_bst_Tree_leaf p0 p0o0 p4.key 0 p4.val).bind fun x17 => (F_bst_Tree_leaf x17.2.1 x17.2.2 x15.key x15.top x15.val).bind fun x19 => (F_bst_node_less x15 p4).bind fun x21 => (if x21 = true then (some (p4.key, p4.top, p4.val, p4.cell, x17.1, x19.1)) else (some (x15.key, x15.top, x15.val, x15.cell, x19.1, x17.1)) : Option (ByteArray × Int × Int × Int × Int × Int)).bind fun s23 => (F_bst_Tree_node x19.2.1 x19.2.2 (⟨s23.1, s23.2.1, 0, p6⟩ : Tbst_node)).bind fun x25 => (F_bst_Tree_info x25.2.1 x25.2.2 (⟨0, p5.parent, p5.leaf, x25.1, 0⟩ : Tbst_info)).bind fun x26 => some ((some (Clo.c_grow_1 p6 s23.2.2.2.2.2 s23.2.2.2.2.1 p5 x26.1 p4)), x26.2.1, x26.2.2, p1)
def F_bst_Tree_insert_2 (rc : RC) (p0 : Obst_Tree) (p0o0 : Omem_Mem) (p1 : Obst_Call) (p2 : Tbst_seen) (p4 : Tbst_node) (p6 : Clo) : Option ((Option Clo) × Obst_Tree × Omem_Mem × Obst_Call) :=
 (F_bst_Tree_is p0 p0o0 p2.leaf p4).bind fun x9 => if x9.1 = true then ((getI x9.2.1.nodes p2.leaf).bind fun x12 => (F_bst_Call_tell rc x9.2.1 x9.2.2 p1 false x12.val).bind fun x13 => some (x13.1, x13.2.1, x13.2.2.1, x13.2.2.2)) else ((F_word_State p2.parentWord).bind fun x15 => if (x15 != 0) = true then ((F_bst_Tree_help rc x9.2.1 x9.2.2 p1 p2.parentWord p6).bind fun x17 => some (x17.1, x17.2.1, x17.2.2.1, x17.2.2.2)) else ((F_mem_Mem_Grow x9.2.2 3).bind fun x19 => if (x19.2.1 != 0) = true then (some (none, x9.2.1, x19.2.2, (⟨false, p4.key, 0, x19.2.1⟩ : Obst_Call))) else ((F_bst_Tree_grow rc x9.2.1 x19.2.2 p1 p4 p2 x19.1).bind fun x24 => some (x24.1, x24.2.1, x24.2.2.1, x24.2.2.2))))
def F_mem_Mem_Load (p0 : Omem_Mem) (p1 : Int) : Option (Int × Int × Omem_Mem) :=
 match getI p0.cells p1 with | none => some (0, 1, p0) | some x3 => some (x3, 0, (⟨p0.cells, (IntKind.i64.wrap (p0.count + 1))⟩ : Omem_Mem))
def F_bst_Tree_down_1 (rc : RC) (p0 : Obst_Tree) (p0o0 : Omem_Mem) (p1 : Obst_Call) (p3 : Tbst_seen) (p4 : Tbst_node) (p5 : Clo) : Option ((Option Clo) × Obst_Tree × Omem_Mem × Obst_Call) :=
 (F_bst_Tree_cell p0 p0o0 p3.parent 0).bind fun x8 => (F_mem_Mem_Load x8.2.2 x8.1).bind fun x11 => some ((some (Clo.c_down_1_1 (⟨p3.grand, p3.parent, p3.leaf, p3.grandWord, x11.1, p3.turn⟩ : Tbst_seen) p4 p5)), x8.2.1, x11.2.2, p1)
def F_bst_Tree_side (p0 : Obst_Tree) (p0o0 : Omem_Mem) (p1 : Int) (p2 : Tbst_node) : Option (Int × Obst_Tree × Omem_Mem) :=
 (getI p0.nodes p1).bind fun x6 => (F_bst_node_less p2 x6).bind fun x7 => if x7 = true then ((F_bst_Tree_cell p0 p0o0 p1 1).bind fun x9 => some (x9.1, x9.2.1, x9.2.2)) else ((F_bst_Tree_cell p0 p0o0 p1 2).bind fun x11 => some (x11.1, x11.2.1, x11.2.2))
def F_bst_Tree_down_1_1 (rc : RC) (p0 : Obst_Tree) (p0o0 : Omem_Mem) (p1 : Obst_Call) (p3 : Tbst_seen) (p4 : Tbst_node) (p5 : Clo) : Option ((Option Clo) × Obst_Tree × Omem_Mem × Obst_Call) :=
 (F_bst_Tree_side p0 p0o0 p3.parent p4).bind fun x7 => (F_bst_Tree_cell x7.2.1 x7.2.2 p3.parent 1).bind fun x8 => (if (x7.1 == x8.1) = true then (some p3.parent) else (some p3.turn) : Option (Int)).bind fun s10 => (F_mem_Mem_Load x8.2.2 x7.1).bind fun x12 => (F_bst_Tree_down rc x8.2.1 x12.2.2 p1 (⟨p3.grand, p3.parent, (IntKind.i64.wrap x12.1), p3.grandWord, p3.parentWord, s10⟩ : Tbst_seen) p4 p5).bind fun x13 => some (x13.1, x13.2.1, x13.2.2.1, x13.2.2.2)
def F_bst_Tree_least_1 (rc : RC) (p0 : Obst_Tree) (p0o0 : Omem_Mem) (p1 : Obst_Call) (p3 : Int) : Option ((Option Clo) × Obst_Tree × Omem_Mem × Obst_Call) :=
 (F_mem_Mem_Load p0o0 p3).bind fun x7 => (getI p0.nodes x7.1).bind fun x8 => (F_bst_node_leaf x8).bind fun x10 => if (!x10) = true then ((F_bst_Tree_cell p0 x7.2.2 (IntKind.i64.wrap x7.1) 1).bind fun x12 => (F_bst_Tree_least rc x12.2.1 x12.2.2 p1 x12.1).bind fun x14 => some (x14.1, x14.2.1, x14.2.2.1, x14.2.2.2)) else (if (decide (x8.top > 0)) = true then ((F_bst_Call_tell rc p0 x7.2.2 p1 false 0).bind fun x16 => some (x16.1, x16.2.1, x16.2.2.1, x16.2.2.2)) else ((F_bst_Call_found rc p0 x7.2.2 p1 x8).bind fun x18 => some (x18.1, x18.2.1, x18.2.2.1, x18.2.2.2)))
def F_bst_Tree_help_1 (rc : RC) (p0 : Obst_Tree) (p0o0 : Omem_Mem) (p1 : Obst_Call) (p2 : Bool) (p3 : Clo) : Option ((Option Clo) × Obst_Tree × Omem_Mem × Obst_Call) :=
 (rc p0 p0o0 p1 p3 Arg.u).bind fun x5 => some (x5.1, x5.2.1, x5.2.2.1, x5.2.2.2)
def F_mem_Mem_Store (p0 : Omem_Mem) (p1 : Int) (p2 : Int) : Option (Int × Omem_Mem) :=
 match getI p0.cells p1 with | none => some (1, p0) | some x4 => some (0, (⟨(setI p0.cells p1 p2), (IntKind.i64.wrap (p0.count + 1))⟩ : Omem_Mem))
def F_bst_Tree_grow_1 (rc : RC) (p0 : Obst_Tree) (p0o0 : Omem_Mem) (p1 : Obst_Call) (p3 : Int) (p4 : Int) (p5 : Int) (p6 : Tbst_seen) (p7 : Int) (p9 : Tbst_node) : Option ((Option Clo) × Obst_Tree × Omem_Mem × Obst_Call) :=
 (F_mem_Mem_Store p0o0 (IntKind.i64.wrap (p3 + 1)) (IntKind.u64.wrap p4)).bind fun x12 => some ((some (Clo.c_grow_1_1 p3 p5 p6 p7 p9)), p0, x12.2, p1)
def F_bst_Tree_grow_1_1 (rc : RC) (p0 : Obst_Tree) (p0o0 : Omem_Mem) (p1 : Obst_Call) (p3 : Int) (p4 : Int) (p5 : Tbst_seen) (p6 : Int) (p8 : Tbst_node) : Option ((Option Clo) × Obst_Tree × Omem_Mem × Obst_Call) :=
 (F_mem_Mem_Store p0o0 (IntKind.i64.wrap (p3 + 2)) (IntKind.u64.wrap p4)).bind fun x11 => some ((some (Clo.c_grow_1_1_1 p5 p6 p8)), p0, x11.2, p1)
def F_mem_Mem_CAS (p0 : Omem_Mem) (p1 : Int) (p2 : Int) (p3 : Int) : Option (Int × Bool × Omem_Mem) :=
 match getI p0.cells p1 with | none => some (0, false, p0) | some x5 => (if (x5 == p2) = true then (some (setI p0.cells p1 p3)) else (some p0.cells) : Option ((List Int))).bind fun s11 => some (x5, (x5 == p2), (⟨s11, (IntKind.i64.wrap (p0.count + 1))⟩ : Omem_Mem))
def F_bst_Tree_grow_1_1_1 (rc : RC) (p0 : Obst_Tree) (p0o0 : Omem_Mem) (p1 : Obst_Call) (p3 : Tbst_seen) (p4 : Int) (p6 : Tbst_node) : Option ((Option Clo) × Obst_Tree × Omem_Mem × Obst_Call) :=
 (F_bst_Tree_cell p0 p0o0 p3.parent 0).bind fun x9 => (F_word_Pack 1 p4).bind fun x12 => (F_mem_Mem_CAS x9.2.2 x9.1 p3.parentWord x12).bind fun x13 => if (!x13.2.1) = true then ((F_bst_Tree_help rc x9.2.1 x13.2.2 p1 x13.1 (Clo.c_grow_1_1_1_1 p6)).bind fun x15 => some (x15.1, x15.2.1, x15.2.2.1, x15.2.2.2)) else ((F_bst_Tree_grows rc x9.2.1 x13.2.2 p1 p4 (Clo.c_grow_1_1_1_2 p6)).bind fun x18 => some (x18.1, x18.2.1, x18.2.2.1, x18.2.2.2))
def F_bst_Tree_grow_1_1_1_1 (rc : RC) (p0 : Obst_Tree) (p0o0 : Omem_Mem) (p1 : Obst_Call) (p4 : Tbst_node) : Option ((Option Clo) × Obst_Tree × Omem_Mem × Obst_Call) :=
 (F_bst_Tree_insert rc p0 p0o0 p1 p4).bind fun x6 => some (x6.1, x6.2.1, x6.2.2.1, x6.2.2.2)
def F_bst_Tree_grow_1_1_1_2 (rc : RC) (p0 : Obst_Tree) (p0o0 : Omem_Mem) (p1 : Obst_Call) (p3 : Tbst_node) : Option ((Option Clo) × Obst_Tree × Omem_Mem × Obst_Call) :=
 (F_bst_Call_tell rc p0 p0o0 p1 true p3.val).bind fun x5 => some (x5.1, x5.2.1, x5.2.2.1, x5.2.2.2)
def F_bst_Tree_loses_1 (rc : RC) (p0 : Obst_Tree) (p0o0 : Omem_Mem) (p1 : Obst_Call) (p3 : Tbst_info) (p4 : Int) (p5 : Int) (p6 : Clo) : Option ((Option Clo) × Obst_Tree × Omem_Mem × Obst_Call) :=
 (F_bst_Tree_cell p0 p0o0 p3.parent 0).bind fun x9 => (F_mem_Mem_CAS x9.2.2 x9.1 p3.was p4).bind fun x12 => if (bif x12.2.1 then true else (x12.1 == p4)) = true then ((F_bst_Tree_goes rc x9.2.1 x12.2.2 p1 p5 (Clo.c_loses_1_1 p6)).bind fun x14 => some (x14.1, x14.2.1, x14.2.2.1, x14.2.2.2)) else ((F_bst_Tree_help rc x9.2.1 x12.2.2 p1 x12.1 (Clo.c_loses_1_2 p3 p5 p6)).bind fun x17 => some (x17.1, x17.2.1, x17.2.2.1, x17.2.2.2))
def F_bst_Tree_loses_1_1 (rc : RC) (p0 : Obst_Tree) (p0o0 : Omem_Mem) (p1 : Obst_Call) (p2 : Clo) : Option ((Option Clo) × Obst_Tree × Omem_Mem × Obst_Call) :=
 (rc p0 p0o0 p1 p2 (Arg.b true)).bind fun x4 => some (x4.1, x4.2.1, x4.2.2.1, x4.2.2.2)
def F_bst_Tree_clean (rc : RC) (p0 : Obst_Tree) (p0o0 : Omem_Mem) (p1 : Obst_Call) (p3 : Int) (p4 : Int) (p5 : Int) (p6 : Clo) : Option ((Option Clo) × Obst_Tree × Omem_Mem × Obst_Call) :=
 some ((some (Clo.c_clean_1 p3 p4 p5 p6)), p0, p0o0, p1)
def F_bst_Tree_loses_1_2 (rc : RC) (p0 : Obst_Tree) (p0o0 : Omem_Mem) (p1 : Obst_Call) (p3 : Tbst_info) (p4 : Int) (p5 : Clo) : Option ((Option Clo) × Obst_Tree × Omem_Mem × Obst_Call) :=
 (F_bst_Tree_clean rc p0 p0o0 p1 p3.grand 2 p4 (Clo.c_loses_1_2_1 p5)).bind fun x7 => some (x7.1, x7.2.1, x7.2.2.1, x7.2.2.2)
def F_bst_Tree_loses_1_2_1 (rc : RC) (p0 : Obst_Tree) (p0o0 : Omem_Mem) (p1 : Obst_Call) (p2 : Clo) : Option ((Option Clo) × Obst_Tree × Omem_Mem × Obst_Call) :=
 (rc p0 p0o0 p1 p2 (Arg.b false)).bind fun x4 => some (x4.1, x4.2.1, x4.2.2.1, x4.2.2.2)
def F_bst_Tree_grows_1 (rc : RC) (p0 : Obst_Tree) (p0o0 : Omem_Mem) (p1 : Obst_Call) (p3 : Tbst_info) (p4 : Int) (p5 : Clo) : Option ((Option Clo) × Obst_Tree × Omem_Mem × Obst_Call) :=
 (F_bst_Tree_clean rc p0 p0o0 p1 p3.parent 1 p4 p5).bind fun x7 => some (x7.1, x7.2.1, x7.2.2.1, x7.2.2.2)
def F_bst_Tree_goes_1 (rc : RC) (p0 : Obst_Tree) (p0o0 : Omem_Mem) (p1 : Obst_Call) (p2 : Int) (p4 : Tbst_info) (p5 : Int) (p6 : Clo) : Option ((Option Clo) × Obst_Tree × Omem_Mem × Obst_Call) :=
 (F_bst_Tree_turn rc p0 p0o0 p1 p4.grand p4.parent (IntKind.i64.wrap p2) (Clo.c_goes_1_1 p4 p5 p6)).bind fun x8 => some (x8.1, x8.2.1, x8.2.2.1, x8.2.2.2)
def F_bst_Tree_goes_1_1 (rc : RC) (p0 : Obst_Tree) (p0o0 : Omem_Mem) (p1 : Obst_Call) (p3 : Tbst_info) (p4 : Int) (p5 : Clo) : Option ((Option Clo) × Obst_Tree × Omem_Mem × Obst_Call) :=
 (F_bst_Tree_clean rc p0 p0o0 p1 p3.grand 2 p4 p5).bind fun x7 => some (x7.1, x7.2.1, x7.2.2.1, x7.2.2.2)
def F_bst_Tree_goes_2 (rc : RC) (p0 : Obst_Tree) (p0o0 : Omem_Mem) (p1 : Obst_Call) (p3 : Tbst_info) (p4 : Clo) : Option ((Option Clo) × Obst_Tree × Omem_Mem × Obst_Call) :=
 (F_bst_Tree_cell p0 p0o0 p3.parent 2).bind fun x7 => (F_mem_Mem_Load x7.2.2 x7.1).bind fun x10 => if ((IntKind.i64.wrap x10.1) != p3.leaf) = true then ((rc x7.2.1 x10.2.2 p1 p4 (Arg.w x10.1)).bind fun x12 => some (x12.1, x12.2.1, x12.2.2.1, x12.2.2.2)) else (some ((some (Clo.c_goes_2_1 p3 p4)), x7.2.1, x10.2.2, p1))
def F_bst_Tree_goes_2_1 (rc : RC) (p0 : Obst_Tree) (p0o0 : Omem_Mem) (p1 : Obst_Call) (p3 : Tbst_info) (p4 : Clo) : Option ((Option Clo) × Obst_Tree × Omem_Mem × Obst_Call) :=
 (F_bst_Tree_cell p0 p0o0 p3.parent 1).bind fun x7 => (F_mem_Mem_Load x7.2.2 x7.1).bind fun x10 => (rc x7.2.1 x10.2.2 p1 p4 (Arg.w x10.1)).bind fun x11 => some (x11.1, x11.2.1, x11.2.2.1, x11.2.2.2)
def F_bst_Tree_clean_1 (rc : RC) (p0 : Obst_Tree) (p0o0 : Omem_Mem) (p1 : Obst_Call) (p3 : Int) (p4 : Int) (p5 : Int) (p6 : Clo) : Option ((Option Clo) × Obst_Tree × Omem_Mem × Obst_Call) :=
 (F_bst_Tree_cell p0 p0o0 p3 0).bind fun x9 => (F_word_Pack p4 p5).bind fun x12 => (F_word_Pack 0 p5).bind fun x13 => (F_mem_Mem_CAS x9.2.2 x9.1 x12 x13).bind fun x14 => (rc x9.2.1 x14.2.2 p1 p6 Arg.u).bind fun x15 => some (x15.1, x15.2.1, x15.2.2.1, x15.2.2.2)
def F_bst_Tree_turn_1 (rc : RC) (p0 : Obst_Tree) (p0o0 : Omem_Mem) (p1 : Obst_Call) (p3 : Int) (p4 : Int) (p5 : Int) (p6 : Clo) : Option ((Option Clo) × Obst_Tree × Omem_Mem × Obst_Call) :=
 (getI p0.nodes p4).bind fun x9 => (F_bst_Tree_side p0 p0o0 p3 x9).bind fun x10 => (F_mem_Mem_CAS x10.2.2 x10.1 (IntKind.u64.wrap p5) (IntKind.u64.wrap p4)).bind fun x13 => (rc x10.2.1 x13.2.2 p1 p6 Arg.u).bind fun x14 => some (x14.1, x14.2.1, x14.2.2.1, x14.2.2.2)
def F_step : Nat → RC
 | 0 => fun _ _ _ _ _ => none
 | n + 1 => fun p0 p0o0 p1 x a => match x with
  | .c_Find_1_1 y0 => (match a with | .s z => F_bst_Tree_Find_1_1 (F_step n) p0 p0o0 p1 z y0 | _ => none)
  | .c_Seek_1_1 y0 => (match a with | .s z => F_bst_Tree_Seek_1_1 (F_step n) p0 p0o0 p1 z y0 | _ => none)
  | .c_insert_1 y0 => (match a with | .u => F_bst_Tree_insert_1 (F_step n) p0 p0o0 p1  y0 | _ => none)
  | .c_insert_2 y0 y1 => (match a with | .s z => F_bst_Tree_insert_2 (F_step n) p0 p0o0 p1 z y0 y1 | _ => none)
  | .c_down_1 y0 y1 y2 => (match a with | .u => F_bst_Tree_down_1 (F_step n) p0 p0o0 p1  y0 y1 y2 | _ => none)
  | .c_down_1_1 y0 y1 y2 => (match a with | .u => F_bst_Tree_down_1_1 (F_step n) p0 p0o0 p1  y0 y1 y2 | _ => none)
  | .c_least_1 y0 => (match a with | .u => F_bst_Tree_least_1 (F_step n) p0 p0o0 p1  y0 | _ => none)
  | .c_help_1 y0 => (match a with | .b z => F_bst_Tree_help_1 (F_step n) p0 p0o0 p1 z y0 | _ => none)
  | .c_grow_1 y0 y1 y2 y3 y4 y5 => (match a with | .u => F_bst_Tree_grow_1 (F_step n) p0 p0o0 p1  y0 y1 y2 y3 y4 y5 | _ => none)
  | .c_grow_1_1 y0 y1 y2 y3 y4 => (match a with | .u => F_bst_Tree_grow_1_1 (F_step n) p0 p0o0 p1  y0 y1 y2 y3 y4 | _ => none)
  | .c_grow_1_1_1 y0 y1 y2 => (match a with | .u => F_bst_Tree_grow_1_1_1 (F_step n) p0 p0o0 p1  y0 y1 y2 | _ => none)
  | .c_grow_1_1_1_1 y0 => (match a with | .u => F_bst_Tree_grow_1_1_1_1 (F_step n) p0 p0o0 p1  y0 | _ => none)
  | .c_grow_1_1_1_2 y0 => (match a with | .u => F_bst_Tree_grow_1_1_1_2 (F_step n) p0 p0o0 p1  y0 | _ => none)
  | .c_loses_1 y0 y1 y2 y3 => (match a with | .u => F_bst_Tree_loses_1 (F_step n) p0 p0o0 p1  y0 y1 y2 y3 | _ => none)
  | .c_loses_1_1 y0 => (match a with | .u => F_bst_Tree_loses_1_1 (F_step n) p0 p0o0 p1  y0 | _ => none)
  | .c_loses_1_2 y0 y1 y2 => (match a with | .u => F_bst_Tree_loses_1_2 (F_step n) p0 p0o0 p1  y0 y1 y2 | _ => none)
  | .c_loses_1_2_1 y0 => (match a with | .u => F_bst_Tree_loses_1_2_1 (F_step n) p0 p0o0 p1  y0 | _ => none)
  | .c_grows_1 y0 y1 y2 => (match a with | .u => F_bst_Tree_grows_1 (F_step n) p0 p0o0 p1  y0 y1 y2 | _ => none)
  | .c_goes_1 y0 y1 y2 => (match a with | .w z => F_bst_Tree_goes_1 (F_step n) p0 p0o0 p1 z y0 y1 y2 | _ => none)
  | .c_goes_1_1 y0 y1 y2 => (match a with | .u => F_bst_Tree_goes_1_1 (F_step n) p0 p0o0 p1  y0 y1 y2 | _ => none)
  | .c_goes_2 y0 y1 => (match a with | .u => F_bst_Tree_goes_2 (F_step n) p0 p0o0 p1  y0 y1 | _ => none)
  | .c_goes_2_1 y0 y1 => (match a with | .u => F_bst_Tree_goes_2_1 (F_step n) p0 p0o0 p1  y0 y1 | _ => none)
  | .c_clean_1 y0 y1 y2 y3 => (match a with | .u => F_bst_Tree_clean_1 (F_step n) p0 p0o0 p1  y0 y1 y2 y3 | _ => none)
  | .c_turn_1 y0 y1 y2 y3 => (match a with | .u => F_bst_Tree_turn_1 (F_step n) p0 p0o0 p1  y0 y1 y2 y3 | _ => none)
def F_bst_Tree_Find_1 (rc : RC) (p0 : Obst_Tree) (p0o0 : Omem_Mem) (p1 : Obst_Call) (p3 : Tbst_node) : Option ((Option Clo) × Obst_Tree × Omem_Mem × Obst_Call) :=
 (F_bst_Tree_search rc p0 p0o0 p1 p3 (Clo.c_Find_1_1 p3)).bind fun x8 => some (x8.1, x8.2.1, x8.2.2.1, x8.2.2.2)
def F_bst_Tree_call_bst_Tree_Find_1 (n : Nat) (p0 : Obst_Tree) (p0o0 : Omem_Mem) (p1 : ByteArray) : Option (Obst_Call_2 × Obst_Tree × Omem_Mem) :=
 (F_bst_Tree_Find_1 (F_step n) p0 p0o0 (⟨false, p1, 0, 0⟩ : Obst_Call) (⟨p1, 0, 0, 0⟩ : Tbst_node)).bind fun x6 => some ((⟨x6.2.2.2.told_Ok, x6.2.2.2.told_Key, x6.2.2.2.told_Val, x6.2.2.2.told_Err, x6.1⟩ : Obst_Call_2), x6.2.1, x6.2.2.1)
def F_bst_Tree_Find (n : Nat) (p0 : Obst_Tree) (p0o0 : Omem_Mem) (p1 : ByteArray) : Option (Obst_Call_2 × Obst_Tree × Omem_Mem) :=
 (F_bst_Tree_call_bst_Tree_Find_1 n p0 p0o0 p1).bind fun x4 => some (x4.1, x4.2.1, x4.2.2)
def F_bst_Tree_Seek_1 (rc : RC) (p0 : Obst_Tree) (p0o0 : Omem_Mem) (p1 : Obst_Call) (p3 : Tbst_node) : Option ((Option Clo) × Obst_Tree × Omem_Mem × Obst_Call) :=
 (F_bst_Tree_search rc p0 p0o0 p1 p3 (Clo.c_Seek_1_1 p3)).bind fun x8 => some (x8.1, x8.2.1, x8.2.2.1, x8.2.2.2)
def F_bst_Tree_call_bst_Tree_Seek_1 (n : Nat) (p0 : Obst_Tree) (p0o0 : Omem_Mem) (p1 : ByteArray) : Option (Obst_Call_2 × Obst_Tree × Omem_Mem) :=
 (F_bst_Tree_Seek_1 (F_step n) p0 p0o0 (⟨false, p1, 0, 0⟩ : Obst_Call) (⟨p1, 0, 0, 0⟩ : Tbst_node)).bind fun x6 => some ((⟨x6.2.2.2.told_Ok, x6.2.2.2.told_Key, x6.2.2.2.told_Val, x6.2.2.2.told_Err, x6.1⟩ : Obst_Call_2), x6.2.1, x6.2.2.1)
def F_bst_Tree_Seek (n : Nat) (p0 : Obst_Tree) (p0o0 : Omem_Mem) (p1 : ByteArray) : Option (Obst_Call_2 × Obst_Tree × Omem_Mem) :=
 (F_bst_Tree_call_bst_Tree_Seek_1 n p0 p0o0 p1).bind fun x4 => some (x4.1, x4.2.1, x4.2.2)
def F_bst_Tree_Insert_1 (rc : RC) (p0 : Obst_Tree) (p0o0 : Omem_Mem) (p1 : Obst_Call) (p3 : Tbst_node) (p4 : Int) : Option ((Option Clo) × Obst_Tree × Omem_Mem × Obst_Call) :=
 (F_bst_Tree_insert rc p0 p0o0 p1 (⟨p3.key, p3.top, p4, p3.cell⟩ : Tbst_node)).bind fun x8 => some (x8.1, x8.2.1, x8.2.2.1, x8.2.2.2)
def F_bst_Tree_call_bst_Tree_Insert_1 (n : Nat) (p0 : Obst_Tree) (p0o0 : Omem_Mem) (p1 : ByteArray) (p2c0 : Int) : Option (Obst_Call_2 × Obst_Tree × Omem_Mem) :=
 (F_bst_Tree_Insert_1 (F_step n) p0 p0o0 (⟨false, p1, 0, 0⟩ : Obst_Call) (⟨p1, 0, 0, 0⟩ : Tbst_node) p2c0).bind fun x6 => some ((⟨x6.2.2.2.told_Ok, x6.2.2.2.told_Key, x6.2.2.2.told_Val, x6.2.2.2.told_Err, x6.1⟩ : Obst_Call_2), x6.2.1, x6.2.2.1)
def F_bst_Tree_Insert (n : Nat) (p0 : Obst_Tree) (p0o0 : Omem_Mem) (p1 : ByteArray) (p2 : Int) : Option (Obst_Call_2 × Obst_Tree × Omem_Mem) :=
 (F_bst_Tree_call_bst_Tree_Insert_1 n p0 p0o0 p1 p2).bind fun x6 => some (x6.1, x6.2.1, x6.2.2)
def F_bst_Call_Step (n : Nat) (p0 : Obst_Tree) (p0o0 : Omem_Mem) (p1 : Obst_Call_2) : Option (Bool × Obst_Tree × Omem_Mem × Obst_Call_2) :=
 if (p1.next).isNone = true then (some (true, p0, p0o0, p1)) else ((p1.next).bind fun x7 => ((F_step n) p0 p0o0 (⟨p1.told_Ok, p1.told_Key, p1.told_Val, p1.told_Err⟩ : Obst_Call) x7 Arg.u).bind fun x6 => some ((x6.1).isNone, x6.2.1, x6.2.2.1, (⟨x6.2.2.2.told_Ok, x6.2.2.2.told_Key, x6.2.2.2.told_Val, x6.2.2.2.told_Err, x6.1⟩ : Obst_Call_2)))
def F_bst_Call_Answer (p0 : Obst_Tree) (p0o0 : Omem_Mem) (p1 : Obst_Call_2) : Option (Tbst_Answer × Bool × Obst_Tree × Omem_Mem × Obst_Call_2) :=
 if (p1.next).isSome = true then (some ((⟨false, ByteArray.empty, 0, 0⟩ : Tbst_Answer), false, p0, p0o0, p1)) else (some ((⟨p1.told_Ok, p1.told_Key, p1.told_Val, p1.told_Err⟩ : Tbst_Answer), true, p0, p0o0, p1))
def F_mem_New_nil  : Option (Omem_Mem) :=
 some (⟨([] : List Int), 0⟩ : Omem_Mem)
def F_bst_New (p0 : Omem_Mem) : Option (Obst_Tree × Omem_Mem) :=
 (F_mem_Mem_Grow p0 3).bind fun x2 => if (x2.2.1 != 0) = true then none else ((F_bst_Tree_info (⟨([] : List Tbst_node), ([] : List Tbst_info)⟩ : Obst_Tree) x2.2.2 (⟨0, 0, 0, 0, 0⟩ : Tbst_info)).bind fun x5 => (F_bst_Tree_node x5.2.1 x5.2.2 (⟨ByteArray.empty, 2, 0, x2.1⟩ : Tbst_node)).bind fun x7 => (F_bst_Tree_leaf x7.2.1 x7.2.2 ByteArray.empty 1 0).bind fun x9 => (F_mem_Mem_Store x9.2.2 (IntKind.i64.wrap (x2.1 + 1)) (IntKind.u64.wrap x9.1)).bind fun x12 => (F_bst_Tree_leaf x9.2.1 x12.2 ByteArray.empty 2 0).bind fun x13 => (F_mem_Mem_Store x13.2.2 (IntKind.i64.wrap (x2.1 + 2)) (IntKind.u64.wrap x13.1)).bind fun x16 => some (x13.2.1, x16.2))
def F_index_Work_look (rc : RCi) (p0 : Obst_Tree) (p0o0 : Omem_Mem) (p0o1 : Ochain_Store) (p1 : Oindex_Work) (p3 : Int) (p4 : Int) (p5 : Cli) : Option ((Option Cli) × Obst_Tree × Omem_Mem × Ochain_Store × Oindex_Work) :=
 some ((some (Cli.c_Work_look_1 p3 p4 p5)), p0, p0o0, p0o1, p1)
def F_index_Index_Get_1_1 (rc : RCi) (p0 : Obst_Tree) (p0o0 : Omem_Mem) (p0o1 : Ochain_Store) (p1 : Oindex_Work) (p2 : Obst_Call_2) (p4 : Int) : Option ((Option Cli) × Obst_Tree × Omem_Mem × Ochain_Store × Oindex_Work) :=
 (F_bst_Call_Answer p0 p0o0 p2).bind fun x6 => if (!x6.1.Ok) = true then (some (none, x6.2.2.1, x6.2.2.2.1, p0o1, p1)) else ((F_index_Work_look rc x6.2.2.1 x6.2.2.2.1 p0o1 p1 x6.1.Val p4 (Cli.c_end)).bind fun x13 => some (x13.1, x13.2.1, x13.2.2.1, x13.2.2.2.1, x13.2.2.2.2))
def F_index_end (rc : RCi) (p0 : Obst_Tree) (p0o0 : Omem_Mem) (p0o1 : Ochain_Store) (p1 : Oindex_Work) : Option ((Option Cli) × Obst_Tree × Omem_Mem × Ochain_Store × Oindex_Work) :=
 some (none, p0, p0o0, p0o1, p1)
def F_chain_Store_Put (p0 : Ochain_Store) (p1 : Int) (p2 : TEvent) : Option (Ochain_Put × Ochain_Store) :=
 some ((⟨p1, p2.Rev, p2.Key, p2.Val, p2.Del, 0, false, false⟩ : Ochain_Put), p0)
def F_index_after (rc : RCi) (p0 : Obst_Tree) (p0o0 : Omem_Mem) (p0o1 : Ochain_Store) (p1 : Oindex_Work) (p2 : Ochain_Put) (p3 : Cli) : Option ((Option Cli) × Obst_Tree × Omem_Mem × Ochain_Store × Oindex_Work) :=
 some ((some (Cli.c_after_1_v1 p2 p3)), p0, p0o0, p0o1, p1)
def F_index_Index_Put_1_1 (rc : RCi) (p0 : Obst_Tree) (p0o0 : Omem_Mem) (p0o1 : Ochain_Store) (p1 : Oindex_Work) (p4 : TEvent) : Option ((Option Cli) × Obst_Tree × Omem_Mem × Ochain_Store × Oindex_Work) :=
 (F_chain_Store_Put p0o1 p1.cell p4).bind fun x8 => (F_index_after rc p0 p0o0 x8.2 p1 x8.1 (Cli.c_end)).bind fun x9 => some (x9.1, x9.2.1, x9.2.2.1, x9.2.2.2.1, x9.2.2.2.2)
def F_index_after_1 (n : Nat) (rc : RCi) (p0 : Obst_Tree) (p0o0 : Omem_Mem) (p0o1 : Ochain_Store) (p1 : Oindex_Work) (p2 : Obst_Call_2) (p3 : Cli) : Option ((Option Cli) × Obst_Tree × Omem_Mem × Ochain_Store × Oindex_Work) :=
 (F_bst_Call_Step n p0 p0o0 p2).bind fun x6 => if x6.1 = true then ((rc x6.2.1 x6.2.2.1 p0o1 p1 (Cli.w146 x6.2.2.2 p3) Argi.u).bind fun x11 => some (x11.1, x11.2.1, x11.2.2.1, x11.2.2.2.1, x11.2.2.2.2)) else (some ((some (Cli.c_after_1 x6.2.2.2 p3)), x6.2.1, x6.2.2.1, p0o1, p1))
def F_chain_Store_of (p0 : Ochain_Store) (p1 : Int) : Option (Tchain_version × Bool × Ochain_Store) :=
 (if (decide (p1 < 1)) = true then (some true) else (some (decide (p1 > (IntKind.u64.wrap (p0.all.length : Int))))) : Option (Bool)).bind fun s5 => if s5 = true then (some ((⟨(⟨0, ByteArray.empty, ByteArray.empty, false⟩ : TEvent), 0⟩ : Tchain_version), false, p0)) else ((getI p0.all (IntKind.u64.wrap (p1 - 1))).bind fun x8 => some (x8, true, p0))
def F_chain_Store_Rev (p0 : Ochain_Store) (p1 : Int) : Option (Int × Ochain_Store) :=
 (F_chain_Store_of p0 p1).bind fun x3 => some (x3.1.Event.Rev, x3.2.2)
def F_chain_Store_add (p0 : Ochain_Store) (p1 : (List Tchain_version)) : Option (Int × Ochain_Store) :=
 (appL 56 p0.all p1).bind fun x4 => some ((IntKind.u64.wrap ((p0.all ++ p1).length : Int)), (⟨(p0.all ++ p1)⟩ : Ochain_Store))
def F_chain_Put_Step (p0 : Obst_Tree) (p0o0 : Omem_Mem) (p0o1 : Ochain_Store) (p1 : Ochain_Put) : Option (Bool × Obst_Tree × Omem_Mem × Ochain_Store × Ochain_Put) :=
 if p1.done = true then (some (true, p0, p0o0, p0o1, p1)) else ((if (!p1.seen) = true then ((F_mem_Mem_Load p0o0 p1.cell).bind fun x11 => (F_chain_Store_Rev p0o1 x11.1).bind fun x15 => some (x11.1, true, (decide (x15.1 ≥ p1.e_Rev)), (p0, x11.2.2, x15.2))) else ((F_chain_Store_add p0o1 ([(⟨(⟨p1.e_Rev, p1.e_Key, p1.e_Val, p1.e_Del⟩ : TEvent), p1.last⟩ : Tchain_version)] : List Tchain_version)).bind fun x22 => (F_mem_Mem_CAS p0o0 p1.cell p1.last x22.1).bind fun x26 => some (p1.last, false, x26.2.1, (p0, x26.2.2, x22.2))) : Option (Int × Bool × Bool × (Obst_Tree × Omem_Mem × Ochain_Store))).bind fun s7 => some (s7.2.2.1, s7.2.2.2.1, s7.2.2.2.2.1, s7.2.2.2.2.2, (⟨p1.cell, p1.e_Rev, p1.e_Key, p1.e_Val, p1.e_Del, s7.1, s7.2.1, s7.2.2.1⟩ : Ochain_Put)))
def F_index_after_1_ (rc : RCi) (p0 : Obst_Tree) (p0o0 : Omem_Mem) (p0o1 : Ochain_Store) (p1 : Oindex_Work) (p2 : Ochain_Put) (p3 : Cli) : Option ((Option Cli) × Obst_Tree × Omem_Mem × Ochain_Store × Oindex_Work) :=
 (F_chain_Put_Step p0 p0o0 p0o1 p2).bind fun x6 => if x6.1 = true then ((rc x6.2.1 x6.2.2.1 x6.2.2.2.1 p1 p3 Argi.u).bind fun x8 => some (x8.1, x8.2.1, x8.2.2.1, x8.2.2.2.1, x8.2.2.2.2)) else (some ((some (Cli.c_after_1_v1 x6.2.2.2.2 p3)), x6.2.1, x6.2.2.1, x6.2.2.2.1, p1))
def F_chain_Store_At_L1 (p2 : Int) : Nat → Bool → Tchain_version → (Ochain_Store) → Option (Lp ((Ochain_Store)) (TKV × Bool × Ochain_Store))
 | 0, _, _, _ => none
 | m8 + 1, y8_0, y8_1, y8_2 => if y8_0 = true then (if (decide (y8_1.Event.Rev > p2)) = true then ((F_chain_Store_of y8_2 y8_1.ahead).bind fun x12 => F_chain_Store_At_L1 p2 m8 x12.2.1 x12.1 x12.2.2) else (if y8_1.Event.Del = true then (some (.out ((⟨ByteArray.empty, ByteArray.empty, 0⟩ : TKV), false, y8_2))) else (some (.out ((⟨y8_1.Event.Key, y8_1.Event.Val, y8_1.Event.Rev⟩ : TKV), true, y8_2))))) else (some (.go y8_2))
def F_chain_Store_At (n : Nat) (p0 : Ochain_Store) (p1 : Int) (p2 : Int) : Option (TKV × Bool × Ochain_Store) :=
 (F_chain_Store_of p0 p1).bind fun x5 => (F_chain_Store_At_L1 p2 n x5.2.1 x5.1 x5.2.2 : Option (Lp ((Ochain_Store)) (TKV × Bool × Ochain_Store))).bind fun s7 => lpK s7 fun u7 => some ((⟨ByteArray.empty, ByteArray.empty, 0⟩ : TKV), false, u7)
def F_index_Work_look_1 (n : Nat) (rc : RCi) (p0 : Obst_Tree) (p0o0 : Omem_Mem) (p0o1 : Ochain_Store) (p1 : Oindex_Work) (p3 : Int) (p4 : Int) (p5 : Cli) : Option ((Option Cli) × Obst_Tree × Omem_Mem × Ochain_Store × Oindex_Work) :=
 (F_mem_Mem_Load p0o0 (IntKind.i64.wrap p3)).bind fun x9 => (F_chain_Store_At n p0o1 x9.1 p4).bind fun x14 => if x14.2.1 = true then ((appL 40 p1.found ([x14.1] : List TKV)).bind fun x17 => (rc p0 x9.2.2 x14.2.2 (⟨p1.cell, p1.bad, (p1.found ++ ([x14.1] : List TKV))⟩ : Oindex_Work) p5 Argi.u).bind fun x18 => some (x18.1, x18.2.1, x18.2.2.1, x18.2.2.2.1, x18.2.2.2.2)) else ((rc p0 x9.2.2 x14.2.2 p1 p5 Argi.u).bind fun x22 => some (x22.1, x22.2.1, x22.2.2.1, x22.2.2.2.1, x22.2.2.2.2))
def F_key_In (p0 : TRange) (p1 : ByteArray) : Option (Bool) :=
 some (bif (leB p0.From p1) then (bif (eqB p0.To ByteArray.empty) then true else (lessB p1 p0.To)) else false)
def F_index_Work_walk_1 (rc : RCi) (p0 : Obst_Tree) (p0o0 : Omem_Mem) (p0o1 : Ochain_Store) (p1 : Oindex_Work) (p2 : Obst_Call_2) (p3 : TRange) (p5 : Int) : Option ((Option Cli) × Obst_Tree × Omem_Mem × Ochain_Store × Oindex_Work) :=
 (F_bst_Call_Answer p0 p0o0 p2).bind fun x7 => (if (!x7.1.Ok) = true then (some true) else ((F_key_In p3 x7.1.Key).bind fun x20 => some (!x20)) : Option (Bool)).bind fun s13 => if s13 = true then (some (none, x7.2.2.1, x7.2.2.2.1, p0o1, p1)) else ((F_index_Work_look rc x7.2.2.1 x7.2.2.2.1 p0o1 p1 x7.1.Val p5 (Cli.c_Work_walk_1_1 p3 x7.1 p5)).bind fun x16 => some (x16.1, x16.2.1, x16.2.2.1, x16.2.2.2.1, x16.2.2.2.2))
def F_key_One (p0 : ByteArray) : Option (TRange) :=
 (addS p0 (⟨#[0]⟩ : ByteArray)).bind fun x3 => some (⟨p0, (p0 ++ (⟨#[0]⟩ : ByteArray))⟩ : TRange)
def F_index_after_ (rc : RCi) (p0 : Obst_Tree) (p0o0 : Omem_Mem) (p0o1 : Ochain_Store) (p1 : Oindex_Work) (p2 : Obst_Call_2) (p3 : Cli) : Option ((Option Cli) × Obst_Tree × Omem_Mem × Ochain_Store × Oindex_Work) :=
 some ((some (Cli.c_after_1 p2 p3)), p0, p0o0, p0o1, p1)
def F_index_Work_walk (n : Nat) (rc : RCi) (p0 : Obst_Tree) (p0o0 : Omem_Mem) (p0o1 : Ochain_Store) (p1 : Oindex_Work) (p3 : TRange) (p4 : ByteArray) (p5 : Int) : Option ((Option Cli) × Obst_Tree × Omem_Mem × Ochain_Store × Oindex_Work) :=
 (F_bst_Tree_Seek n p0 p0o0 p4).bind fun x12 => (F_index_after_ rc x12.2.1 x12.2.2 p0o1 p1 x12.1 (Cli.c_Work_walk_1 p3 p5)).bind fun x14 => some (x14.1, x14.2.1, x14.2.2.1, x14.2.2.2.1, x14.2.2.2.2)
def F_index_Work_walk_1_1 (n : Nat) (rc : RCi) (p0 : Obst_Tree) (p0o0 : Omem_Mem) (p0o1 : Ochain_Store) (p1 : Oindex_Work) (p3 : TRange) (p4 : Tbst_Answer) (p5 : Int) : Option ((Option Cli) × Obst_Tree × Omem_Mem × Ochain_Store × Oindex_Work) :=
 (F_key_One p4.Key).bind fun x7 => (F_index_Work_walk n rc p0 p0o0 p0o1 p1 p3 x7.To p5).bind fun x8 => some (x8.1, x8.2.1, x8.2.2.1, x8.2.2.2.1, x8.2.2.2.2)
def F_chain_Store_Cell (p0 : Omem_Mem) (p1 : Ochain_Store) : Option (Int × Int × Omem_Mem × Ochain_Store) :=
 (F_mem_Mem_Grow p0 1).bind fun x5 => some (x5.1, x5.2.1, x5.2.2, p1)
def F_index_Work_ensure_1 (n : Nat) (rc : RCi) (p0 : Obst_Tree) (p0o0 : Omem_Mem) (p0o1 : Ochain_Store) (p1 : Oindex_Work) (p2 : Obst_Call_2) (p4 : Cli) (p5 : ByteArray) : Option ((Option Cli) × Obst_Tree × Omem_Mem × Ochain_Store × Oindex_Work) :=
 (F_bst_Call_Answer p0 p0o0 p2).bind fun x7 => if x7.1.Ok = true then ((rc x7.2.2.1 x7.2.2.2.1 p0o1 (⟨(IntKind.i64.wrap x7.1.Val), p1.bad, p1.found⟩ : Oindex_Work) p4 Argi.u).bind fun x14 => some (x14.1, x14.2.1, x14.2.2.1, x14.2.2.2.1, x14.2.2.2.2)) else ((F_chain_Store_Cell x7.2.2.2.1 p0o1).bind fun x18 => if (x18.2.1 != 0) = true then (some (none, x7.2.2.1, x18.2.2.1, x18.2.2.2, (⟨p1.cell, x18.2.1, p1.found⟩ : Oindex_Work))) else ((F_bst_Tree_Insert n x7.2.2.1 x18.2.2.1 p5 (IntKind.u64.wrap x18.1)).bind fun x27 => (F_index_after_ rc x27.2.1 x27.2.2 x18.2.2.2 p1 x27.1 (Cli.c_Work_ensure_1_1 p4)).bind fun x29 => some (x29.1, x29.2.1, x29.2.2.1, x29.2.2.2.1, x29.2.2.2.2)))
def F_index_Work_ensure_1_1 (rc : RCi) (p0 : Obst_Tree) (p0o0 : Omem_Mem) (p0o1 : Ochain_Store) (p1 : Oindex_Work) (p2 : Obst_Call_2) (p4 : Cli) : Option ((Option Cli) × Obst_Tree × Omem_Mem × Ochain_Store × Oindex_Work) :=
 (F_bst_Call_Answer p0 p0o0 p2).bind fun x6 => if (x6.1.Err != 0) = true then (some (none, x6.2.2.1, x6.2.2.2.1, p0o1, (⟨p1.cell, x6.1.Err, p1.found⟩ : Oindex_Work))) else ((rc x6.2.2.1 x6.2.2.2.1 p0o1 (⟨(IntKind.i64.wrap x6.1.Val), p1.bad, p1.found⟩ : Oindex_Work) p4 Argi.u).bind fun x16 => some (x16.1, x16.2.1, x16.2.2.1, x16.2.2.2.1, x16.2.2.2.2))
def F_istep : Nat → RCi
 | 0 => fun _ _ _ _ _ _ => none
 | n + 1 => fun p0 p0o0 p0o1 p1 x a => match x with
  | .c_end  => (match a with | .u => F_index_end (F_istep n) p0 p0o0 p0o1 p1  )
  | .c_Index_Put_1_1 x0 => (match a with | .u => F_index_Index_Put_1_1 (F_istep n) p0 p0o0 p0o1 p1  x0)
  | .c_after_1 w0 x0 => (match a with | .u => F_index_after_1 n (F_istep n) p0 p0o0 p0o1 p1  w0 x0)
  | .c_after_1_v1 w0 x0 => (match a with | .u => F_index_after_1_ (F_istep n) p0 p0o0 p0o1 p1  w0 x0)
  | .c_Work_look_1 x0 x1 x2 => (match a with | .u => F_index_Work_look_1 n (F_istep n) p0 p0o0 p0o1 p1  x0 x1 x2)
  | .c_Work_walk_1_1 x0 x1 x2 => (match a with | .u => F_index_Work_walk_1_1 n (F_istep n) p0 p0o0 p0o1 p1  x0 x1 x2)
  | .w146 w0 th => (match a, th with
   | .u, .c_Index_Get_1_1 x0 => F_index_Index_Get_1_1 (F_istep n) p0 p0o0 p0o1 p1  w0 x0
   | .u, .c_Work_walk_1 x0 x1 => F_index_Work_walk_1 (F_istep n) p0 p0o0 p0o1 p1  w0 x0 x1
   | .u, .c_Work_ensure_1 x0 x1 => F_index_Work_ensure_1 n (F_istep n) p0 p0o0 p0o1 p1  w0 x0 x1
   | .u, .c_Work_ensure_1_1 x0 => F_index_Work_ensure_1_1 (F_istep n) p0 p0o0 p0o1 p1  w0 x0
   | _, _ => none)
  | _ => none
def F_index_Work_ensure (n : Nat) (rc : RCi) (p0 : Obst_Tree) (p0o0 : Omem_Mem) (p0o1 : Ochain_Store) (p1 : Oindex_Work) (p3 : ByteArray) (p4 : Cli) : Option ((Option Cli) × Obst_Tree × Omem_Mem × Ochain_Store × Oindex_Work) :=
 (F_bst_Tree_Find n p0 p0o0 p3).bind fun x12 => (F_index_after_ rc x12.2.1 x12.2.2 p0o1 p1 x12.1 (Cli.c_Work_ensure_1 p4 p3)).bind fun x13 => some (x13.1, x13.2.1, x13.2.2.1, x13.2.2.2.1, x13.2.2.2.2)
def F_index_Index_Ensure_1 (n : Nat) (rc : RCi) (p0 : Obst_Tree) (p0o0 : Omem_Mem) (p0o1 : Ochain_Store) (p1 : Oindex_Work) (p3 : ByteArray) : Option ((Option Cli) × Obst_Tree × Omem_Mem × Ochain_Store × Oindex_Work) :=
 (F_index_Work_ensure n rc p0 p0o0 p0o1 p1 p3 (Cli.c_end)).bind fun x5 => some (x5.1, x5.2.1, x5.2.2.1, x5.2.2.2.1, x5.2.2.2.2)
def F_index_Index_work_index_Index_Ensure_1 (n : Nat) (p0 : Obst_Tree) (p0o0 : Omem_Mem) (p0o1 : Ochain_Store) (p1c0 : ByteArray) : Option (Oindex_Work_2 × Obst_Tree × Omem_Mem × Ochain_Store) :=
 (F_index_Index_Ensure_1 n (F_istep n) p0 p0o0 p0o1 (⟨0, 0, ([] : List TKV)⟩ : Oindex_Work) p1c0).bind fun x5 => some ((⟨x5.1, x5.2.2.2.2.cell, x5.2.2.2.2.bad, x5.2.2.2.2.found⟩ : Oindex_Work_2), x5.2.1, x5.2.2.1, x5.2.2.2.1)
def F_index_Index_Ensure (n : Nat) (p0 : Obst_Tree) (p0o0 : Omem_Mem) (p0o1 : Ochain_Store) (p1 : ByteArray) : Option (Oindex_Work_2 × Obst_Tree × Omem_Mem × Ochain_Store) :=
 (F_index_Index_work_index_Index_Ensure_1 n p0 p0o0 p0o1 p1).bind fun x4 => some (x4.1, x4.2.1, x4.2.2.1, x4.2.2.2)
def F_index_Index_Put_1 (n : Nat) (rc : RCi) (p0 : Obst_Tree) (p0o0 : Omem_Mem) (p0o1 : Ochain_Store) (p1 : Oindex_Work) (p3 : TEvent) : Option ((Option Cli) × Obst_Tree × Omem_Mem × Ochain_Store × Oindex_Work) :=
 (F_index_Work_ensure n rc p0 p0o0 p0o1 p1 p3.Key (Cli.c_Index_Put_1_1 p3)).bind fun x7 => some (x7.1, x7.2.1, x7.2.2.1, x7.2.2.2.1, x7.2.2.2.2)
def F_index_Index_work_index_Index_Put_1 (n : Nat) (p0 : Obst_Tree) (p0o0 : Omem_Mem) (p0o1 : Ochain_Store) (p1c0 : TEvent) : Option (Oindex_Work_2 × Obst_Tree × Omem_Mem × Ochain_Store) :=
 (F_index_Index_Put_1 n (F_istep n) p0 p0o0 p0o1 (⟨0, 0, ([] : List TKV)⟩ : Oindex_Work) p1c0).bind fun x5 => some ((⟨x5.1, x5.2.2.2.2.cell, x5.2.2.2.2.bad, x5.2.2.2.2.found⟩ : Oindex_Work_2), x5.2.1, x5.2.2.1, x5.2.2.2.1)
def F_index_Index_Put (n : Nat) (p0 : Obst_Tree) (p0o0 : Omem_Mem) (p0o1 : Ochain_Store) (p1 : TEvent) : Option (Oindex_Work_2 × Obst_Tree × Omem_Mem × Ochain_Store) :=
 (F_index_Index_work_index_Index_Put_1 n p0 p0o0 p0o1 p1).bind fun x5 => some (x5.1, x5.2.1, x5.2.2.1, x5.2.2.2)
def F_index_Index_Walk_1 (n : Nat) (rc : RCi) (p0 : Obst_Tree) (p0o0 : Omem_Mem) (p0o1 : Ochain_Store) (p1 : Oindex_Work) (p3 : TRange) (p4 : Int) : Option ((Option Cli) × Obst_Tree × Omem_Mem × Ochain_Store × Oindex_Work) :=
 (F_index_Work_walk n rc p0 p0o0 p0o1 p1 p3 p3.From p4).bind fun x6 => some (x6.1, x6.2.1, x6.2.2.1, x6.2.2.2.1, x6.2.2.2.2)
def F_index_Index_work_index_Index_Walk_1 (n : Nat) (p0 : Obst_Tree) (p0o0 : Omem_Mem) (p0o1 : Ochain_Store) (p1c0 : TRange) (p1c1 : Int) : Option (Oindex_Work_2 × Obst_Tree × Omem_Mem × Ochain_Store) :=
 (F_index_Index_Walk_1 n (F_istep n) p0 p0o0 p0o1 (⟨0, 0, ([] : List TKV)⟩ : Oindex_Work) p1c0 p1c1).bind fun x5 => some ((⟨x5.1, x5.2.2.2.2.cell, x5.2.2.2.2.bad, x5.2.2.2.2.found⟩ : Oindex_Work_2), x5.2.1, x5.2.2.1, x5.2.2.2.1)
def F_index_Index_Walk (n : Nat) (p0 : Obst_Tree) (p0o0 : Omem_Mem) (p0o1 : Ochain_Store) (p1 : TRange) (p2 : Int) : Option (Oindex_Work_2 × Obst_Tree × Omem_Mem × Ochain_Store) :=
 (F_index_Index_work_index_Index_Walk_1 n p0 p0o0 p0o1 p1 p2).bind fun x6 => some (x6.1, x6.2.1, x6.2.2.1, x6.2.2.2)
def F_index_Work_Step (n : Nat) (p0 : Obst_Tree) (p0o0 : Omem_Mem) (p0o1 : Ochain_Store) (p1 : Oindex_Work_2) : Option (Bool × Obst_Tree × Omem_Mem × Ochain_Store × Oindex_Work_2) :=
 if (p1.next).isNone = true then (some (true, p0, p0o0, p0o1, p1)) else ((p1.next).bind fun x7 => ((F_istep n) p0 p0o0 p0o1 (⟨p1.cell, p1.bad, p1.found⟩ : Oindex_Work) x7 Argi.u).bind fun x6 => some ((x6.1).isNone, x6.2.1, x6.2.2.1, x6.2.2.2.1, (⟨x6.1, x6.2.2.2.2.cell, x6.2.2.2.2.bad, x6.2.2.2.2.found⟩ : Oindex_Work_2)))
def F_index_Work_Found (p0 : Oindex_Work_2) : Option ((List TKV)) :=
 some p0.found
def F_index_Run_L1 (n : Nat) : Nat → (Obst_Tree × Omem_Mem × Ochain_Store) → (Oindex_Work_2) → Option ((Obst_Tree × Omem_Mem × Ochain_Store) × (Oindex_Work_2))
 | 0, _, _ => none
 | m4 + 1, y4_0, y4_1 => (F_index_Work_Step n y4_0.1 y4_0.2.1 y4_0.2.2 y4_1).bind fun x5 => if (!x5.1) = true then (F_index_Run_L1 n m4 (x5.2.1, x5.2.2.1, x5.2.2.2.1) x5.2.2.2.2) else (some ((x5.2.1, x5.2.2.1, x5.2.2.2.1), x5.2.2.2.2))
def F_index_Run (n : Nat) (p0 : Obst_Tree) (p0o0 : Omem_Mem) (p0o1 : Ochain_Store) (p1 : Oindex_Work_2) : Option (Obst_Tree × Omem_Mem × Ochain_Store × Oindex_Work_2) :=
 (F_index_Run_L1 n n (p0, p0o0, p0o1) p1 : Option ((Obst_Tree × Omem_Mem × Ochain_Store) × (Oindex_Work_2))).bind fun s3 => some (s3.1.1, s3.1.2.1, s3.1.2.2, s3.2)
def F_chain_New (p0 : Omem_Mem) : Option (Ochain_Store × Omem_Mem) :=
 some ((⟨([] : List Tchain_version)⟩ : Ochain_Store), p0)
def F_index_New (p0 : Omem_Mem) : Option (Obst_Tree × Omem_Mem × Ochain_Store) :=
 (F_bst_New p0).bind fun x2 => (F_chain_New x2.2).bind fun x4 => some (x2.1, x4.2, x4.1)
def F_ref19_Rises_L2 (p0 : (List TEvent)) (i3 : Nat) (z3 : TEvent) : Nat → Int → Option (Lp (Int × Int × Bool) (Bool))
 | 0, _ => none
 | m13 + 1, y13_0 => if (decide (y13_0 < (i3 : Int))) = true then ((getI p0 y13_0).bind fun x15 => (if (x15.Rev == z3.Rev) = true then ((getI p0 y13_0).bind fun x20 => some (true, (eqB x20.Key z3.Key))) else (some (false, false)) : Option (Bool × Bool)).bind fun s18 => if s18.2 = true then (some (.out false)) else (F_ref19_Rises_L2 p0 i3 z3 m13 (IntKind.i64.wrap (y13_0 + 1)))) else (some (.go (y13_0, y13_0, (decide (y13_0 < (i3 : Int))))))
def F_ref19_Rises_L1 (n : Nat) (p0 : (List TEvent)) : (List TEvent) → Nat → Option (Lp (Unit) (Bool))
 | [], _ => some (.go ())
 | z3 :: r3, i3 => (if (decide (z3.Rev < 1)) = true then (some (true, true)) else ((if (decide ((i3 : Int) > 0)) = true then ((getI p0 (IntKind.i64.wrap ((i3 : Int) - 1))).bind fun x29 => some (true, (decide (z3.Rev < x29.Rev)))) else (some (false, false)) : Option (Bool × Bool)).bind fun s27 => some (false, s27.2)) : Option (Bool × Bool)).bind fun s8 => (if s8.2 = true then (some (true, true)) else ((if z3.Del = true then (some (true, (!eqB z3.Val ByteArray.empty))) else (some (false, false)) : Option (Bool × Bool)).bind fun s24 => some (false, s24.2)) : Option (Bool × Bool)).bind fun s10 => if s10.2 = true then (some (.out false)) else ((F_ref19_Rises_L2 p0 i3 z3 n 0 : Option (Lp (Int × Int × Bool) (Bool))).bind fun s12 => lpK2 s12 fun u12 => F_ref19_Rises_L1 n p0 r3 (i3 + 1))
def F_ref19_Rises (n : Nat) (p0 : (List TEvent)) : Option (Bool) :=
 (F_ref19_Rises_L1 n p0 p0 0 : Option (Lp (Unit) (Bool))).bind fun s2 => lpK s2 fun u2 => some true
def F_law19_few (n : Nat) (p0 : (List TEvent)) : Option (Bool) :=
 (if (decide ((p0.length : Int) ≤ 40)) = true then ((F_ref19_Rises n p0).bind fun x4 => some x4) else (some false) : Option (Bool)).bind fun s3 => some s3
def F_ref05_One_L1 (p0 : (List TKV)) (p1 : TEvent) : Nat → (List TKV) → Int → Option ((List TKV))
 | 0, _, _ => none
 | m9 + 1, y9_0, y9_1 => if (decide (y9_1 < (p0.length : Int))) = true then ((getI p0 y9_1).bind fun x11 => (if (!eqB x11.Key p1.Key) = true then ((getI p0 y9_1).bind fun x14 => (appL 40 y9_0 ([x14] : List TKV)).bind fun x16 => some (y9_0 ++ ([x14] : List TKV))) else (some y9_0) : Option ((List TKV))).bind fun s13 => F_ref05_One_L1 p0 p1 m9 s13 (IntKind.i64.wrap (y9_1 + 1))) else (some y9_0)
def F_ref05_One_L2 (p1 : TEvent) : (List TKV) → Nat → (List TKV) → Option ((List TKV) × Int)
 | [], i19, y19_0 => some (y19_0, (i19 : Int))
 | z19 :: r19, i19, y19_0 => if (lessB z19.Key p1.Key) = true then ((appL 40 y19_0 ([z19] : List TKV)).bind fun x25 => F_ref05_One_L2 p1 r19 (i19 + 1) (y19_0 ++ ([z19] : List TKV))) else (some (y19_0, (i19 : Int)))
def F_ref05_One (n : Nat) (p0 : (List TKV)) (p1 : TEvent) : Option ((List TKV)) :=
 (F_ref05_One_L2 p1 p0 0 ([] : List TKV) : Option ((List TKV) × Int)).bind fun s4 => (if (!p1.Del) = true then ((appL 40 s4.1 ([(⟨p1.Key, p1.Val, p1.Rev⟩ : TKV)] : List TKV)).bind fun x18 => some (s4.1 ++ ([(⟨p1.Key, p1.Val, p1.Rev⟩ : TKV)] : List TKV))) else (some s4.1) : Option ((List TKV))).bind fun s6 => (F_ref05_One_L1 p0 p1 n s6 s4.2 : Option ((List TKV))).bind fun s7 => some s7
def F_ref19_Map_L1 (n : Nat) (p1 : Int) : (List TEvent) → Nat → (List TKV) → Option ((List TKV))
 | [], _, y4_0 => some y4_0
 | z4 :: r4, i4, y4_0 => (if (decide (z4.Rev ≤ p1)) = true then ((F_ref05_One n y4_0 z4).bind fun x11 => some x11) else (some y4_0) : Option ((List TKV))).bind fun s9 => F_ref19_Map_L1 n p1 r4 (i4 + 1) s9
def F_ref19_Map (n : Nat) (p0 : (List TEvent)) (p1 : Int) : Option ((List TKV)) :=
 (F_ref19_Map_L1 n p1 p0 0 ([] : List TKV) : Option ((List TKV))).bind fun s3 => some s3
def F_ref05_KVs_L1 (p1 : (List TKV)) : (List TKV) → Nat → Option (Lp (Unit) (Bool))
 | [], _ => some (.go ())
 | z5 :: r5, i5 => (getI p1 (i5 : Int)).bind fun x9 => if (!(eq_TKV z5 x9)) = true then (some (.out false)) else (F_ref05_KVs_L1 p1 r5 (i5 + 1))
def F_ref05_KVs (p0 : (List TKV)) (p1 : (List TKV)) : Option (Bool) :=
 if ((p0.length : Int) != (p1.length : Int)) = true then (some false) else ((F_ref05_KVs_L1 p1 p0 0 : Option (Lp (Unit) (Bool))).bind fun s4 => lpK s4 fun u4 => some true)
def F_index_Work_Step_nil (p0 : Obst_Tree) (p0o0 : Omem_Mem) (p0o1 : Ochain_Store) : Option (Bool × Obst_Tree × Omem_Mem × Ochain_Store) :=
 some (true, p0, p0o0, p0o1)
def F_law19_IndexMany_L2 (n : Nat) : (List Bool) → Nat → ((Option Oindex_Work_2)) → (Oindex_Work_2) → (Obst_Tree × Omem_Mem × Ochain_Store) → (Oindex_Work_2) → Option (Int × Int × Bool × Bool × Bool × (Obst_Tree × Omem_Mem × Ochain_Store) × (Oindex_Work_2) × (Oindex_Work_2) × ((Option Oindex_Work_2)))
 | [], i53, y53_0, y53_1, y53_2, y53_3 => some ((i53 : Int), (i53 : Int), false, false, false, (y53_2.1, y53_2.2.1, y53_2.2.2), y53_3, y53_1, y53_0)
 | z53 :: r53, i53, y53_0, y53_1, y53_2, y53_3 => if (decide ((i53 : Int) < 40)) = true then (((if z53 = true then ((F_index_Work_Step n y53_2.1 y53_2.2.1 y53_2.2.2 y53_1).bind fun x65 => some ((x65.2.1, x65.2.2.1, x65.2.2.2.1), y53_3, x65.2.2.2.2)) else ((F_index_Work_Step n y53_2.1 y53_2.2.1 y53_2.2.2 y53_3).bind fun x66 => some ((x66.2.1, x66.2.2.1, x66.2.2.2.1), x66.2.2.2.2, y53_1)) : Option ((Obst_Tree × Omem_Mem × Ochain_Store) × (Oindex_Work_2) × (Oindex_Work_2))).bind fun s59 => match y53_0 with | none => (F_index_Work_Step_nil s59.1.1 s59.1.2.1 s59.1.2.2).bind fun x61 => some ((x61.2.1, x61.2.2.1, x61.2.2.2), s59.2.1, s59.2.2, none) | some x60 => (F_index_Work_Step n s59.1.1 s59.1.2.1 s59.1.2.2 x60).bind fun x63 => some ((x63.2.1, x63.2.2.1, x63.2.2.2.1), s59.2.1, s59.2.2, (some x63.2.2.2.2)) : Option ((Obst_Tree × Omem_Mem × Ochain_Store) × (Oindex_Work_2) × (Oindex_Work_2) × ((Option Oindex_Work_2)))).bind fun s56 => F_law19_IndexMany_L2 n r53 (i53 + 1) s56.2.2.2 s56.2.2.1 (s56.1.1, s56.1.2.1, s56.1.2.2) s56.2.1) else (some ((i53 : Int), (i53 : Int), true, true, (decide ((i53 : Int) < 40)), (y53_2.1, y53_2.2.1, y53_2.2.2), y53_3, y53_1, y53_0))
def F_law19_IndexMany_L1 (n : Nat) (p2 : (List Bool)) (x10 : Int) : (List TEvent) → Nat → (Obst_Tree × Omem_Mem × Ochain_Store) → ((Option Oindex_Work_2)) → ((Option Oindex_Work_2)) → Option (((Option Oindex_Work_2)) × ((Option Oindex_Work_2)) × (Obst_Tree × Omem_Mem × Ochain_Store))
 | [], _, y38_0, y38_1, y38_2 => some (y38_2, y38_1, (y38_0.1, y38_0.2.1, y38_0.2.2))
 | z38 :: r38, i38, y38_0, y38_1, y38_2 => (if (bif (decide (z38.Rev > x10)) then y38_1.isNone else false) = true then ((F_index_Index_Walk n y38_0.1 y38_0.2.1 y38_0.2.2 (⟨ByteArray.empty, ByteArray.empty⟩ : TRange) x10).bind fun x67 => some ((some x67.1), (x67.2.1, x67.2.2.1, x67.2.2.2))) else (some (y38_1, (y38_0.1, y38_0.2.1, y38_0.2.2))) : Option (((Option Oindex_Work_2)) × (Obst_Tree × Omem_Mem × Ochain_Store))).bind fun s43 => (F_index_Index_Put n s43.2.1 s43.2.2.1 s43.2.2.2 z38).bind fun x45 => (F_index_Index_Put n x45.2.1 x45.2.2.1 x45.2.2.2 z38).bind fun x47 => (F_law19_IndexMany_L2 n p2 0 s43.1 x45.1 (x47.2.1, x47.2.2.1, x47.2.2.2) x47.1 : Option (Int × Int × Bool × Bool × Bool × (Obst_Tree × Omem_Mem × Ochain_Store) × (Oindex_Work_2) × (Oindex_Work_2) × ((Option Oindex_Work_2)))).bind fun s48 => (F_index_Run n s48.2.2.2.2.2.1.1 s48.2.2.2.2.2.1.2.1 s48.2.2.2.2.2.1.2.2 s48.2.2.2.2.2.2.2.1).bind fun x49 => (y38_2).bind fun x50 => (F_index_Work_Step n x49.1 x49.2.1 x49.2.2.1 x50).bind fun x51 => F_law19_IndexMany_L1 n p2 x10 r38 (i38 + 1) (x51.2.1, x51.2.2.1, x51.2.2.2.1) s48.2.2.2.2.2.2.2.2 (some s48.2.2.2.2.2.2.1)
def F_law19_IndexMany (n : Nat) (p0 : (List TEvent)) (p1 : Int) (p2 : (List Bool)) : Option (Bool) :=
 (F_law19_few n p0).bind fun x5 => if (bif (!x5) then true else ((p0.length : Int) == 0)) = true then (some true) else ((F_mem_New_nil ).bind fun x7 => (F_index_New x7).bind fun x8 => (getI p0 (IntKind.i64.wrap ((p0.length : Int) - 1))).bind fun x9 => (remI (IntKind.i64.wrap p1) (IntKind.i64.wrap (x9.Rev + 1))).bind fun x10 => (getI p0 (IntKind.i64.wrap ((p0.length : Int) - 1))).bind fun x11 => if (bif (decide (x11.Rev > 1000)) then true else false) = true then (some true) else ((getI p0 0).bind fun x13 => (F_index_Index_Ensure n x8.1 x8.2.1 x8.2.2 x13.Key).bind fun x14 => (F_index_Run n x14.2.1 x14.2.2.1 x14.2.2.2 x14.1).bind fun x15 => (F_law19_IndexMany_L1 n p2 x10 p0 0 (x15.1, x15.2.1, x15.2.2.1) none (some x15.2.2.2) : Option (((Option Oindex_Work_2)) × ((Option Oindex_Work_2)) × (Obst_Tree × Omem_Mem × Ochain_Store))).bind fun s18 => (s18.1).bind fun x19 => (F_index_Run n s18.2.2.1 s18.2.2.2.1 s18.2.2.2.2 x19).bind fun x20 => (if s18.2.1.isNone = true then ((F_index_Index_Walk n x20.1 x20.2.1 x20.2.2.1 (⟨ByteArray.empty, ByteArray.empty⟩ : TRange) x10).bind fun x36 => some ((x36.2.1, x36.2.2.1, x36.2.2.2), (some x36.1))) else (some ((x20.1, x20.2.1, x20.2.2.1), s18.2.1)) : Option ((Obst_Tree × Omem_Mem × Ochain_Store) × ((Option Oindex_Work_2)))).bind fun s23 => (s23.2).bind fun x24 => (F_index_Run n s23.1.1 s23.1.2.1 s23.1.2.2 x24).bind fun x25 => (F_index_Work_Found x25.2.2.2).bind fun x26 => (F_index_Index_Walk n x25.1 x25.2.1 x25.2.2.1 (⟨ByteArray.empty, ByteArray.empty⟩ : TRange) 5000).bind fun x27 => (F_index_Run n x27.2.1 x27.2.2.1 x27.2.2.2 x27.1).bind fun x28 => (F_index_Work_Found x28.2.2.2).bind fun x29 => (F_ref19_Map n p0 x10).bind fun x30 => (F_ref05_KVs x26 x30).bind fun x31 => (if x31 = true then ((F_ref19_Map n p0 5000).bind fun x34 => (F_ref05_KVs x29 x34).bind fun x35 => some x35) else (some false) : Option (Bool)).bind fun s33 => some s33))
theorem ag_105 : isAggT EE.P 105 = some false := by kernel_rfl
theorem ag_127 : isAggT EE.P 127 = some true := by kernel_rfl
theorem ag_128 : isAggT EE.P 128 = some false := by kernel_rfl
theorem ag_129 : isAggT EE.P 129 = some false := by kernel_rfl
theorem ag_134 : isAggT EE.P 134 = some false := by kernel_rfl
theorem ag_135 : isAggT EE.P 135 = some false := by kernel_rfl
theorem ag_138 : isAggT EE.P 138 = some true := by kernel_rfl
theorem ag_141 : isAggT EE.P 141 = some false := by kernel_rfl
theorem ag_144 : isAggT EE.P 144 = some false := by kernel_rfl
theorem ag_155 : isAggT EE.P 155 = some true := by kernel_rfl
theorem ag_159 : isAggT EE.P 159 = some false := by kernel_rfl
theorem ag_175 : isAggT EE.P 175 = some true := by kernel_rfl
theorem ag_201 : isAggT EE.P 201 = some false := by kernel_rfl
theorem ag_210 : isAggT EE.P 210 = some false := by kernel_rfl
theorem ag_24 : isAggT EE.P 24 = some true := by kernel_rfl
theorem ag_27 : isAggT EE.P 27 = some false := by kernel_rfl
theorem ag_29 : isAggT EE.P 29 = some false := by kernel_rfl
theorem ag_3 : isAggT EE.P 3 = some false := by kernel_rfl
theorem ag_32 : isAggT EE.P 32 = some false := by kernel_rfl
theorem ag_36 : isAggT EE.P 36 = some true := by kernel_rfl
theorem ag_4 : isAggT EE.P 4 = some false := by kernel_rfl
theorem ag_45 : isAggT EE.P 45 = some false := by kernel_rfl
theorem ag_51 : isAggT EE.P 51 = some false := by kernel_rfl
theorem ag_56 : isAggT EE.P 56 = some true := by kernel_rfl
theorem ag_61 : isAggT EE.P 61 = some false := by kernel_rfl
theorem ag_83 : isAggT EE.P 83 = some false := by kernel_rfl
theorem ag_84 : isAggT EE.P 84 = some false := by kernel_rfl
theorem ag_85 : isAggT EE.P 85 = some false := by kernel_rfl
theorem ag_89 : isAggT EE.P 89 = some false := by kernel_rfl
theorem ag_9 : isAggT EE.P 9 = some false := by kernel_rfl
theorem ag_93 : isAggT EE.P 93 = some false := by kernel_rfl
theorem ag_95 : isAggT EE.P 95 = some true := by kernel_rfl
theorem at_10 : EE.P.funcs[10]? = some Tryz.f10 := by kernel_rfl
theorem at_106 : EE.P.funcs[106]? = some Tryz.f106 := by kernel_rfl
theorem at_107 : EE.P.funcs[107]? = some Tryz.f107 := by kernel_rfl
theorem at_108 : EE.P.funcs[108]? = some Tryz.f108 := by kernel_rfl
theorem at_109 : EE.P.funcs[109]? = some Tryz.f109 := by kernel_rfl
theorem at_110 : EE.P.funcs[110]? = some Tryz.f110 := by kernel_rfl
theorem at_111 : EE.P.funcs[111]? = some Tryz.f111 := by kernel_rfl
theorem at_112 : EE.P.funcs[112]? = some Tryz.f112 := by kernel_rfl
theorem at_113 : EE.P.funcs[113]? = some Tryz.f113 := by kernel_rfl
theorem at_114 : EE.P.funcs[114]? = some Tryz.f114 := by kernel_rfl
theorem at_115 : EE.P.funcs[115]? = some Tryz.f115 := by kernel_rfl
theorem at_117 : EE.P.funcs[117]? = some Tryz.f117 := by kernel_rfl
theorem at_118 : EE.P.funcs[118]? = some Tryz.f118 := by kernel_rfl
theorem at_119 : EE.P.funcs[119]? = some Tryz.f119 := by kernel_rfl
theorem at_12 : EE.P.funcs[12]? = some Tryz.f12 := by kernel_rfl
theorem at_120 : EE.P.funcs[120]? = some Tryz.f120 := by kernel_rfl
theorem at_121 : EE.P.funcs[121]? = some Tryz.f121 := by kernel_rfl
theorem at_129 : EE.P.funcs[129]? = some Tryz.f129 := by kernel_rfl
theorem at_13 : EE.P.funcs[13]? = some Tryz.f13 := by kernel_rfl
theorem at_130 : EE.P.funcs[130]? = some Tryz.f130 := by kernel_rfl
theorem at_131 : EE.P.funcs[131]? = some Tryz.f131 := by kernel_rfl
theorem at_133 : EE.P.funcs[133]? = some Tryz.f133 := by kernel_rfl
theorem at_134 : EE.P.funcs[134]? = some Tryz.f134 := by kernel_rfl
theorem at_135 : EE.P.funcs[135]? = some Tryz.f135 := by kernel_rfl
theorem at_136 : EE.P.funcs[136]? = some Tryz.f136 := by kernel_rfl
theorem at_139 : EE.P.funcs[139]? = some Tryz.f139 := by kernel_rfl
theorem at_14 : EE.P.funcs[14]? = some Tryz.f14 := by kernel_rfl
theorem at_140 : EE.P.funcs[140]? = some Tryz.f140 := by kernel_rfl
theorem at_141 : EE.P.funcs[141]? = some Tryz.f141 := by kernel_rfl
theorem at_142 : EE.P.funcs[142]? = some Tryz.f142 := by kernel_rfl
theorem at_143 : EE.P.funcs[143]? = some Tryz.f143 := by kernel_rfl
theorem at_144 : EE.P.funcs[144]? = some Tryz.f144 := by kernel_rfl
theorem at_145 : EE.P.funcs[145]? = some Tryz.f145 := by kernel_rfl
theorem at_146 : EE.P.funcs[146]? = some Tryz.f146 := by kernel_rfl
theorem at_147 : EE.P.funcs[147]? = some Tryz.f147 := by kernel_rfl
theorem at_148 : EE.P.funcs[148]? = some Tryz.f148 := by kernel_rfl
theorem at_149 : EE.P.funcs[149]? = some Tryz.f149 := by kernel_rfl
theorem at_150 : EE.P.funcs[150]? = some Tryz.f150 := by kernel_rfl
theorem at_151 : EE.P.funcs[151]? = some Tryz.f151 := by kernel_rfl
theorem at_152 : EE.P.funcs[152]? = some Tryz.f152 := by kernel_rfl
theorem at_153 : EE.P.funcs[153]? = some Tryz.f153 := by kernel_rfl
theorem at_154 : EE.P.funcs[154]? = some Tryz.f154 := by kernel_rfl
theorem at_155 : EE.P.funcs[155]? = some Tryz.f155 := by kernel_rfl
theorem at_156 : EE.P.funcs[156]? = some Tryz.f156 := by kernel_rfl
theorem at_157 : EE.P.funcs[157]? = some Tryz.f157 := by kernel_rfl
theorem at_158 : EE.P.funcs[158]? = some Tryz.f158 := by kernel_rfl
theorem at_159 : EE.P.funcs[159]? = some Tryz.f159 := by kernel_rfl
theorem at_16 : EE.P.funcs[16]? = some Tryz.f16 := by kernel_rfl
theorem at_160 : EE.P.funcs[160]? = some Tryz.f160 := by kernel_rfl
theorem at_176 : EE.P.funcs[176]? = some Tryz.f176 := by kernel_rfl
theorem at_177 : EE.P.funcs[177]? = some Tryz.f177 := by kernel_rfl
theorem at_178 : EE.P.funcs[178]? = some Tryz.f178 := by kernel_rfl
theorem at_18 : EE.P.funcs[18]? = some Tryz.f18 := by kernel_rfl
theorem at_20 : EE.P.funcs[20]? = some Tryz.f20 := by kernel_rfl
theorem at_21 : EE.P.funcs[21]? = some Tryz.f21 := by kernel_rfl
theorem at_23 : EE.P.funcs[23]? = some Tryz.f23 := by kernel_rfl
theorem at_24 : EE.P.funcs[24]? = some Tryz.f24 := by kernel_rfl
theorem at_25 : EE.P.funcs[25]? = some Tryz.f25 := by kernel_rfl
theorem at_37 : EE.P.funcs[37]? = some Tryz.f37 := by kernel_rfl
theorem at_38 : EE.P.funcs[38]? = some Tryz.f38 := by kernel_rfl
theorem at_39 : EE.P.funcs[39]? = some Tryz.f39 := by kernel_rfl
theorem at_41 : EE.P.funcs[41]? = some Tryz.f41 := by kernel_rfl
theorem at_42 : EE.P.funcs[42]? = some Tryz.f42 := by kernel_rfl
theorem at_43 : EE.P.funcs[43]? = some Tryz.f43 := by kernel_rfl
theorem at_44 : EE.P.funcs[44]? = some Tryz.f44 := by kernel_rfl
theorem at_45 : EE.P.funcs[45]? = some Tryz.f45 := by kernel_rfl
theorem at_46 : EE.P.funcs[46]? = some Tryz.f46 := by kernel_rfl
theorem at_47 : EE.P.funcs[47]? = some Tryz.f47 := by kernel_rfl
theorem at_48 : EE.P.funcs[48]? = some Tryz.f48 := by kernel_rfl
theorem at_5 : EE.P.funcs[5]? = some Tryz.f5 := by kernel_rfl
theorem at_50 : EE.P.funcs[50]? = some Tryz.f50 := by kernel_rfl
theorem at_51 : EE.P.funcs[51]? = some Tryz.f51 := by kernel_rfl
theorem at_52 : EE.P.funcs[52]? = some Tryz.f52 := by kernel_rfl
theorem at_53 : EE.P.funcs[53]? = some Tryz.f53 := by kernel_rfl
theorem at_54 : EE.P.funcs[54]? = some Tryz.f54 := by kernel_rfl
theorem at_55 : EE.P.funcs[55]? = some Tryz.f55 := by kernel_rfl
theorem at_56 : EE.P.funcs[56]? = some Tryz.f56 := by kernel_rfl
theorem at_59 : EE.P.funcs[59]? = some Tryz.f59 := by kernel_rfl
theorem at_65 : EE.P.funcs[65]? = some Tryz.f65 := by kernel_rfl
theorem at_69 : EE.P.funcs[69]? = some Tryz.f69 := by kernel_rfl
theorem at_71 : EE.P.funcs[71]? = some Tryz.f71 := by kernel_rfl
theorem at_72 : EE.P.funcs[72]? = some Tryz.f72 := by kernel_rfl
theorem at_73 : EE.P.funcs[73]? = some Tryz.f73 := by kernel_rfl
theorem at_74 : EE.P.funcs[74]? = some Tryz.f74 := by kernel_rfl
theorem at_75 : EE.P.funcs[75]? = some Tryz.f75 := by kernel_rfl
theorem at_76 : EE.P.funcs[76]? = some Tryz.f76 := by kernel_rfl
theorem at_77 : EE.P.funcs[77]? = some Tryz.f77 := by kernel_rfl
theorem at_78 : EE.P.funcs[78]? = some Tryz.f78 := by kernel_rfl
theorem at_79 : EE.P.funcs[79]? = some Tryz.f79 := by kernel_rfl
theorem at_80 : EE.P.funcs[80]? = some Tryz.f80 := by kernel_rfl
theorem at_81 : EE.P.funcs[81]? = some Tryz.f81 := by kernel_rfl
theorem at_82 : EE.P.funcs[82]? = some Tryz.f82 := by kernel_rfl
theorem at_83 : EE.P.funcs[83]? = some Tryz.f83 := by kernel_rfl
theorem at_84 : EE.P.funcs[84]? = some Tryz.f84 := by kernel_rfl
theorem at_85 : EE.P.funcs[85]? = some Tryz.f85 := by kernel_rfl
theorem at_86 : EE.P.funcs[86]? = some Tryz.f86 := by kernel_rfl
theorem at_87 : EE.P.funcs[87]? = some Tryz.f87 := by kernel_rfl
theorem at_88 : EE.P.funcs[88]? = some Tryz.f88 := by kernel_rfl
theorem at_89 : EE.P.funcs[89]? = some Tryz.f89 := by kernel_rfl
theorem at_90 : EE.P.funcs[90]? = some Tryz.f90 := by kernel_rfl
theorem at_91 : EE.P.funcs[91]? = some Tryz.f91 := by kernel_rfl
theorem at_92 : EE.P.funcs[92]? = some Tryz.f92 := by kernel_rfl
theorem at_93 : EE.P.funcs[93]? = some Tryz.f93 := by kernel_rfl
theorem at_96 : EE.P.funcs[96]? = some Tryz.f96 := by kernel_rfl
theorem at_97 : EE.P.funcs[97]? = some Tryz.f97 := by kernel_rfl
theorem bn_56 {x0 y0 : ByteArray} {x1 y1 : ByteArray} {x2 y2 : Int} : binV EE .neq 56 (.agg #[.string x0, .string x1, .int .i64 x2]) (.agg #[.string y0, .string y1, .int .i64 y2]) = some (.bool (!((x0 == y0) && ((x1 == y1) && ((x2 == y2) && (true)))))) := by kernel_rfl
theorem by_127 : bytesOf EE.P 127 = some 40 := by kernel_rfl
theorem by_155 : bytesOf EE.P 155 = some 40 := by kernel_rfl
theorem by_175 : bytesOf EE.P 175 = some 56 := by kernel_rfl
theorem by_56 : bytesOf EE.P 56 = some 40 := by kernel_rfl
theorem by_93 : bytesOf EE.P 93 = some 8 := by kernel_rfl
theorem fa_107_0 (b o : Nat) : fieldAddrV EE 107 (.pointer (some ⟨b, o, none⟩)) 0 = some (.pointer (some ⟨b, o, none⟩)) := by kernel_rfl
theorem fa_107_1 (b o : Nat) : fieldAddrV EE 107 (.pointer (some ⟨b, o, none⟩)) 1 = some (.pointer (some ⟨b, o + 1, none⟩)) := by kernel_rfl
theorem fa_127_0 (b o : Nat) : fieldAddrV EE 127 (.pointer (some ⟨b, o, none⟩)) 0 = some (.pointer (some ⟨b, o, none⟩)) := by kernel_rfl
theorem fa_127_1 (b o : Nat) : fieldAddrV EE 127 (.pointer (some ⟨b, o, none⟩)) 1 = some (.pointer (some ⟨b, o + 1, none⟩)) := by kernel_rfl
theorem fa_127_2 (b o : Nat) : fieldAddrV EE 127 (.pointer (some ⟨b, o, none⟩)) 2 = some (.pointer (some ⟨b, o + 2, none⟩)) := by kernel_rfl
theorem fa_127_3 (b o : Nat) : fieldAddrV EE 127 (.pointer (some ⟨b, o, none⟩)) 3 = some (.pointer (some ⟨b, o + 3, none⟩)) := by kernel_rfl
theorem fa_131_0 (b o : Nat) : fieldAddrV EE 131 (.pointer (some ⟨b, o, none⟩)) 0 = some (.pointer (some ⟨b, o, none⟩)) := by kernel_rfl
theorem fa_131_1 (b o : Nat) : fieldAddrV EE 131 (.pointer (some ⟨b, o, none⟩)) 1 = some (.pointer (some ⟨b, o + 1, none⟩)) := by kernel_rfl
theorem fa_131_2 (b o : Nat) : fieldAddrV EE 131 (.pointer (some ⟨b, o, none⟩)) 2 = some (.pointer (some ⟨b, o + 2, none⟩)) := by kernel_rfl
theorem fa_138_0 (b o : Nat) : fieldAddrV EE 138 (.pointer (some ⟨b, o, none⟩)) 0 = some (.pointer (some ⟨b, o, none⟩)) := by kernel_rfl
theorem fa_138_1 (b o : Nat) : fieldAddrV EE 138 (.pointer (some ⟨b, o, none⟩)) 1 = some (.pointer (some ⟨b, o + 1, none⟩)) := by kernel_rfl
theorem fa_138_2 (b o : Nat) : fieldAddrV EE 138 (.pointer (some ⟨b, o, none⟩)) 2 = some (.pointer (some ⟨b, o + 2, none⟩)) := by kernel_rfl
theorem fa_138_3 (b o : Nat) : fieldAddrV EE 138 (.pointer (some ⟨b, o, none⟩)) 3 = some (.pointer (some ⟨b, o + 3, none⟩)) := by kernel_rfl
theorem fa_138_4 (b o : Nat) : fieldAddrV EE 138 (.pointer (some ⟨b, o, none⟩)) 4 = some (.pointer (some ⟨b, o + 4, none⟩)) := by kernel_rfl
theorem fa_138_5 (b o : Nat) : fieldAddrV EE 138 (.pointer (some ⟨b, o, none⟩)) 5 = some (.pointer (some ⟨b, o + 5, none⟩)) := by kernel_rfl
theorem fa_146_0 (b o : Nat) : fieldAddrV EE 146 (.pointer (some ⟨b, o, none⟩)) 0 = some (.pointer (some ⟨b, o, none⟩)) := by kernel_rfl
theorem fa_146_1 (b o : Nat) : fieldAddrV EE 146 (.pointer (some ⟨b, o, none⟩)) 1 = some (.pointer (some ⟨b, o + 4, none⟩)) := by kernel_rfl
theorem fa_155_0 (b o : Nat) : fieldAddrV EE 155 (.pointer (some ⟨b, o, none⟩)) 0 = some (.pointer (some ⟨b, o, none⟩)) := by kernel_rfl
theorem fa_155_1 (b o : Nat) : fieldAddrV EE 155 (.pointer (some ⟨b, o, none⟩)) 1 = some (.pointer (some ⟨b, o + 1, none⟩)) := by kernel_rfl
theorem fa_155_2 (b o : Nat) : fieldAddrV EE 155 (.pointer (some ⟨b, o, none⟩)) 2 = some (.pointer (some ⟨b, o + 2, none⟩)) := by kernel_rfl
theorem fa_155_3 (b o : Nat) : fieldAddrV EE 155 (.pointer (some ⟨b, o, none⟩)) 3 = some (.pointer (some ⟨b, o + 3, none⟩)) := by kernel_rfl
theorem fa_155_4 (b o : Nat) : fieldAddrV EE 155 (.pointer (some ⟨b, o, none⟩)) 4 = some (.pointer (some ⟨b, o + 4, none⟩)) := by kernel_rfl
theorem fa_161_0 (b o : Nat) : fieldAddrV EE 161 (.pointer (some ⟨b, o, none⟩)) 0 = some (.pointer (some ⟨b, o, none⟩)) := by kernel_rfl
theorem fa_161_1 (b o : Nat) : fieldAddrV EE 161 (.pointer (some ⟨b, o, none⟩)) 1 = some (.pointer (some ⟨b, o + 1, none⟩)) := by kernel_rfl
theorem fa_163_0 (b o : Nat) : fieldAddrV EE 163 (.pointer (some ⟨b, o, none⟩)) 0 = some (.pointer (some ⟨b, o, none⟩)) := by kernel_rfl
theorem fa_163_1 (b o : Nat) : fieldAddrV EE 163 (.pointer (some ⟨b, o, none⟩)) 1 = some (.pointer (some ⟨b, o + 1, none⟩)) := by kernel_rfl
theorem fa_163_2 (b o : Nat) : fieldAddrV EE 163 (.pointer (some ⟨b, o, none⟩)) 2 = some (.pointer (some ⟨b, o + 2, none⟩)) := by kernel_rfl
theorem fa_163_3 (b o : Nat) : fieldAddrV EE 163 (.pointer (some ⟨b, o, none⟩)) 3 = some (.pointer (some ⟨b, o + 6, none⟩)) := by kernel_rfl
theorem fa_163_4 (b o : Nat) : fieldAddrV EE 163 (.pointer (some ⟨b, o, none⟩)) 4 = some (.pointer (some ⟨b, o + 7, none⟩)) := by kernel_rfl
theorem fa_163_5 (b o : Nat) : fieldAddrV EE 163 (.pointer (some ⟨b, o, none⟩)) 5 = some (.pointer (some ⟨b, o + 8, none⟩)) := by kernel_rfl
theorem fa_175_0 (b o : Nat) : fieldAddrV EE 175 (.pointer (some ⟨b, o, none⟩)) 0 = some (.pointer (some ⟨b, o, none⟩)) := by kernel_rfl
theorem fa_175_1 (b o : Nat) : fieldAddrV EE 175 (.pointer (some ⟨b, o, none⟩)) 1 = some (.pointer (some ⟨b, o + 4, none⟩)) := by kernel_rfl
theorem fa_24_0 (b o : Nat) : fieldAddrV EE 24 (.pointer (some ⟨b, o, none⟩)) 0 = some (.pointer (some ⟨b, o, none⟩)) := by kernel_rfl
theorem fa_24_1 (b o : Nat) : fieldAddrV EE 24 (.pointer (some ⟨b, o, none⟩)) 1 = some (.pointer (some ⟨b, o + 1, none⟩)) := by kernel_rfl
theorem fa_36_0 (b o : Nat) : fieldAddrV EE 36 (.pointer (some ⟨b, o, none⟩)) 0 = some (.pointer (some ⟨b, o, none⟩)) := by kernel_rfl
theorem fa_36_1 (b o : Nat) : fieldAddrV EE 36 (.pointer (some ⟨b, o, none⟩)) 1 = some (.pointer (some ⟨b, o + 1, none⟩)) := by kernel_rfl
theorem fa_36_2 (b o : Nat) : fieldAddrV EE 36 (.pointer (some ⟨b, o, none⟩)) 2 = some (.pointer (some ⟨b, o + 2, none⟩)) := by kernel_rfl
theorem fa_36_3 (b o : Nat) : fieldAddrV EE 36 (.pointer (some ⟨b, o, none⟩)) 3 = some (.pointer (some ⟨b, o + 3, none⟩)) := by kernel_rfl
theorem fa_88_0 (b o : Nat) : fieldAddrV EE 88 (.pointer (some ⟨b, o, none⟩)) 0 = some (.pointer (some ⟨b, o, none⟩)) := by kernel_rfl
theorem fa_88_1 (b o : Nat) : fieldAddrV EE 88 (.pointer (some ⟨b, o, none⟩)) 1 = some (.pointer (some ⟨b, o + 1, none⟩)) := by kernel_rfl
theorem fa_88_2 (b o : Nat) : fieldAddrV EE 88 (.pointer (some ⟨b, o, none⟩)) 2 = some (.pointer (some ⟨b, o + 2, none⟩)) := by kernel_rfl
theorem fa_88_3 (b o : Nat) : fieldAddrV EE 88 (.pointer (some ⟨b, o, none⟩)) 3 = some (.pointer (some ⟨b, o + 3, none⟩)) := by kernel_rfl
theorem fa_88_4 (b o : Nat) : fieldAddrV EE 88 (.pointer (some ⟨b, o, none⟩)) 4 = some (.pointer (some ⟨b, o + 4, none⟩)) := by kernel_rfl
theorem fa_91_0 (b o : Nat) : fieldAddrV EE 91 (.pointer (some ⟨b, o, none⟩)) 0 = some (.pointer (some ⟨b, o, none⟩)) := by kernel_rfl
theorem fa_91_1 (b o : Nat) : fieldAddrV EE 91 (.pointer (some ⟨b, o, none⟩)) 1 = some (.pointer (some ⟨b, o + 1, none⟩)) := by kernel_rfl
theorem fa_91_2 (b o : Nat) : fieldAddrV EE 91 (.pointer (some ⟨b, o, none⟩)) 2 = some (.pointer (some ⟨b, o + 2, none⟩)) := by kernel_rfl
theorem fa_95_0 (b o : Nat) : fieldAddrV EE 95 (.pointer (some ⟨b, o, none⟩)) 0 = some (.pointer (some ⟨b, o, none⟩)) := by kernel_rfl
theorem fa_95_1 (b o : Nat) : fieldAddrV EE 95 (.pointer (some ⟨b, o, none⟩)) 1 = some (.pointer (some ⟨b, o + 1, none⟩)) := by kernel_rfl
theorem fa_95_2 (b o : Nat) : fieldAddrV EE 95 (.pointer (some ⟨b, o, none⟩)) 2 = some (.pointer (some ⟨b, o + 2, none⟩)) := by kernel_rfl
theorem fa_95_3 (b o : Nat) : fieldAddrV EE 95 (.pointer (some ⟨b, o, none⟩)) 3 = some (.pointer (some ⟨b, o + 3, none⟩)) := by kernel_rfl
theorem hb_10 : hasBody EE.P 10 = true := by kernel_rfl
theorem hb_106 : hasBody EE.P 106 = true := by kernel_rfl
theorem hb_107 : hasBody EE.P 107 = true := by kernel_rfl
theorem hb_108 : hasBody EE.P 108 = true := by kernel_rfl
theorem hb_109 : hasBody EE.P 109 = true := by kernel_rfl
theorem hb_110 : hasBody EE.P 110 = true := by kernel_rfl
theorem hb_111 : hasBody EE.P 111 = true := by kernel_rfl
theorem hb_112 : hasBody EE.P 112 = true := by kernel_rfl
theorem hb_113 : hasBody EE.P 113 = true := by kernel_rfl
theorem hb_114 : hasBody EE.P 114 = true := by kernel_rfl
theorem hb_115 : hasBody EE.P 115 = true := by kernel_rfl
theorem hb_117 : hasBody EE.P 117 = true := by kernel_rfl
theorem hb_118 : hasBody EE.P 118 = true := by kernel_rfl
theorem hb_119 : hasBody EE.P 119 = true := by kernel_rfl
theorem hb_12 : hasBody EE.P 12 = true := by kernel_rfl
theorem hb_120 : hasBody EE.P 120 = true := by kernel_rfl
theorem hb_121 : hasBody EE.P 121 = true := by kernel_rfl
theorem hb_129 : hasBody EE.P 129 = true := by kernel_rfl
theorem hb_13 : hasBody EE.P 13 = true := by kernel_rfl
theorem hb_130 : hasBody EE.P 130 = true := by kernel_rfl
theorem hb_131 : hasBody EE.P 131 = true := by kernel_rfl
theorem hb_133 : hasBody EE.P 133 = true := by kernel_rfl
theorem hb_134 : hasBody EE.P 134 = true := by kernel_rfl
theorem hb_135 : hasBody EE.P 135 = true := by kernel_rfl
theorem hb_136 : hasBody EE.P 136 = true := by kernel_rfl
theorem hb_139 : hasBody EE.P 139 = true := by kernel_rfl
theorem hb_14 : hasBody EE.P 14 = true := by kernel_rfl
theorem hb_140 : hasBody EE.P 140 = true := by kernel_rfl
theorem hb_141 : hasBody EE.P 141 = true := by kernel_rfl
theorem hb_142 : hasBody EE.P 142 = true := by kernel_rfl
theorem hb_143 : hasBody EE.P 143 = true := by kernel_rfl
theorem hb_144 : hasBody EE.P 144 = true := by kernel_rfl
theorem hb_145 : hasBody EE.P 145 = true := by kernel_rfl
theorem hb_146 : hasBody EE.P 146 = true := by kernel_rfl
theorem hb_147 : hasBody EE.P 147 = true := by kernel_rfl
theorem hb_148 : hasBody EE.P 148 = true := by kernel_rfl
theorem hb_149 : hasBody EE.P 149 = true := by kernel_rfl
theorem hb_150 : hasBody EE.P 150 = true := by kernel_rfl
theorem hb_151 : hasBody EE.P 151 = true := by kernel_rfl
theorem hb_152 : hasBody EE.P 152 = true := by kernel_rfl
theorem hb_153 : hasBody EE.P 153 = true := by kernel_rfl
theorem hb_154 : hasBody EE.P 154 = true := by kernel_rfl
theorem hb_155 : hasBody EE.P 155 = true := by kernel_rfl
theorem hb_156 : hasBody EE.P 156 = true := by kernel_rfl
theorem hb_157 : hasBody EE.P 157 = true := by kernel_rfl
theorem hb_158 : hasBody EE.P 158 = true := by kernel_rfl
theorem hb_159 : hasBody EE.P 159 = true := by kernel_rfl
theorem hb_16 : hasBody EE.P 16 = true := by kernel_rfl
theorem hb_160 : hasBody EE.P 160 = true := by kernel_rfl
theorem hb_176 : hasBody EE.P 176 = true := by kernel_rfl
theorem hb_177 : hasBody EE.P 177 = true := by kernel_rfl
theorem hb_178 : hasBody EE.P 178 = true := by kernel_rfl
theorem hb_18 : hasBody EE.P 18 = true := by kernel_rfl
theorem hb_20 : hasBody EE.P 20 = true := by kernel_rfl
theorem hb_21 : hasBody EE.P 21 = true := by kernel_rfl
theorem hb_23 : hasBody EE.P 23 = true := by kernel_rfl
theorem hb_24 : hasBody EE.P 24 = true := by kernel_rfl
theorem hb_25 : hasBody EE.P 25 = true := by kernel_rfl
theorem hb_37 : hasBody EE.P 37 = true := by kernel_rfl
theorem hb_38 : hasBody EE.P 38 = true := by kernel_rfl
theorem hb_39 : hasBody EE.P 39 = true := by kernel_rfl
theorem hb_41 : hasBody EE.P 41 = true := by kernel_rfl
theorem hb_42 : hasBody EE.P 42 = true := by kernel_rfl
theorem hb_43 : hasBody EE.P 43 = true := by kernel_rfl
theorem hb_44 : hasBody EE.P 44 = true := by kernel_rfl
theorem hb_45 : hasBody EE.P 45 = true := by kernel_rfl
theorem hb_46 : hasBody EE.P 46 = true := by kernel_rfl
theorem hb_47 : hasBody EE.P 47 = true := by kernel_rfl
theorem hb_48 : hasBody EE.P 48 = true := by kernel_rfl
theorem hb_50 : hasBody EE.P 50 = true := by kernel_rfl
theorem hb_51 : hasBody EE.P 51 = true := by kernel_rfl
theorem hb_52 : hasBody EE.P 52 = true := by kernel_rfl
theorem hb_53 : hasBody EE.P 53 = true := by kernel_rfl
theorem hb_54 : hasBody EE.P 54 = true := by kernel_rfl
theorem hb_55 : hasBody EE.P 55 = true := by kernel_rfl
theorem hb_56 : hasBody EE.P 56 = true := by kernel_rfl
theorem hb_59 : hasBody EE.P 59 = true := by kernel_rfl
theorem hb_65 : hasBody EE.P 65 = true := by kernel_rfl
theorem hb_69 : hasBody EE.P 69 = true := by kernel_rfl
theorem hb_71 : hasBody EE.P 71 = true := by kernel_rfl
theorem hb_72 : hasBody EE.P 72 = true := by kernel_rfl
theorem hb_73 : hasBody EE.P 73 = true := by kernel_rfl
theorem hb_74 : hasBody EE.P 74 = true := by kernel_rfl
theorem hb_75 : hasBody EE.P 75 = true := by kernel_rfl
theorem hb_76 : hasBody EE.P 76 = true := by kernel_rfl
theorem hb_77 : hasBody EE.P 77 = true := by kernel_rfl
theorem hb_78 : hasBody EE.P 78 = true := by kernel_rfl
theorem hb_79 : hasBody EE.P 79 = true := by kernel_rfl
theorem hb_80 : hasBody EE.P 80 = true := by kernel_rfl
theorem hb_81 : hasBody EE.P 81 = true := by kernel_rfl
theorem hb_82 : hasBody EE.P 82 = true := by kernel_rfl
theorem hb_83 : hasBody EE.P 83 = true := by kernel_rfl
theorem hb_84 : hasBody EE.P 84 = true := by kernel_rfl
theorem hb_85 : hasBody EE.P 85 = true := by kernel_rfl
theorem hb_86 : hasBody EE.P 86 = true := by kernel_rfl
theorem hb_87 : hasBody EE.P 87 = true := by kernel_rfl
theorem hb_88 : hasBody EE.P 88 = true := by kernel_rfl
theorem hb_89 : hasBody EE.P 89 = true := by kernel_rfl
theorem hb_9 : hasBody EE.P 9 = true := by kernel_rfl
theorem hb_90 : hasBody EE.P 90 = true := by kernel_rfl
theorem hb_91 : hasBody EE.P 91 = true := by kernel_rfl
theorem hb_92 : hasBody EE.P 92 = true := by kernel_rfl
theorem hb_93 : hasBody EE.P 93 = true := by kernel_rfl
theorem hb_96 : hasBody EE.P 96 = true := by kernel_rfl
theorem hb_97 : hasBody EE.P 97 = true := by kernel_rfl
theorem ln_105 {h : Heap} {a : Option Addr} {n c : Nat} : lenV EE h 105 (.slice a n c) = some (.int .i64 n) := by kernel_rfl
theorem ln_128 {h : Heap} {a : Option Addr} {n c : Nat} : lenV EE h 128 (.slice a n c) = some (.int .i64 n) := by kernel_rfl
theorem ln_129 {h : Heap} {a : Option Addr} {n c : Nat} : lenV EE h 129 (.slice a n c) = some (.int .i64 n) := by kernel_rfl
theorem ln_159 {h : Heap} {a : Option Addr} {n c : Nat} : lenV EE h 159 (.slice a n c) = some (.int .i64 n) := by kernel_rfl
theorem ln_22 {h : Heap} {a : Option Addr} {n c : Nat} : lenV EE h 22 (.slice a n c) = some (.int .i64 n) := by kernel_rfl
theorem ln_29 {h : Heap} {a : Option Addr} {n c : Nat} : lenV EE h 29 (.slice a n c) = some (.int .i64 n) := by kernel_rfl
theorem ln_49 {h : Heap} {a : Option Addr} {n c : Nat} : lenV EE h 49 (.slice a n c) = some (.int .i64 n) := by kernel_rfl
theorem sz_105 : sz EE.P 105 = some 1 := by kernel_rfl
theorem sz_127 : sz EE.P 127 = some 4 := by kernel_rfl
theorem sz_128 : sz EE.P 128 = some 1 := by kernel_rfl
theorem sz_129 : sz EE.P 129 = some 1 := by kernel_rfl
theorem sz_134 : sz EE.P 134 = some 1 := by kernel_rfl
theorem sz_135 : sz EE.P 135 = some 1 := by kernel_rfl
theorem sz_138 : sz EE.P 138 = some 6 := by kernel_rfl
theorem sz_155 : sz EE.P 155 = some 5 := by kernel_rfl
theorem sz_159 : sz EE.P 159 = some 1 := by kernel_rfl
theorem sz_175 : sz EE.P 175 = some 5 := by kernel_rfl
theorem sz_210 : sz EE.P 210 = some 1 := by kernel_rfl
theorem sz_24 : sz EE.P 24 = some 2 := by kernel_rfl
theorem sz_29 : sz EE.P 29 = some 1 := by kernel_rfl
theorem sz_3 : sz EE.P 3 = some 1 := by kernel_rfl
theorem sz_36 : sz EE.P 36 = some 4 := by kernel_rfl
theorem sz_4 : sz EE.P 4 = some 1 := by kernel_rfl
theorem sz_45 : sz EE.P 45 = some 1 := by kernel_rfl
theorem sz_56 : sz EE.P 56 = some 3 := by kernel_rfl
theorem sz_84 : sz EE.P 84 = some 1 := by kernel_rfl
theorem sz_85 : sz EE.P 85 = some 1 := by kernel_rfl
theorem sz_9 : sz EE.P 9 = some 1 := by kernel_rfl
theorem sz_93 : sz EE.P 93 = some 1 := by kernel_rfl
theorem sz_95 : sz EE.P 95 = some 4 := by kernel_rfl
theorem ut_105 : EE.P.underlying 105 = some (.slice 93) := by kernel_rfl
theorem ut_128 : EE.P.underlying 128 = some (.slice 127) := by kernel_rfl
theorem ut_129 : EE.P.underlying 129 = some (.slice 155) := by kernel_rfl
theorem ut_159 : EE.P.underlying 159 = some (.slice 175) := by kernel_rfl
theorem ut_22 : EE.P.underlying 22 = some (.slice 36) := by kernel_rfl
theorem ut_29 : EE.P.underlying 29 = some (.slice 56) := by kernel_rfl
theorem ut_49 : EE.P.underlying 49 = some (.slice 4) := by kernel_rfl
theorem zo_127 : zeroOf EE.P 127 = some (Value.agg #[Value.string { data := #[] }, Value.int IntKind.i64 0, Value.int IntKind.u64 0, Value.int IntKind.i64 0]) := by kernel_rfl
theorem zo_134 : zeroOf EE.P 134 = some (Value.nilFunc) := by kernel_rfl
theorem zo_155 : zeroOf EE.P 155 = some (Value.agg #[Value.int IntKind.i64 0, Value.int IntKind.i64 0, Value.int IntKind.i64 0, Value.int IntKind.i64 0, Value.int IntKind.u64 0]) := by kernel_rfl
theorem zo_175 : zeroOf EE.P 175 = some (Value.agg #[Value.int IntKind.i64 0, Value.string { data := #[] }, Value.string { data := #[] }, Value.bool false, Value.int IntKind.u64 0]) := by kernel_rfl
theorem zo_210 : zeroOf EE.P 210 = some (Value.nilFunc) := by kernel_rfl
theorem zo_24 : zeroOf EE.P 24 = some (Value.agg #[Value.string { data := #[] }, Value.string { data := #[] }]) := by kernel_rfl
theorem zo_3 : zeroOf EE.P 3 = some (Value.int IntKind.i64 0) := by kernel_rfl
theorem zo_56 : zeroOf EE.P 56 = some (Value.agg #[Value.string { data := #[] }, Value.string { data := #[] }, Value.int IntKind.i64 0]) := by kernel_rfl
theorem zo_84 : zeroOf EE.P 84 = some (Value.nilFunc) := by kernel_rfl
theorem zo_85 : zeroOf EE.P 85 = some (Value.pointer none) := by kernel_rfl
theorem zo_93 : zeroOf EE.P 93 = some (Value.int IntKind.u64 0) := by kernel_rfl
theorem zo_95 : zeroOf EE.P 95 = some (Value.agg #[Value.bool false, Value.string { data := #[] }, Value.int IntKind.u64 0, Value.int IntKind.i64 0]) := by kernel_rfl
theorem zs_105_105 : zerosV EE.P #[105, 105] = some false := by kernel_rfl
theorem zs_128_128 : zerosV EE.P #[128, 128] = some false := by kernel_rfl
theorem zs_129_129 : zerosV EE.P #[129, 129] = some false := by kernel_rfl
theorem zs_159_159 : zerosV EE.P #[159, 159] = some false := by kernel_rfl
theorem zs_29_29 : zerosV EE.P #[29, 29] = some false := by kernel_rfl
theorem fs_36_0 {a : Addr} (h : a.spot = none ∨ a.spot = some 1) : fieldAddrV EE 36 (.pointer (some a)) 0 = some (.pointer (some ⟨a.block, a.off + 0, a.spot⟩)) := by
 obtain ⟨b, o, s⟩ := a
 rcases h with h | h
 ·
  cases h; kernel_rfl
 ·
  cases h; kernel_rfl
theorem fs_36_1 {a : Addr} (h : a.spot = none ∨ a.spot = some 1) : fieldAddrV EE 36 (.pointer (some a)) 1 = some (.pointer (some ⟨a.block, a.off + 1, a.spot⟩)) := by
 obtain ⟨b, o, s⟩ := a
 rcases h with h | h
 ·
  cases h; kernel_rfl
 ·
  cases h; kernel_rfl
theorem fs_36_2 {a : Addr} (h : a.spot = none ∨ a.spot = some 1) : fieldAddrV EE 36 (.pointer (some a)) 2 = some (.pointer (some ⟨a.block, a.off + 2, a.spot⟩)) := by
 obtain ⟨b, o, s⟩ := a
 rcases h with h | h
 ·
  cases h; kernel_rfl
 ·
  cases h; kernel_rfl
theorem fs_36_3 {a : Addr} (h : a.spot = none ∨ a.spot = some 1) : fieldAddrV EE 36 (.pointer (some a)) 3 = some (.pointer (some ⟨a.block, a.off + 3, a.spot⟩)) := by
 obtain ⟨b, o, s⟩ := a
 rcases h with h | h
 ·
  cases h; kernel_rfl
 ·
  cases h; kernel_rfl
theorem fs_56_0 {a : Addr} (h : a.spot = none ∨ a.spot = some 1) : fieldAddrV EE 56 (.pointer (some a)) 0 = some (.pointer (some ⟨a.block, a.off + 0, a.spot⟩)) := by
 obtain ⟨b, o, s⟩ := a
 rcases h with h | h
 ·
  cases h; kernel_rfl
 ·
  cases h; kernel_rfl
theorem me_108_Step : EE.meth 108 "Step" = some 176 := by kernel_rfl
theorem me_85_Step : EE.meth 85 "Step" = some 65 := by kernel_rfl
end Go.Proofs.YtndhbaidibioeaaGreat.V
