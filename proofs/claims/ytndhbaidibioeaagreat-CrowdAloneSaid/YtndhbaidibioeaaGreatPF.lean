/- Plain functions, as the program has them.
   No condition: these are laws of the clean machine and of this program. -/
import Derived.Test.YtndhbaidibioeaaGreatP0
namespace Go.Proofs.YtndhbaidibioeaaGreat.V
open Go
set_option linter.unusedVariables false
set_option linter.unusedSimpArgs false
set_option maxRecDepth 100000
def F_bst_Tree_is (p0 : Obst_Tree) (p0o0 : Omem_Mem) (p1 : Int) (p2 : Tbst_node) : Option (Bool × Obst_Tree × Omem_Mem) :=
 (getI p0.nodes p1).bind fun x6 => some ((bif (x6.top == 0) then (eqB x6.key p2.key) else false), p0, p0o0)
def F_bst_Call_tell (rc : RC) (p0 : Obst_Tree) (p0o0 : Omem_Mem) (p1 : Obst_Call) (p3 : Bool) (p4 : Int) : Option ((Option Clo) × Obst_Tree × Omem_Mem × Obst_Call) :=
 some (none, p0, p0o0, (⟨p3, p1.told_Key, p4, p1.told_Err⟩ : Obst_Call))
def F_bst_Tree_Find_1_1 (rc : RC) (p0 : Obst_Tree) (p0o0 : Omem_Mem) (p1 : Obst_Call) (p2 : Tbst_seen) (p4 : Tbst_node) : Option ((Option Clo) × Obst_Tree × Omem_Mem × Obst_Call) :=
 (F_bst_Tree_is p0 p0o0 p2.leaf p4).bind fun x8 => if (!x8.1) = true then ((F_bst_Call_tell rc x8.2.1 x8.2.2 p1 false 0).bind fun x10 => some (x10.1, x10.2.1, x10.2.2.1, x10.2.2.2)) else ((getI x8.2.1.nodes p2.leaf).bind fun x12 => (F_bst_Call_tell rc x8.2.1 x8.2.2 p1 true x12.val).bind fun x13 => some (x13.1, x13.2.1, x13.2.2.1, x13.2.2.2))
def F_bst_node_leaf (p0 : Tbst_node) : Option (Bool) :=
 some (decide (p0.cell < 0))
def F_bst_Tree_down (rc : RC) (p0 : Obst_Tree) (p0o0 : Omem_Mem) (p1 : Obst_Call) (p3 : Tbst_seen) (p4 : Tbst_node) (p5 : Clo) : Option ((Option Clo) × Obst_Tree × Omem_Mem × Obst_Call) :=
 (getI p0.nodes p3.leaf).bind fun x12 => (F_bst_node_leaf x12).bind fun x13 => if x13 = true then ((rc p0 p0o0 p1 p5 (Arg.s p3)).bind fun x15 => some (x15.1, x15.2.1, x15.2.2.1, x15.2.2.2)) else (some ((some (Clo.c_down_1 (⟨p3.parent, p3.leaf, p3.leaf, p3.parentWord, p3.parentWord, p3.turn⟩ : Tbst_seen) p4 p5)), p0, p0o0, p1))
def F_bst_Tree_search (rc : RC) (p0 : Obst_Tree) (p0o0 : Omem_Mem) (p1 : Obst_Call) (p3 : Tbst_node) (p4 : Clo) : Option ((Option Clo) × Obst_Tree × Omem_Mem × Obst_Call) :=
 (F_bst_Tree_down rc p0 p0o0 p1 (⟨0, 0, 0, 0, 0, (-1)⟩ : Tbst_seen) p3 p4).bind fun x7 => some (x7.1, x7.2.1, x7.2.2.1, x7.2.2.2)
def F_bst_Tree_insert (rc : RC) (p0 : Obst_Tree) (p0o0 : Omem_Mem) (p1 : Obst_Call) (p4 : Tbst_node) : Option ((Option Clo) × Obst_Tree × Omem_Mem × Obst_Call) :=
 (F_bst_Tree_search rc p0 p0o0 p1 p4 (Clo.c_insert_2 p4 (Clo.c_insert_1 p4))).bind fun x10 => some (x10.1, x10.2.1, x10.2.2.1, x10.2.2.2)
def F_bst_Tree_insert_1 (rc : RC) (p0 : Obst_Tree) (p0o0 : Omem_Mem) (p1 : Obst_Call) (p4 : Tbst_node) : Option ((Option Clo) × Obst_Tree × Omem_Mem × Obst_Call) :=
 (F_bst_Tree_insert rc p0 p0o0 p1 p4).bind fun x6 => some (x6.1, x6.2.1, x6.2.2.1, x6.2.2.2)
def F_word_State (p0 : Int) : Option (Int) :=
 some (IntKind.i64.wrap (andI .u64 p0 3))
def F_word_Info (p0 : Int) : Option (Int) :=
 some (IntKind.i64.wrap (shrI .u64 p0 2))
def F_bst_Tree_turn (rc : RC) (p0 : Obst_Tree) (p0o0 : Omem_Mem) (p1 : Obst_Call) (p3 : Int) (p4 : Int) (p5 : Int) (p6 : Clo) : Option ((Option Clo) × Obst_Tree × Omem_Mem × Obst_Call) :=
 some ((some (Clo.c_turn_1 p3 p5 p4 p6)), p0, p0o0, p1)
def F_bst_Tree_grows (rc : RC) (p0 : Obst_Tree) (p0o0 : Omem_Mem) (p1 : Obst_Call) (p3 : Int) (p4 : Clo) : Option ((Option Clo) × Obst_Tree × Omem_Mem × Obst_Call) :=
 (getI p0.infos p3).bind fun x11 => (F_bst_Tree_turn rc p0 p0o0 p1 x11.parent x11.leaf x11.next (Clo.c_grows_1 x11 p3 p4)).bind fun x12 => some (x12.1, x12.2.1, x12.2.2.1, x12.2.2.2)
def F_word_Pack (p0 : Int) (p1 : Int) : Option (Int) :=
 some (orI .u64 (shlI .u64 (IntKind.u64.wrap p1) 2) (andI .u64 (IntKind.u64.wrap p0) 3))
def F_bst_Tree_loses (rc : RC) (p0 : Obst_Tree) (p0o0 : Omem_Mem) (p1 : Obst_Call) (p3 : Int) (p4 : Clo) : Option ((Option Clo) × Obst_Tree × Omem_Mem × Obst_Call) :=
 (getI p0.infos p3).bind fun x11 => (F_word_Pack 3 p3).bind fun x12 => some ((some (Clo.c_loses_1 x11 x12 p3 p4)), p0, p0o0, p1)
def F_bst_Tree_goes (rc : RC) (p0 : Obst_Tree) (p0o0 : Omem_Mem) (p1 : Obst_Call) (p3 : Int) (p4 : Clo) : Option ((Option Clo) × Obst_Tree × Omem_Mem × Obst_Call) :=
 (getI p0.infos p3).bind fun x11 => some ((some (Clo.c_goes_2 x11 (Clo.c_goes_1 x11 p3 p4))), p0, p0o0, p1)
def F_bst_Tree_help (rc : RC) (p0 : Obst_Tree) (p0o0 : Omem_Mem) (p1 : Obst_Call) (p3 : Int) (p4 : Clo) : Option ((Option Clo) × Obst_Tree × Omem_Mem × Obst_Call) :=
 (F_word_Info p3).bind fun x7 => (F_word_State p3).bind fun x8 => if (x8 == 1) = true then ((F_bst_Tree_grows rc p0 p0o0 p1 x7 p4).bind fun x10 => some (x10.1, x10.2.1, x10.2.2.1, x10.2.2.2)) else (if (x8 == 2) = true then ((F_bst_Tree_loses rc p0 p0o0 p1 x7 (Clo.c_help_1 p4)).bind fun x12 => some (x12.1, x12.2.1, x12.2.2.1, x12.2.2.2)) else (if (x8 == 3) = true then ((F_bst_Tree_goes rc p0 p0o0 p1 x7 p4).bind fun x16 => some (x16.1, x16.2.1, x16.2.2.1, x16.2.2.2)) else ((rc p0 p0o0 p1 p4 Arg.u).bind fun x17 => some (x17.1, x17.2.1, x17.2.2.1, x17.2.2.2))))
def F_mem_Mem_add (p0 : Omem_Mem) (p1 : (List Int)) : Option (Omem_Mem) :=
 (appL 8 p0.cells p1).bind fun x4 => some (⟨(p0.cells ++ p1), p0.count⟩ : Omem_Mem)
def F_mem_Mem_Grow (p0 : Omem_Mem) (p1 : Int) : Option (Int × Int × Omem_Mem) :=
 (if (decide (p1 < 0)) = true then (some true) else (some (decide (p1 > (IntKind.i64.wrap (65536 - (p0.cells.length : Int)))))) : Option (Bool)).bind fun s5 => if s5 = true then (some (0, 7, p0)) else ((mkZ p1).bind fun x8 => (F_mem_Mem_add p0 x8).bind fun x9 => some ((p0.cells.length : Int), 0, x9))
def F_bst_Tree_node (p0 : Obst_Tree) (p0o0 : Omem_Mem) (p1 : Tbst_node) : Option (Int × Obst_Tree × Omem_Mem) :=
 (appL 40 p0.nodes ([p1] : List Tbst_node)).bind fun x6 => some ((IntKind.i64.wrap (((p0.nodes ++ ([p1] : List Tbst_node)).length : Int) - 1)), (⟨(p0.nodes ++ ([p1] : List Tbst_node)), p0.infos⟩ : Obst_Tree), p0o0)
def F_bst_Tree_leaf (p0 : Obst_Tree) (p0o0 : Omem_Mem) (p1 : ByteArray) (p2 : Int) (p3 : Int) : Option (Int × Obst_Tree × Omem_Mem) :=
 (F_bst_Tree_node p0 p0o0 (⟨p1, p2, p3, (-1)⟩ : Tbst_node)).bind fun x5 => some (x5.1, x5.2.1, x5.2.2)
def F_bst_node_less (p0 : Tbst_node) (p1 : Tbst_node) : Option (Bool) :=
 if (p0.top != p1.top) = true then (some (decide (p0.top < p1.top))) else (some (lessB p0.key p1.key))
def F_bst_Tree_info (p0 : Obst_Tree) (p0o0 : Omem_Mem) (p1 : Tbst_info) : Option (Int × Obst_Tree × Omem_Mem) :=
 (appL 40 p0.infos ([p1] : List Tbst_info)).bind fun x6 => some ((IntKind.i64.wrap (((p0.infos ++ ([p1] : List Tbst_info)).length : Int) - 1)), (⟨p0.nodes, (p0.infos ++ ([p1] : List Tbst_info))⟩ : Obst_Tree), p0o0)
def F_bst_Tree_grow (rc : RC) (p0 : Obst_Tree) (p0o0 : Omem_Mem) (p1 : Obst_Call) (p4 : Tbst_node) (p5 : Tbst_seen) (p6 : Int) : Option ((Option Clo) × Obst_Tree × Omem_Mem × Obst_Call) :=
 (getI p0.nodes p5.leaf).bind fun x15 => (F_bst_Tree_leaf p0 p0o0 p4.key 0 p4.val).bind fun x17 => (F_bst_Tree_leaf x17.2.1 x17.2.2 x15.key x15.top x15.val).bind fun x19 => (F_bst_node_less x15 p4).bind fun x21 => (if x21 = true then (some (p4.key, p4.top, p4.val, p4.cell, x17.1, x19.1)) else (some (x15.key, x15.top, x15.val, x15.cell, x19.1, x17.1)) : Option (ByteArray × Int × Int × Int × Int × Int)).bind fun s23 => (F_bst_Tree_node x19.2.1 x19.2.2 (⟨s23.1, s23.2.1, 0, p6⟩ : Tbst_node)).bind fun x25 => (F_bst_Tree_info x25.2.1 x25.2.2 (⟨0, p5.parent, p5.leaf, x25.1, 0⟩ : Tbst_info)).bind fun x26 => some ((some (Clo.c_grow_1 p6 s23.2.2.2.2.2 s23.2.2.2.2.1 p5 x26.1 p4)), x26.2.1, x26.2.2, p1)
def F_bst_Tree_insert_2 (rc : RC) (p0 : Obst_Tree) (p0o0 : Omem_Mem) (p1 : Obst_Call) (p2 : Tbst_seen) (p4 : Tbst_node) (p6 : Clo) : Option ((Option Clo) × Obst_Tree × Omem_Mem × Obst_Call) :=
 (F_bst_Tree_is p0 p0o0 p2.leaf p4).bind fun x9 => if x9.1 = true then ((getI x9.2.1.nodes p2.leaf).bind fun x12 => (F_bst_Call_tell rc x9.2.1 x9.2.2 p1 false x12.val).bind fun x13 => some (x13.1, x13.2.1, x13.2.2.1, x13.2.2.2)) else ((F_word_State p2.parentWord).bind fun x15 => if (x15 != 0) = true then ((F_bst_Tree_help rc x9.2.1 x9.2.2 p1 p2.parentWord p6).bind fun x17 => some (x17.1, x17.2.1, x17.2.2.1, x17.2.2.2)) else ((F_mem_Mem_Grow x9.2.2 3).bind fun x19 => if (x19.2.1 != 0) = true then (some (none, x9.2.1, x19.2.2, (⟨false, p4.key, 0, x19.2.1⟩ : Obst_Call))) else ((F_bst_Tree_grow rc x9.2.1 x19.2.2 p1 p4 p2 x19.1).bind fun x24 => some (x24.1, x24.2.1, x24.2.2.1, x24.2.2.2))))
def F_bst_Tree_remove (rc : RC) (p0 : Obst_Tree) (p0o0 : Omem_Mem) (p1 : Obst_Call) (p4 : Tbst_node) : Option ((Option Clo) × Obst_Tree × Omem_Mem × Obst_Call) :=
 (F_bst_Tree_search rc p0 p0o0 p1 p4 (Clo.c_remove_2 p4 (Clo.c_remove_1 p4))).bind fun x10 => some (x10.1, x10.2.1, x10.2.2.1, x10.2.2.2)
def F_bst_Tree_remove_1 (rc : RC) (p0 : Obst_Tree) (p0o0 : Omem_Mem) (p1 : Obst_Call) (p4 : Tbst_node) : Option ((Option Clo) × Obst_Tree × Omem_Mem × Obst_Call) :=
 (F_bst_Tree_remove rc p0 p0o0 p1 p4).bind fun x6 => some (x6.1, x6.2.1, x6.2.2.1, x6.2.2.2)
def F_bst_Tree_remove_2 (rc : RC) (p0 : Obst_Tree) (p0o0 : Omem_Mem) (p1 : Obst_Call) (p2 : Tbst_seen) (p4 : Tbst_node) (p6 : Clo) : Option ((Option Clo) × Obst_Tree × Omem_Mem × Obst_Call) :=
 (F_bst_Tree_is p0 p0o0 p2.leaf p4).bind fun x9 => if (!x9.1) = true then ((F_bst_Call_tell rc x9.2.1 x9.2.2 p1 false 0).bind fun x11 => some (x11.1, x11.2.1, x11.2.2.1, x11.2.2.2)) else ((F_word_State p2.grandWord).bind fun x12 => if (x12 != 0) = true then ((F_bst_Tree_help rc x9.2.1 x9.2.2 p1 p2.grandWord p6).bind fun x14 => some (x14.1, x14.2.1, x14.2.2.1, x14.2.2.2)) else ((F_word_State p2.parentWord).bind fun x15 => if (x15 != 0) = true then ((F_bst_Tree_help rc x9.2.1 x9.2.2 p1 p2.parentWord p6).bind fun x17 => some (x17.1, x17.2.1, x17.2.2.1, x17.2.2.2)) else ((F_bst_Tree_info x9.2.1 x9.2.2 (⟨p2.grand, p2.parent, p2.leaf, 0, p2.parentWord⟩ : Tbst_info)).bind fun x18 => (getI x18.2.1.nodes p2.leaf).bind fun x22 => some ((some (Clo.c_remove_2_1 p2 x18.1 p6 x22.val)), x18.2.1, x18.2.2, p1))))
def F_bst_Tree_cell (p0 : Obst_Tree) (p0o0 : Omem_Mem) (p1 : Int) (p2 : Int) : Option (Int × Obst_Tree × Omem_Mem) :=
 (getI p0.nodes p1).bind fun x5 => some ((IntKind.i64.wrap (x5.cell + p2)), p0, p0o0)
def F_mem_Mem_CAS (p0 : Omem_Mem) (p1 : Int) (p2 : Int) (p3 : Int) : Option (Int × Bool × Omem_Mem) :=
 match getI p0.cells p1 with | none => some (0, false, p0) | some x5 => (if (x5 == p2) = true then (some (setI p0.cells p1 p3)) else (some p0.cells) : Option ((List Int))).bind fun s11 => some (x5, (x5 == p2), (⟨s11, (IntKind.i64.wrap (p0.count + 1))⟩ : Omem_Mem))
def F_bst_Tree_remove_2_1 (rc : RC) (p0 : Obst_Tree) (p0o0 : Omem_Mem) (p1 : Obst_Call) (p3 : Tbst_seen) (p4 : Int) (p5 : Clo) (p7 : Int) : Option ((Option Clo) × Obst_Tree × Omem_Mem × Obst_Call) :=
 (F_bst_Tree_cell p0 p0o0 p3.grand 0).bind fun x10 => (F_word_Pack 2 p4).bind fun x13 => (F_mem_Mem_CAS x10.2.2 x10.1 p3.grandWord x13).bind fun x14 => if (!x14.2.1) = true then ((F_bst_Tree_help rc x10.2.1 x14.2.2 p1 x14.1 p5).bind fun x16 => some (x16.1, x16.2.1, x16.2.2.1, x16.2.2.2)) else ((F_bst_Tree_loses rc x10.2.1 x14.2.2 p1 p4 (Clo.c_remove_2_1_1 p5 p7)).bind fun x18 => some (x18.1, x18.2.1, x18.2.2.1, x18.2.2.2))
def F_bst_Tree_remove_2_1_1 (rc : RC) (p0 : Obst_Tree) (p0o0 : Omem_Mem) (p1 : Obst_Call) (p2 : Bool) (p3 : Clo) (p5 : Int) : Option ((Option Clo) × Obst_Tree × Omem_Mem × Obst_Call) :=
 if (!p2) = true then ((rc p0 p0o0 p1 p3 Arg.u).bind fun x8 => some (x8.1, x8.2.1, x8.2.2.1, x8.2.2.2)) else ((F_bst_Call_tell rc p0 p0o0 p1 true p5).bind fun x9 => some (x9.1, x9.2.1, x9.2.2.1, x9.2.2.2))
def F_mem_Mem_Load (p0 : Omem_Mem) (p1 : Int) : Option (Int × Int × Omem_Mem) :=
 match getI p0.cells p1 with | none => some (0, 1, p0) | some x3 => some (x3, 0, (⟨p0.cells, (IntKind.i64.wrap (p0.count + 1))⟩ : Omem_Mem))
def F_bst_Tree_down_1 (rc : RC) (p0 : Obst_Tree) (p0o0 : Omem_Mem) (p1 : Obst_Call) (p3 : Tbst_seen) (p4 : Tbst_node) (p5 : Clo) : Option ((Option Clo) × Obst_Tree × Omem_Mem × Obst_Call) :=
 (F_bst_Tree_cell p0 p0o0 p3.parent 0).bind fun x8 => (F_mem_Mem_Load x8.2.2 x8.1).bind fun x11 => some ((some (Clo.c_down_1_1 (⟨p3.grand, p3.parent, p3.leaf, p3.grandWord, x11.1, p3.turn⟩ : Tbst_seen) p4 p5)), x8.2.1, x11.2.2, p1)
def F_bst_Tree_side (p0 : Obst_Tree) (p0o0 : Omem_Mem) (p1 : Int) (p2 : Tbst_node) : Option (Int × Obst_Tree × Omem_Mem) :=
 (getI p0.nodes p1).bind fun x6 => (F_bst_node_less p2 x6).bind fun x7 => if x7 = true then ((F_bst_Tree_cell p0 p0o0 p1 1).bind fun x9 => some (x9.1, x9.2.1, x9.2.2)) else ((F_bst_Tree_cell p0 p0o0 p1 2).bind fun x11 => some (x11.1, x11.2.1, x11.2.2))
def F_bst_Tree_down_1_1 (rc : RC) (p0 : Obst_Tree) (p0o0 : Omem_Mem) (p1 : Obst_Call) (p3 : Tbst_seen) (p4 : Tbst_node) (p5 : Clo) : Option ((Option Clo) × Obst_Tree × Omem_Mem × Obst_Call) :=
 (F_bst_Tree_side p0 p0o0 p3.parent p4).bind fun x7 => (F_bst_Tree_cell x7.2.1 x7.2.2 p3.parent 1).bind fun x8 => (if (x7.1 == x8.1) = true then (some p3.parent) else (some p3.turn) : Option (Int)).bind fun s10 => (F_mem_Mem_Load x8.2.2 x7.1).bind fun x12 => (F_bst_Tree_down rc x8.2.1 x12.2.2 p1 (⟨p3.grand, p3.parent, (IntKind.i64.wrap x12.1), p3.grandWord, p3.parentWord, s10⟩ : Tbst_seen) p4 p5).bind fun x13 => some (x13.1, x13.2.1, x13.2.2.1, x13.2.2.2)
def F_bst_Tree_help_1 (rc : RC) (p0 : Obst_Tree) (p0o0 : Omem_Mem) (p1 : Obst_Call) (p2 : Bool) (p3 : Clo) : Option ((Option Clo) × Obst_Tree × Omem_Mem × Obst_Call) :=
 (rc p0 p0o0 p1 p3 Arg.u).bind fun x5 => some (x5.1, x5.2.1, x5.2.2.1, x5.2.2.2)
def F_mem_Mem_Store (p0 : Omem_Mem) (p1 : Int) (p2 : Int) : Option (Int × Omem_Mem) :=
 match getI p0.cells p1 with | none => some (1, p0) | some x4 => some (0, (⟨(setI p0.cells p1 p2), (IntKind.i64.wrap (p0.count + 1))⟩ : Omem_Mem))
def F_bst_Tree_grow_1 (rc : RC) (p0 : Obst_Tree) (p0o0 : Omem_Mem) (p1 : Obst_Call) (p3 : Int) (p4 : Int) (p5 : Int) (p6 : Tbst_seen) (p7 : Int) (p9 : Tbst_node) : Option ((Option Clo) × Obst_Tree × Omem_Mem × Obst_Call) :=
 (F_mem_Mem_Store p0o0 (IntKind.i64.wrap (p3 + 1)) (IntKind.u64.wrap p4)).bind fun x12 => some ((some (Clo.c_grow_1_1 p3 p5 p6 p7 p9)), p0, x12.2, p1)
def F_bst_Tree_grow_1_1 (rc : RC) (p0 : Obst_Tree) (p0o0 : Omem_Mem) (p1 : Obst_Call) (p3 : Int) (p4 : Int) (p5 : Tbst_seen) (p6 : Int) (p8 : Tbst_node) : Option ((Option Clo) × Obst_Tree × Omem_Mem × Obst_Call) :=
 (F_mem_Mem_Store p0o0 (IntKind.i64.wrap (p3 + 2)) (IntKind.u64.wrap p4)).bind fun x11 => some ((some (Clo.c_grow_1_1_1 p5 p6 p8)), p0, x11.2, p1)
def F_bst_Tree_grow_1_1_1 (rc : RC) (p0 : Obst_Tree) (p0o0 : Omem_Mem) (p1 : Obst_Call) (p3 : Tbst_seen) (p4 : Int) (p6 : Tbst_node) : Option ((Option Clo) × Obst_Tree × Omem_Mem × Obst_Call) :=
 (F_bst_Tree_cell p0 p0o0 p3.parent 0).bind fun x9 => (F_word_Pack 1 p4).bind fun x12 => (F_mem_Mem_CAS x9.2.2 x9.1 p3.parentWord x12).bind fun x13 => if (!x13.2.1) = true then ((F_bst_Tree_help rc x9.2.1 x13.2.2 p1 x13.1 (Clo.c_grow_1_1_1_1 p6)).bind fun x15 => some (x15.1, x15.2.1, x15.2.2.1, x15.2.2.2)) else ((F_bst_Tree_grows rc x9.2.1 x13.2.2 p1 p4 (Clo.c_grow_1_1_1_2 p6)).bind fun x18 => some (x18.1, x18.2.1, x18.2.2.1, x18.2.2.2))
def F_bst_Tree_grow_1_1_1_1 (rc : RC) (p0 : Obst_Tree) (p0o0 : Omem_Mem) (p1 : Obst_Call) (p4 : Tbst_node) : Option ((Option Clo) × Obst_Tree × Omem_Mem × Obst_Call) :=
 (F_bst_Tree_insert rc p0 p0o0 p1 p4).bind fun x6 => some (x6.1, x6.2.1, x6.2.2.1, x6.2.2.2)
def F_bst_Tree_grow_1_1_1_2 (rc : RC) (p0 : Obst_Tree) (p0o0 : Omem_Mem) (p1 : Obst_Call) (p3 : Tbst_node) : Option ((Option Clo) × Obst_Tree × Omem_Mem × Obst_Call) :=
 (F_bst_Call_tell rc p0 p0o0 p1 true p3.val).bind fun x5 => some (x5.1, x5.2.1, x5.2.2.1, x5.2.2.2)
def F_bst_Tree_loses_1 (rc : RC) (p0 : Obst_Tree) (p0o0 : Omem_Mem) (p1 : Obst_Call) (p3 : Tbst_info) (p4 : Int) (p5 : Int) (p6 : Clo) : Option ((Option Clo) × Obst_Tree × Omem_Mem × Obst_Call) :=
 (F_bst_Tree_cell p0 p0o0 p3.parent 0).bind fun x9 => (F_mem_Mem_CAS x9.2.2 x9.1 p3.was p4).bind fun x12 => if (bif x12.2.1 then true else (x12.1 == p4)) = true then ((F_bst_Tree_goes rc x9.2.1 x12.2.2 p1 p5 (Clo.c_loses_1_1 p6)).bind fun x14 => some (x14.1, x14.2.1, x14.2.2.1, x14.2.2.2)) else ((F_bst_Tree_help rc x9.2.1 x12.2.2 p1 x12.1 (Clo.c_loses_1_2 p3 p5 p6)).bind fun x17 => some (x17.1, x17.2.1, x17.2.2.1, x17.2.2.2))
def F_bst_Tree_loses_1_1 (rc : RC) (p0 : Obst_Tree) (p0o0 : Omem_Mem) (p1 : Obst_Call) (p2 : Clo) : Option ((Option Clo) × Obst_Tree × Omem_Mem × Obst_Call) :=
 (rc p0 p0o0 p1 p2 (Arg.b true)).bind fun x4 => some (x4.1, x4.2.1, x4.2.2.1, x4.2.2.2)
def F_bst_Tree_clean (rc : RC) (p0 : Obst_Tree) (p0o0 : Omem_Mem) (p1 : Obst_Call) (p3 : Int) (p4 : Int) (p5 : Int) (p6 : Clo) : Option ((Option Clo) × Obst_Tree × Omem_Mem × Obst_Call) :=
 some ((some (Clo.c_clean_1 p3 p4 p5 p6)), p0, p0o0, p1)
def F_bst_Tree_loses_1_2 (rc : RC) (p0 : Obst_Tree) (p0o0 : Omem_Mem) (p1 : Obst_Call) (p3 : Tbst_info) (p4 : Int) (p5 : Clo) : Option ((Option Clo) × Obst_Tree × Omem_Mem × Obst_Call) :=
 (F_bst_Tree_clean rc p0 p0o0 p1 p3.grand 2 p4 (Clo.c_loses_1_2_1 p5)).bind fun x7 => some (x7.1, x7.2.1, x7.2.2.1, x7.2.2.2)
def F_bst_Tree_loses_1_2_1 (rc : RC) (p0 : Obst_Tree) (p0o0 : Omem_Mem) (p1 : Obst_Call) (p2 : Clo) : Option ((Option Clo) × Obst_Tree × Omem_Mem × Obst_Call) :=
 (rc p0 p0o0 p1 p2 (Arg.b false)).bind fun x4 => some (x4.1, x4.2.1, x4.2.2.1, x4.2.2.2)
def F_bst_Tree_grows_1 (rc : RC) (p0 : Obst_Tree) (p0o0 : Omem_Mem) (p1 : Obst_Call) (p3 : Tbst_info) (p4 : Int) (p5 : Clo) : Option ((Option Clo) × Obst_Tree × Omem_Mem × Obst_Call) :=
 (F_bst_Tree_clean rc p0 p0o0 p1 p3.parent 1 p4 p5).bind fun x7 => some (x7.1, x7.2.1, x7.2.2.1, x7.2.2.2)
def F_bst_Tree_goes_1 (rc : RC) (p0 : Obst_Tree) (p0o0 : Omem_Mem) (p1 : Obst_Call) (p2 : Int) (p4 : Tbst_info) (p5 : Int) (p6 : Clo) : Option ((Option Clo) × Obst_Tree × Omem_Mem × Obst_Call) :=
 (F_bst_Tree_turn rc p0 p0o0 p1 p4.grand p4.parent (IntKind.i64.wrap p2) (Clo.c_goes_1_1 p4 p5 p6)).bind fun x8 => some (x8.1, x8.2.1, x8.2.2.1, x8.2.2.2)
def F_bst_Tree_goes_1_1 (rc : RC) (p0 : Obst_Tree) (p0o0 : Omem_Mem) (p1 : Obst_Call) (p3 : Tbst_info) (p4 : Int) (p5 : Clo) : Option ((Option Clo) × Obst_Tree × Omem_Mem × Obst_Call) :=
 (F_bst_Tree_clean rc p0 p0o0 p1 p3.grand 2 p4 p5).bind fun x7 => some (x7.1, x7.2.1, x7.2.2.1, x7.2.2.2)
def F_bst_Tree_goes_2 (rc : RC) (p0 : Obst_Tree) (p0o0 : Omem_Mem) (p1 : Obst_Call) (p3 : Tbst_info) (p4 : Clo) : Option ((Option Clo) × Obst_Tree × Omem_Mem × Obst_Call) :=
 (F_bst_Tree_cell p0 p0o0 p3.parent 2).bind fun x7 => (F_mem_Mem_Load x7.2.2 x7.1).bind fun x10 => if ((IntKind.i64.wrap x10.1) != p3.leaf) = true then ((rc x7.2.1 x10.2.2 p1 p4 (Arg.w x10.1)).bind fun x12 => some (x12.1, x12.2.1, x12.2.2.1, x12.2.2.2)) else (some ((some (Clo.c_goes_2_1 p3 p4)), x7.2.1, x10.2.2, p1))
def F_bst_Tree_goes_2_1 (rc : RC) (p0 : Obst_Tree) (p0o0 : Omem_Mem) (p1 : Obst_Call) (p3 : Tbst_info) (p4 : Clo) : Option ((Option Clo) × Obst_Tree × Omem_Mem × Obst_Call) :=
 (F_bst_Tree_cell p0 p0o0 p3.parent 1).bind fun x7 => (F_mem_Mem_Load x7.2.2 x7.1).bind fun x10 => (rc x7.2.1 x10.2.2 p1 p4 (Arg.w x10.1)).bind fun x11 => some (x11.1, x11.2.1, x11.2.2.1, x11.2.2.2)
def F_bst_Tree_clean_1 (rc : RC) (p0 : Obst_Tree) (p0o0 : Omem_Mem) (p1 : Obst_Call) (p3 : Int) (p4 : Int) (p5 : Int) (p6 : Clo) : Option ((Option Clo) × Obst_Tree × Omem_Mem × Obst_Call) :=
 (F_bst_Tree_cell p0 p0o0 p3 0).bind fun x9 => (F_word_Pack p4 p5).bind fun x12 => (F_word_Pack 0 p5).bind fun x13 => (F_mem_Mem_CAS x9.2.2 x9.1 x12 x13).bind fun x14 => (rc x9.2.1 x14.2.2 p1 p6 Arg.u).bind fun x15 => some (x15.1, x15.2.1, x15.2.2.1, x15.2.2.2)
def F_bst_Tree_turn_1 (rc : RC) (p0 : Obst_Tree) (p0o0 : Omem_Mem) (p1 : Obst_Call) (p3 : Int) (p4 : Int) (p5 : Int) (p6 : Clo) : Option ((Option Clo) × Obst_Tree × Omem_Mem × Obst_Call) :=
 (getI p0.nodes p4).bind fun x9 => (F_bst_Tree_side p0 p0o0 p3 x9).bind fun x10 => (F_mem_Mem_CAS x10.2.2 x10.1 (IntKind.u64.wrap p5) (IntKind.u64.wrap p4)).bind fun x13 => (rc x10.2.1 x13.2.2 p1 p6 Arg.u).bind fun x14 => some (x14.1, x14.2.1, x14.2.2.1, x14.2.2.2)
def F_step : Nat → RC
 | 0 => fun _ _ _ _ _ => none
 | n + 1 => fun p0 p0o0 p1 x a => match x with
  | .c_Find_1_1 y0 => (match a with | .s z => F_bst_Tree_Find_1_1 (F_step n) p0 p0o0 p1 z y0 | _ => none)
  | .c_insert_1 y0 => (match a with | .u => F_bst_Tree_insert_1 (F_step n) p0 p0o0 p1  y0 | _ => none)
  | .c_insert_2 y0 y1 => (match a with | .s z => F_bst_Tree_insert_2 (F_step n) p0 p0o0 p1 z y0 y1 | _ => none)
  | .c_remove_1 y0 => (match a with | .u => F_bst_Tree_remove_1 (F_step n) p0 p0o0 p1  y0 | _ => none)
  | .c_remove_2 y0 y1 => (match a with | .s z => F_bst_Tree_remove_2 (F_step n) p0 p0o0 p1 z y0 y1 | _ => none)
  | .c_remove_2_1 y0 y1 y2 y3 => (match a with | .u => F_bst_Tree_remove_2_1 (F_step n) p0 p0o0 p1  y0 y1 y2 y3 | _ => none)
  | .c_remove_2_1_1 y0 y1 => (match a with | .b z => F_bst_Tree_remove_2_1_1 (F_step n) p0 p0o0 p1 z y0 y1 | _ => none)
  | .c_down_1 y0 y1 y2 => (match a with | .u => F_bst_Tree_down_1 (F_step n) p0 p0o0 p1  y0 y1 y2 | _ => none)
  | .c_down_1_1 y0 y1 y2 => (match a with | .u => F_bst_Tree_down_1_1 (F_step n) p0 p0o0 p1  y0 y1 y2 | _ => none)
  | .c_help_1 y0 => (match a with | .b z => F_bst_Tree_help_1 (F_step n) p0 p0o0 p1 z y0 | _ => none)
  | .c_grow_1 y0 y1 y2 y3 y4 y5 => (match a with | .u => F_bst_Tree_grow_1 (F_step n) p0 p0o0 p1  y0 y1 y2 y3 y4 y5 | _ => none)
  | .c_grow_1_1 y0 y1 y2 y3 y4 => (match a with | .u => F_bst_Tree_grow_1_1 (F_step n) p0 p0o0 p1  y0 y1 y2 y3 y4 | _ => none)
  | .c_grow_1_1_1 y0 y1 y2 => (match a with | .u => F_bst_Tree_grow_1_1_1 (F_step n) p0 p0o0 p1  y0 y1 y2 | _ => none)
  | .c_grow_1_1_1_1 y0 => (match a with | .u => F_bst_Tree_grow_1_1_1_1 (F_step n) p0 p0o0 p1  y0 | _ => none)
  | .c_grow_1_1_1_2 y0 => (match a with | .u => F_bst_Tree_grow_1_1_1_2 (F_step n) p0 p0o0 p1  y0 | _ => none)
  | .c_loses_1 y0 y1 y2 y3 => (match a with | .u => F_bst_Tree_loses_1 (F_step n) p0 p0o0 p1  y0 y1 y2 y3 | _ => none)
  | .c_loses_1_1 y0 => (match a with | .u => F_bst_Tree_loses_1_1 (F_step n) p0 p0o0 p1  y0 | _ => none)
  | .c_loses_1_2 y0 y1 y2 => (match a with | .u => F_bst_Tree_loses_1_2 (F_step n) p0 p0o0 p1  y0 y1 y2 | _ => none)
  | .c_loses_1_2_1 y0 => (match a with | .u => F_bst_Tree_loses_1_2_1 (F_step n) p0 p0o0 p1  y0 | _ => none)
  | .c_grows_1 y0 y1 y2 => (match a with | .u => F_bst_Tree_grows_1 (F_step n) p0 p0o0 p1  y0 y1 y2 | _ => none)
  | .c_goes_1 y0 y1 y2 => (match a with | .w z => F_bst_Tree_goes_1 (F_step n) p0 p0o0 p1 z y0 y1 y2 | _ => none)
  | .c_goes_1_1 y0 y1 y2 => (match a with | .u => F_bst_Tree_goes_1_1 (F_step n) p0 p0o0 p1  y0 y1 y2 | _ => none)
  | .c_goes_2 y0 y1 => (match a with | .u => F_bst_Tree_goes_2 (F_step n) p0 p0o0 p1  y0 y1 | _ => none)
  | .c_goes_2_1 y0 y1 => (match a with | .u => F_bst_Tree_goes_2_1 (F_step n) p0 p0o0 p1  y0 y1 | _ => none)
  | .c_clean_1 y0 y1 y2 y3 => (match a with | .u => F_bst_Tree_clean_1 (F_step n) p0 p0o0 p1  y0 y1 y2 y3 | _ => none)
  | .c_turn_1 y0 y1 y2 y3 => (match a with | .u => F_bst_Tree_turn_1 (F_step n) p0 p0o0 p1  y0 y1 y2 y3 | _ => none)
def F_bst_Tree_Find_1 (rc : RC) (p0 : Obst_Tree) (p0o0 : Omem_Mem) (p1 : Obst_Call) (p3 : Tbst_node) : Option ((Option Clo) × Obst_Tree × Omem_Mem × Obst_Call) :=
 (F_bst_Tree_search rc p0 p0o0 p1 p3 (Clo.c_Find_1_1 p3)).bind fun x8 => some (x8.1, x8.2.1, x8.2.2.1, x8.2.2.2)
def F_bst_Tree_call_bst_Tree_Find_1 (n : Nat) (p0 : Obst_Tree) (p0o0 : Omem_Mem) (p1 : ByteArray) : Option (Obst_Call_2 × Obst_Tree × Omem_Mem) :=
 (F_bst_Tree_Find_1 (F_step n) p0 p0o0 (⟨false, p1, 0, 0⟩ : Obst_Call) (⟨p1, 0, 0, 0⟩ : Tbst_node)).bind fun x6 => some ((⟨x6.2.2.2.told_Ok, x6.2.2.2.told_Key, x6.2.2.2.told_Val, x6.2.2.2.told_Err, x6.1⟩ : Obst_Call_2), x6.2.1, x6.2.2.1)
def F_bst_Tree_Find (n : Nat) (p0 : Obst_Tree) (p0o0 : Omem_Mem) (p1 : ByteArray) : Option (Obst_Call_2 × Obst_Tree × Omem_Mem) :=
 (F_bst_Tree_call_bst_Tree_Find_1 n p0 p0o0 p1).bind fun x4 => some (x4.1, x4.2.1, x4.2.2)
def F_bst_Tree_Delete_1 (rc : RC) (p0 : Obst_Tree) (p0o0 : Omem_Mem) (p1 : Obst_Call) (p3 : Tbst_node) : Option ((Option Clo) × Obst_Tree × Omem_Mem × Obst_Call) :=
 (F_bst_Tree_remove rc p0 p0o0 p1 p3).bind fun x7 => some (x7.1, x7.2.1, x7.2.2.1, x7.2.2.2)
def F_bst_Tree_call_bst_Tree_Delete_1 (n : Nat) (p0 : Obst_Tree) (p0o0 : Omem_Mem) (p1 : ByteArray) : Option (Obst_Call_2 × Obst_Tree × Omem_Mem) :=
 (F_bst_Tree_Delete_1 (F_step n) p0 p0o0 (⟨false, p1, 0, 0⟩ : Obst_Call) (⟨p1, 0, 0, 0⟩ : Tbst_node)).bind fun x6 => some ((⟨x6.2.2.2.told_Ok, x6.2.2.2.told_Key, x6.2.2.2.told_Val, x6.2.2.2.told_Err, x6.1⟩ : Obst_Call_2), x6.2.1, x6.2.2.1)
def F_bst_Tree_Delete (n : Nat) (p0 : Obst_Tree) (p0o0 : Omem_Mem) (p1 : ByteArray) : Option (Obst_Call_2 × Obst_Tree × Omem_Mem) :=
 (F_bst_Tree_call_bst_Tree_Delete_1 n p0 p0o0 p1).bind fun x4 => some (x4.1, x4.2.1, x4.2.2)
def F_bst_Tree_Insert_1 (rc : RC) (p0 : Obst_Tree) (p0o0 : Omem_Mem) (p1 : Obst_Call) (p3 : Tbst_node) (p4 : Int) : Option ((Option Clo) × Obst_Tree × Omem_Mem × Obst_Call) :=
 (F_bst_Tree_insert rc p0 p0o0 p1 (⟨p3.key, p3.top, p4, p3.cell⟩ : Tbst_node)).bind fun x8 => some (x8.1, x8.2.1, x8.2.2.1, x8.2.2.2)
def F_bst_Tree_call_bst_Tree_Insert_1 (n : Nat) (p0 : Obst_Tree) (p0o0 : Omem_Mem) (p1 : ByteArray) (p2c0 : Int) : Option (Obst_Call_2 × Obst_Tree × Omem_Mem) :=
 (F_bst_Tree_Insert_1 (F_step n) p0 p0o0 (⟨false, p1, 0, 0⟩ : Obst_Call) (⟨p1, 0, 0, 0⟩ : Tbst_node) p2c0).bind fun x6 => some ((⟨x6.2.2.2.told_Ok, x6.2.2.2.told_Key, x6.2.2.2.told_Val, x6.2.2.2.told_Err, x6.1⟩ : Obst_Call_2), x6.2.1, x6.2.2.1)
def F_bst_Tree_Insert (n : Nat) (p0 : Obst_Tree) (p0o0 : Omem_Mem) (p1 : ByteArray) (p2 : Int) : Option (Obst_Call_2 × Obst_Tree × Omem_Mem) :=
 (F_bst_Tree_call_bst_Tree_Insert_1 n p0 p0o0 p1 p2).bind fun x6 => some (x6.1, x6.2.1, x6.2.2)
def F_bst_Call_Step (n : Nat) (p0 : Obst_Tree) (p0o0 : Omem_Mem) (p1 : Obst_Call_2) : Option (Bool × Obst_Tree × Omem_Mem × Obst_Call_2) :=
 if (p1.next).isNone = true then (some (true, p0, p0o0, p1)) else ((p1.next).bind fun x7 => ((F_step n) p0 p0o0 (⟨p1.told_Ok, p1.told_Key, p1.told_Val, p1.told_Err⟩ : Obst_Call) x7 Arg.u).bind fun x6 => some ((x6.1).isNone, x6.2.1, x6.2.2.1, (⟨x6.2.2.2.told_Ok, x6.2.2.2.told_Key, x6.2.2.2.told_Val, x6.2.2.2.told_Err, x6.1⟩ : Obst_Call_2)))
def F_bst_Call_Answer (p0 : Obst_Tree) (p0o0 : Omem_Mem) (p1 : Obst_Call_2) : Option (Tbst_Answer × Bool × Obst_Tree × Omem_Mem × Obst_Call_2) :=
 if (p1.next).isSome = true then (some ((⟨false, ByteArray.empty, 0, 0⟩ : Tbst_Answer), false, p0, p0o0, p1)) else (some ((⟨p1.told_Ok, p1.told_Key, p1.told_Val, p1.told_Err⟩ : Tbst_Answer), true, p0, p0o0, p1))
def F_bst_Run_L1 (n : Nat) : Nat → (Obst_Tree × Omem_Mem) → (Obst_Call_2) → Option ((Obst_Tree × Omem_Mem) × (Obst_Call_2))
 | 0, _, _ => none
 | m7 + 1, y7_0, y7_1 => (F_bst_Call_Step n y7_0.1 y7_0.2 y7_1).bind fun x8 => if (!x8.1) = true then (F_bst_Run_L1 n m7 (x8.2.1, x8.2.2.1) x8.2.2.2) else (some ((x8.2.1, x8.2.2.1), x8.2.2.2))
def F_bst_Run (n : Nat) (p0 : Obst_Tree) (p0o0 : Omem_Mem) (p1 : Obst_Call_2) : Option (Tbst_Answer × Obst_Tree × Omem_Mem × Obst_Call_2) :=
 (F_bst_Run_L1 n n (p0, p0o0) p1 : Option ((Obst_Tree × Omem_Mem) × (Obst_Call_2))).bind fun s4 => (F_bst_Call_Answer s4.1.1 s4.1.2 s4.2).bind fun x5 => some (x5.1, x5.2.2.1, x5.2.2.2.1, x5.2.2.2.2)
def F_mem_New_nil  : Option (Omem_Mem) :=
 some (⟨([] : List Int), 0⟩ : Omem_Mem)
def F_bst_New (p0 : Omem_Mem) : Option (Obst_Tree × Omem_Mem) :=
 (F_mem_Mem_Grow p0 3).bind fun x2 => if (x2.2.1 != 0) = true then none else ((F_bst_Tree_info (⟨([] : List Tbst_node), ([] : List Tbst_info)⟩ : Obst_Tree) x2.2.2 (⟨0, 0, 0, 0, 0⟩ : Tbst_info)).bind fun x5 => (F_bst_Tree_node x5.2.1 x5.2.2 (⟨ByteArray.empty, 2, 0, x2.1⟩ : Tbst_node)).bind fun x7 => (F_bst_Tree_leaf x7.2.1 x7.2.2 ByteArray.empty 1 0).bind fun x9 => (F_mem_Mem_Store x9.2.2 (IntKind.i64.wrap (x2.1 + 1)) (IntKind.u64.wrap x9.1)).bind fun x12 => (F_bst_Tree_leaf x9.2.1 x12.2 ByteArray.empty 2 0).bind fun x13 => (F_mem_Mem_Store x13.2.2 (IntKind.i64.wrap (x2.1 + 2)) (IntKind.u64.wrap x13.1)).bind fun x16 => some (x13.2.1, x16.2))
def F_mem_Mem_Peek (p0 : Omem_Mem) (p1 : Int) : Option (Int × Int × Omem_Mem) :=
 match getI p0.cells p1 with | none => some (0, 1, p0) | some x3 => some (x3, 0, (⟨p0.cells, (IntKind.i64.wrap ((IntKind.i64.wrap (p0.count + 1)) - 1))⟩ : Omem_Mem))
def F_bst_Tree_peek (p0 : Obst_Tree) (p0o0 : Omem_Mem) (p1 : Int) : Option (Int × Obst_Tree × Omem_Mem) :=
 (F_mem_Mem_Peek p0o0 p1).bind fun x4 => some ((IntKind.i64.wrap x4.1), p0, x4.2.2)
def F_bst_Tree_Keys_1 : Nat → Obst_Tree → Omem_Mem → Int → O_string → Option (Obst_Tree × Omem_Mem × O_string)
 | 0, _, _, _, _ => none
 | n + 1, p0, p0o0, p1, p4 => (getI p0.nodes p1).bind fun x7 => (F_bst_node_leaf x7).bind fun x9 => if (!x9) = true then ((F_bst_Tree_peek p0 p0o0 (IntKind.i64.wrap (x7.cell + 1))).bind fun x11 => (F_bst_Tree_Keys_1 n x11.2.1 x11.2.2 x11.1 p4).bind fun x13 => (F_bst_Tree_peek x13.1 x13.2.1 (IntKind.i64.wrap (x7.cell + 2))).bind fun x14 => (F_bst_Tree_Keys_1 n x14.2.1 x14.2.2 x14.1 x13.2.2).bind fun x15 => some (x15.1, x15.2.1, x15.2.2)) else (if (x7.top == 0) = true then ((appL 16 p4.v ([x7.key] : List ByteArray)).bind fun x19 => some (p0, p0o0, (⟨(p4.v ++ ([x7.key] : List ByteArray))⟩ : O_string))) else (some (p0, p0o0, p4)))
def F_bst_Tree_Keys (n : Nat) (p0 : Obst_Tree) (p0o0 : Omem_Mem) : Option ((List ByteArray) × Obst_Tree × Omem_Mem) :=
 (F_bst_Tree_Keys_1 n p0 p0o0 0 (⟨([] : List ByteArray)⟩ : O_string)).bind fun x6 => some (x6.2.2.v, x6.1, x6.2.1)
def F_math_bits_Mul64 (p0 : Int) (p1 : Int) : Option (Int × Int) :=
 some ((IntKind.u64.wrap ((IntKind.u64.wrap ((IntKind.u64.wrap ((shrI .u64 p0 32) * (shrI .u64 p1 32))) + (shrI .u64 (IntKind.u64.wrap ((IntKind.u64.wrap ((shrI .u64 p0 32) * (andI .u64 p1 4294967295))) + (shrI .u64 (IntKind.u64.wrap ((andI .u64 p0 4294967295) * (andI .u64 p1 4294967295))) 32))) 32))) + (shrI .u64 (IntKind.u64.wrap ((andI .u64 (IntKind.u64.wrap ((IntKind.u64.wrap ((shrI .u64 p0 32) * (andI .u64 p1 4294967295))) + (shrI .u64 (IntKind.u64.wrap ((andI .u64 p0 4294967295) * (andI .u64 p1 4294967295))) 32))) 4294967295) + (IntKind.u64.wrap ((andI .u64 p0 4294967295) * (shrI .u64 p1 32))))) 32))), (IntKind.u64.wrap (p0 * p1)))
def F_math_bits_Mul (p0 : Int) (p1 : Int) : Option (Int × Int) :=
 (F_math_bits_Mul64 p0 p1).bind fun x4 => some (x4.1, x4.2)
def F_crowd_Crowd_Idle (p0 : Ocrowd_Crowd) (p1 : Int) : Option (Bool × Ocrowd_Crowd) :=
 match getI p0.threads p1 with | none => some (false, p0) | some x3 => some ((decide (x3.at_ < 0)), (⟨(setI p0.threads p1 ⟨x3.call, x3.at_⟩), p0.calls, p0.clock⟩ : Ocrowd_Crowd))
def F_crowd_Crowd_Calls (p0 : Ocrowd_Crowd) : Option ((List Torder_Call) × Ocrowd_Crowd) :=
 (cloneL 48 p0.calls).bind fun x4 => some (x4, p0)
def F_crowd_Crowd_note (p0 : Ocrowd_Crowd) (p1 : (List Torder_Call)) : Option (Ocrowd_Crowd) :=
 (appL 48 p0.calls p1).bind fun x4 => some (⟨p0.threads, (p0.calls ++ p1), p0.clock⟩ : Ocrowd_Crowd)
def F_crowd_Crowd_Begin (p0 : Ocrowd_Crowd) (p1 : Int) (p2 : Obst_Call_2) (p3 : Int) (p4 : ByteArray) : Option (Int × Ocrowd_Crowd) :=
 match getI p0.threads p1 with | none => some (1, p0) | some x6 => if (decide (x6.at_ ≥ 0)) = true then (some (8, (⟨(setI p0.threads p1 ⟨x6.call, x6.at_⟩), p0.calls, p0.clock⟩ : Ocrowd_Crowd))) else ((F_crowd_Crowd_note (⟨(setI p0.threads p1 ⟨(some p2), (p0.calls.length : Int)⟩), p0.calls, p0.clock⟩ : Ocrowd_Crowd) ([(⟨p3, p4, false, p0.clock, (-1)⟩ : Torder_Call)] : List Torder_Call)).bind fun x16 => some (0, (⟨x16.threads, x16.calls, (IntKind.i64.wrap (x16.clock + 1))⟩ : Ocrowd_Crowd)))
def F_crowd_Crowd_Pick (n : Nat) (p0 : Obst_Tree) (p0o0 : Omem_Mem) (p1 : Ocrowd_Crowd) (p2 : Int) : Option (Bool × Obst_Tree × Omem_Mem × Ocrowd_Crowd) :=
 match getI p1.threads p2 with | none => some (false, p0, p0o0, p1) | some x4 => if (decide (x4.at_ < 0)) = true then (some (false, p0, p0o0, (⟨(setI p1.threads p2 ⟨x4.call, x4.at_⟩), p1.calls, p1.clock⟩ : Ocrowd_Crowd))) else ((x4.call).bind fun x11 => (F_bst_Call_Step n p0 p0o0 x11).bind fun x12 => if x12.1 = true then ((F_bst_Call_Answer x12.2.1 x12.2.2.1 x12.2.2.2).bind fun x14 => (getI p1.calls x4.at_).bind fun x16 => if (x14.1.Err == 0) = true then (some (true, x14.2.2.1, x14.2.2.2.1, (⟨(setI p1.threads p2 ⟨none, (-1)⟩), (setI (setI p1.calls x4.at_ (⟨x16.Kind, x16.Key, x14.1.Ok, x16.Inv, x16.Ret⟩ : Torder_Call)) x4.at_ (⟨x16.Kind, x16.Key, x14.1.Ok, x16.Inv, p1.clock⟩ : Torder_Call)), (IntKind.i64.wrap (p1.clock + 1))⟩ : Ocrowd_Crowd))) else (some (true, x14.2.2.1, x14.2.2.2.1, (⟨(setI p1.threads p2 ⟨none, (-1)⟩), p1.calls, (IntKind.i64.wrap (p1.clock + 1))⟩ : Ocrowd_Crowd)))) else (some (true, x12.2.1, x12.2.2.1, (⟨(setI p1.threads p2 ⟨(some x12.2.2.2), x4.at_⟩), p1.calls, (IntKind.i64.wrap (p1.clock + 1))⟩ : Ocrowd_Crowd))))
def F_crowd_New_nil  : Option (Ocrowd_Crowd) :=
 (repN 4).bind fun x4 => some (⟨(List.replicate x4 (⟨none, -1⟩ : Th Obst_Call_2)), ([] : List Torder_Call), 0⟩ : Ocrowd_Crowd)
def F_law16_do (n : Nat) (p0 : Obst_Tree) (p0o0 : Omem_Mem) (p1 : Ocrowd_Crowd) (p2 : Timpostlaw16_Deed) : Option (Int × Obst_Tree × Omem_Mem × Ocrowd_Crowd) :=
 if (p2.Kind == 1) = true then ((F_bst_Tree_Insert n p0 p0o0 p2.Key 5).bind fun x6 => (F_crowd_Crowd_Begin p1 p2.T x6.1 1 p2.Key).bind fun x7 => some (x7.1, x6.2.1, x6.2.2, x7.2)) else (if (p2.Kind == 2) = true then ((F_bst_Tree_Delete n p0 p0o0 p2.Key).bind fun x9 => (F_crowd_Crowd_Begin p1 p2.T x9.1 2 p2.Key).bind fun x10 => some (x10.1, x9.2.1, x9.2.2, x10.2)) else (if (p2.Kind == 3) = true then ((F_bst_Tree_Find n p0 p0o0 p2.Key).bind fun x12 => (F_crowd_Crowd_Begin p1 p2.T x12.1 3 p2.Key).bind fun x13 => some (x13.1, x12.2.1, x12.2.2, x13.2)) else ((F_crowd_Crowd_Pick n p0 p0o0 p1 p2.T).bind fun x14 => some (0, x14.2.1, x14.2.2.1, x14.2.2.2))))
def F_law16_begun_L1 (n : Nat) : (List ByteArray) → Nat → (Obst_Tree × Omem_Mem) → Option ((Obst_Tree × Omem_Mem))
 | [], _, y6_0 => some (y6_0.1, y6_0.2)
 | z6 :: r6, i6, y6_0 => if (decide ((i6 : Int) < 20)) = true then ((F_bst_Tree_Insert n y6_0.1 y6_0.2 z6 1).bind fun x10 => (F_bst_Run n x10.2.1 x10.2.2 x10.1).bind fun x11 => F_law16_begun_L1 n r6 (i6 + 1) (x11.2.1, x11.2.2.1)) else (some (y6_0.1, y6_0.2))
def F_law16_begun (n : Nat) (p0 : (List ByteArray)) : Option (Obst_Tree × Omem_Mem × Ocrowd_Crowd) :=
 (F_mem_New_nil ).bind fun x2 => (F_bst_New x2).bind fun x3 => (F_law16_begun_L1 n p0 0 (x3.1, x3.2) : Option ((Obst_Tree × Omem_Mem))).bind fun s4 => (F_crowd_New_nil ).bind fun x5 => some (s4.1, s4.2, x5)
def F_ref14_In_L1 (p1 : ByteArray) : (List ByteArray) → Nat → Option (Lp (Unit) (Bool))
 | [], _ => some (.go ())
 | z4 :: r4, i4 => if (eqB z4 p1) = true then (some (.out true)) else (F_ref14_In_L1 p1 r4 (i4 + 1))
def F_ref14_In (p0 : (List ByteArray)) (p1 : ByteArray) : Option (Bool) :=
 (F_ref14_In_L1 p1 p0 0 : Option (Lp (Unit) (Bool))).bind fun s3 => lpK s3 fun u3 => some false
def F_ref14_Do_L1 (p1 : Timpostref14_Call) : (List ByteArray) → Nat → (List ByteArray) → Option ((List ByteArray))
 | [], _, y12_0 => some y12_0
 | z12 :: r12, i12, y12_0 => (if (!eqB z12 p1.Key) = true then ((appL 16 y12_0 ([z12] : List ByteArray)).bind fun x20 => some (y12_0 ++ ([z12] : List ByteArray))) else (some y12_0) : Option ((List ByteArray))).bind fun s17 => F_ref14_Do_L1 p1 r12 (i12 + 1) s17
def F_ref14_Do (p0 : (List ByteArray)) (p1 : Timpostref14_Call) : Option ((List ByteArray) × Bool) :=
 (F_ref14_In p0 p1.Key).bind fun x4 => if (bif (p1.Kind != 1) then (p1.Kind != 2) else false) = true then (some (p0, x4)) else ((F_ref14_Do_L1 p1 p0 0 ([] : List ByteArray) : Option ((List ByteArray))).bind fun s6 => if (p1.Kind == 2) = true then (some (s6, x4)) else ((appL 16 s6 ([p1.Key] : List ByteArray)).bind fun x10 => some ((s6 ++ ([p1.Key] : List ByteArray)), (!x4))))
def F_ref15_Same_L1 (p1 : (List ByteArray)) : (List ByteArray) → Nat → Option (Lp (Unit) (Bool))
 | [], _ => some (.go ())
 | z5 :: r5, i5 => (getI p1 (i5 : Int)).bind fun x9 => if (!eqB z5 x9) = true then (some (.out false)) else (F_ref15_Same_L1 p1 r5 (i5 + 1))
def F_ref15_Same (p0 : (List ByteArray)) (p1 : (List ByteArray)) : Option (Bool) :=
 if ((p0.length : Int) != (p1.length : Int)) = true then (some false) else ((F_ref15_Same_L1 p1 p0 0 : Option (Lp (Unit) (Bool))).bind fun s4 => lpK s4 fun u4 => some true)
def F_ref15_Kept_L2 (z4 : ByteArray) : (List ByteArray) → Nat → Option (Int × Int × Bool × Bool × Bool)
 | [], i23 => some ((i23 : Int), (i23 : Int), false, false, false)
 | z23 :: r23, i23 => if (lessB z23 z4) = true then (F_ref15_Kept_L2 z4 r23 (i23 + 1)) else (some ((i23 : Int), (i23 : Int), true, true, (lessB z23 z4)))
def F_ref15_Kept_L1 : (List ByteArray) → Nat → (List ByteArray) → Option ((List ByteArray))
 | [], _, y4_0 => some y4_0
 | z4 :: r4, i4, y4_0 => ((F_ref15_Kept_L2 z4 y4_0 0 : Option (Int × Int × Bool × Bool × Bool)).bind fun s8 => (if (decide (s8.1 < (y4_0.length : Int))) = true then ((getI y4_0 s8.1).bind fun x21 => some (true, (eqB x21 z4))) else (some (false, false)) : Option (Bool × Bool)).bind fun s10 => if s10.2 = true then (some (y4_0, s8.1, s8.2.1, s8.2.2.1, s8.2.2.2.1, s8.2.2.2.2, s8.1, (decide (s8.1 < (y4_0.length : Int))), s10.1, s10.2)) else ((subL0 y4_0 0 s8.1).bind fun x13 => (appL 16 ([] : List ByteArray) x13).bind fun x15 => (appL 16 (([] : List ByteArray) ++ x13) ([z4] : List ByteArray)).bind fun x18 => (subL0 y4_0 s8.1 (y4_0.length : Int)).bind fun x19 => (appL 16 ((([] : List ByteArray) ++ x13) ++ ([z4] : List ByteArray)) x19).bind fun x20 => some ((((([] : List ByteArray) ++ x13) ++ ([z4] : List ByteArray)) ++ x19), s8.1, s8.2.1, s8.2.2.1, s8.2.2.2.1, s8.2.2.2.2, s8.1, (decide (s8.1 < (y4_0.length : Int))), s10.1, s10.2)) : Option ((List ByteArray) × Int × Int × Bool × Bool × Bool × Int × Bool × Bool × Bool)).bind fun s7 => F_ref15_Kept_L1 r4 (i4 + 1) s7.1
def F_ref15_Kept (p0 : (List ByteArray)) : Option ((List ByteArray)) :=
 (F_ref15_Kept_L1 p0 0 ([] : List ByteArray) : Option ((List ByteArray))).bind fun s2 => some s2
def F_law16_CrowdAlone_L2 (n : Nat) : Nat → Int → (Obst_Tree × Omem_Mem) → (Ocrowd_Crowd) → Option (Int × Int × Bool × Bool × Bool × (Obst_Tree × Omem_Mem) × (Ocrowd_Crowd))
 | 0, _, _, _ => none
 | m27 + 1, y27_0, y27_1, y27_2 => (if (decide (y27_0 < 2000)) = true then ((F_crowd_Crowd_Idle y27_2 2).bind fun x32 => some (true, (!x32.1), x32.2)) else (some (false, false, y27_2)) : Option (Bool × Bool × (Ocrowd_Crowd))).bind fun s29 => if s29.2.1 = true then ((F_crowd_Crowd_Pick n y27_1.1 y27_1.2 s29.2.2 2).bind fun x31 => F_law16_CrowdAlone_L2 n m27 (IntKind.i64.wrap (y27_0 + 1)) (x31.2.1, x31.2.2.1) x31.2.2.2) else (some (y27_0, y27_0, (decide (y27_0 < 2000)), s29.1, s29.2.1, (y27_1.1, y27_1.2), s29.2.2))
def F_law16_CrowdAlone_L1 (n : Nat) : (List Timpostlaw16_Deed) → Nat → (List ByteArray) → (Obst_Tree × Omem_Mem) → (Ocrowd_Crowd) → Option (Lp ((List ByteArray) × (Obst_Tree × Omem_Mem) × (Ocrowd_Crowd)) (Bool))
 | [], _, y9_0, y9_1, y9_2 => some (.go (y9_0, (y9_1.1, y9_1.2), y9_2))
 | z9 :: r9, i9, y9_0, y9_1, y9_2 => (if (bif (decide (z9.Kind < 1)) then true else (decide (z9.Kind > 3))) = true then (some (.go (y9_0, (y9_1.1, y9_1.2), y9_2))) else ((F_law16_do n y9_1.1 y9_1.2 y9_2 (⟨z9.Kind, 2, z9.Key⟩ : Timpostlaw16_Deed)).bind fun x16 => (F_law16_CrowdAlone_L2 n n 0 (x16.2.1, x16.2.2.1) x16.2.2.2 : Option (Int × Int × Bool × Bool × Bool × (Obst_Tree × Omem_Mem) × (Ocrowd_Crowd))).bind fun s17 => (F_ref14_Do y9_0 (⟨z9.Kind, z9.Key, false, 0, 0⟩ : Timpostref14_Call)).bind fun x18 => (F_crowd_Crowd_Calls s17.2.2.2.2.2.2).bind fun x19 => (if ((x19.1.length : Int) == 0) = true then (some (true, true)) else ((getI x19.1 (IntKind.i64.wrap ((x19.1.length : Int) - 1))).bind fun x26 => some (false, (!(x26.Ok == x18.2)))) : Option (Bool × Bool)).bind fun s21 => (if s21.2 = true then (some (true, true)) else ((getI x19.1 (IntKind.i64.wrap ((x19.1.length : Int) - 1))).bind fun x25 => some (false, (decide (x25.Ret < 0)))) : Option (Bool × Bool)).bind fun s23 => if s23.2 = true then (some (.out false)) else (some (.go (x18.1, (s17.2.2.2.2.2.1.1, s17.2.2.2.2.2.1.2), x19.2)))) : Option (Lp ((List ByteArray) × (Obst_Tree × Omem_Mem) × (Ocrowd_Crowd)) (Bool))).bind fun s12 => lpK2 s12 fun u12 => F_law16_CrowdAlone_L1 n r9 (i9 + 1) u12.1 (u12.2.1.1, u12.2.1.2) u12.2.2
def F_law16_CrowdAlone (n : Nat) (p0 : (List Timpostlaw16_Deed)) : Option (Bool) :=
 if (decide ((p0.length : Int) > 60)) = true then (some true) else ((F_law16_begun n ([] : List ByteArray)).bind fun x4 => (F_law16_CrowdAlone_L1 n p0 0 ([] : List ByteArray) (x4.1, x4.2.1) x4.2.2 : Option (Lp ((List ByteArray) × (Obst_Tree × Omem_Mem) × (Ocrowd_Crowd)) (Bool))).bind fun s5 => lpK s5 fun u5 => (F_bst_Tree_Keys n u5.2.1.1 u5.2.1.2).bind fun x6 => (F_ref15_Kept u5.1).bind fun x7 => (F_ref15_Same x6.1 x7).bind fun x8 => some x8)
end Go.Proofs.YtndhbaidibioeaaGreat.V
