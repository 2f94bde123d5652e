/- Plain functions, as the program has them.
   No condition: these are laws of the clean machine and of this program. -/
import Derived.Test.YtndhbaidibioeaaGreatP0
namespace Go.Proofs.YtndhbaidibioeaaGreat.V
open Go
set_option linter.unusedVariables false
set_option linter.unusedSimpArgs false
set_option maxRecDepth 100000
def F_bst_Tree_is (p0 : Obst_Tree) (p0o0 : Omem_Mem) (p1 : Int) (p2 : Tbst_node) : Option (Bool × Obst_Tree × Omem_Mem) :=
 (getI p0.nodes p1).bind fun x6 => some ((bif (x6.top == 0) then (eqB x6.key p2.key) else false), p0, p0o0)
def F_bst_Call_tell (rc : RC) (p0 : Obst_Tree) (p0o0 : Omem_Mem) (p1 : Obst_Call) (p3 : Bool) (p4 : Int) : Option ((Option Clo) × Obst_Tree × Omem_Mem × Obst_Call) :=
 some (none, p0, p0o0, (⟨p3, p1.told_Key, p4, p1.told_Err⟩ : Obst_Call))
def F_bst_Tree_Find_1_1 (rc : RC) (p0 : Obst_Tree) (p0o0 : Omem_Mem) (p1 : Obst_Call) (p2 : Tbst_seen) (p4 : Tbst_node) : Option ((Option Clo) × Obst_Tree × Omem_Mem × Obst_Call) :=
 (F_bst_Tree_is p0 p0o0 p2.leaf p4).bind fun x8 => if (!x8.1) = true then ((F_bst_Call_tell rc x8.2.1 x8.2.2 p1 false 0).bind fun x10 => some (x10.1, x10.2.1, x10.2.2.1, x10.2.2.2)) else ((getI x8.2.1.nodes p2.leaf).bind fun x12 => (F_bst_Call_tell rc x8.2.1 x8.2.2 p1 true x12.val).bind fun x13 => some (x13.1, x13.2.1, x13.2.2.1, x13.2.2.2))
def F_bst_node_less (p0 : Tbst_node) (p1 : Tbst_node) : Option (Bool) :=
 if (p0.top != p1.top) = true then (some (decide (p0.top < p1.top))) else (some (lessB p0.key p1.key))
def F_bst_Call_found (rc : RC) (p0 : Obst_Tree) (p0o0 : Omem_Mem) (p1 : Obst_Call) (p3 : Tbst_node) : Option ((Option Clo) × Obst_Tree × Omem_Mem × Obst_Call) :=
 (F_bst_Call_tell rc p0 p0o0 (⟨p1.told_Ok, p3.key, p1.told_Val, p1.told_Err⟩ : Obst_Call) true p3.val).bind fun x7 => some (x7.1, x7.2.1, x7.2.2.1, x7.2.2.2)
def F_bst_Tree_cell (p0 : Obst_Tree) (p0o0 : Omem_Mem) (p1 : Int) (p2 : Int) : Option (Int × Obst_Tree × Omem_Mem) :=
 (getI p0.nodes p1).bind fun x5 => some ((IntKind.i64.wrap (x5.cell + p2)), p0, p0o0)
def F_bst_Tree_least (rc : RC) (p0 : Obst_Tree) (p0o0 : Omem_Mem) (p1 : Obst_Call) (p4 : Int) : Option ((Option Clo) × Obst_Tree × Omem_Mem × Obst_Call) :=
 some ((some (Clo.c_least_1 p4)), p0, p0o0, p1)
def F_bst_Tree_Seek_1_1 (rc : RC) (p0 : Obst_Tree) (p0o0 : Omem_Mem) (p1 : Obst_Call) (p2 : Tbst_seen) (p4 : Tbst_node) : Option ((Option Clo) × Obst_Tree × Omem_Mem × Obst_Call) :=
 (getI p0.nodes p2.leaf).bind fun x10 => (if (x10.top == 0) = true then ((F_bst_node_less x10 p4).bind fun x22 => some (!x22)) else (some false) : Option (Bool)).bind fun s12 => if s12 = true then ((F_bst_Call_found rc p0 p0o0 p1 x10).bind fun x14 => some (x14.1, x14.2.1, x14.2.2.1, x14.2.2.2)) else (if (decide (p2.turn < 0)) = true then ((F_bst_Call_tell rc p0 p0o0 p1 false 0).bind fun x17 => some (x17.1, x17.2.1, x17.2.2.1, x17.2.2.2)) else ((F_bst_Tree_cell p0 p0o0 p2.turn 2).bind fun x19 => (F_bst_Tree_least rc x19.2.1 x19.2.2 p1 x19.1).bind fun x21 => some (x21.1, x21.2.1, x21.2.2.1, x21.2.2.2)))
def F_bst_node_leaf (p0 : Tbst_node) : Option (Bool) :=
 some (decide (p0.cell < 0))
def F_bst_Tree_down (rc : RC) (p0 : Obst_Tree) (p0o0 : Omem_Mem) (p1 : Obst_Call) (p3 : Tbst_seen) (p4 : Tbst_node) (p5 : Clo) : Option ((Option Clo) × Obst_Tree × Omem_Mem × Obst_Call) :=
 (getI p0.nodes p3.leaf).bind fun x12 => (F_bst_node_leaf x12).bind fun x13 => if x13 = true then ((rc p0 p0o0 p1 p5 (Arg.s p3)).bind fun x15 => some (x15.1, x15.2.1, x15.2.2.1, x15.2.2.2)) else (some ((some (Clo.c_down_1 (⟨p3.parent, p3.leaf, p3.leaf, p3.parentWord, p3.parentWord, p3.turn⟩ : Tbst_seen) p4 p5)), p0, p0o0, p1))
def F_bst_Tree_search (rc : RC) (p0 : Obst_Tree) (p0o0 : Omem_Mem) (p1 : Obst_Call) (p3 : Tbst_node) (p4 : Clo) : Option ((Option Clo) × Obst_Tree × Omem_Mem × Obst_Call) :=
 (F_bst_Tree_down rc p0 p0o0 p1 (⟨0, 0, 0, 0, 0, (-1)⟩ : Tbst_seen) p3 p4).bind fun x7 => some (x7.1, x7.2.1, x7.2.2.1, x7.2.2.2)
def F_bst_Tree_insert (rc : RC) (p0 : Obst_Tree) (p0o0 : Omem_Mem) (p1 : Obst_Call) (p4 : Tbst_node) : Option ((Option Clo) × Obst_Tree × Omem_Mem × Obst_Call) :=
 (F_bst_Tree_search rc p0 p0o0 p1 p4 (Clo.c_insert_2 p4 (Clo.c_insert_1 p4))).bind fun x10 => some (x10.1, x10.2.1, x10.2.2.1, x10.2.2.2)
def F_bst_Tree_insert_1 (rc : RC) (p0 : Obst_Tree) (p0o0 : Omem_Mem) (p1 : Obst_Call) (p4 : Tbst_node) : Option ((Option Clo) × Obst_Tree × Omem_Mem × Obst_Call) :=
 (F_bst_Tree_insert rc p0 p0o0 p1 p4).bind fun x6 => some (x6.1, x6.2.1, x6.2.2.1, x6.2.2.2)
def F_word_State (p0 : Int) : Option (Int) :=
 some (IntKind.i64.wrap (andI .u64 p0 3))
def F_word_Info (p0 : Int) : Option (Int) :=
 some (IntKind.i64.wrap (shrI .u64 p0 2))
def F_bst_Tree_turn (rc : RC) (p0 : Obst_Tree) (p0o0 : Omem_Mem) (p1 : Obst_Call) (p3 : Int) (p4 : Int) (p5 : Int) (p6 : Clo) : Option ((Option Clo) × Obst_Tree × Omem_Mem × Obst_Call) :=
 some ((some (Clo.c_turn_1 p3 p5 p4 p6)), p0, p0o0, p1)
def F_bst_Tree_grows (rc : RC) (p0 : Obst_Tree) (p0o0 : Omem_Mem) (p1 : Obst_Call) (p3 : Int) (p4 : Clo) : Option ((Option Clo) × Obst_Tree × Omem_Mem × Obst_Call) :=
 (getI p0.infos p3).bind fun x11 => (F_bst_Tree_turn rc p0 p0o0 p1 x11.parent x11.leaf x11.next (Clo.c_grows_1 x11 p3 p4)).bind fun x12 => some (x12.1, x12.2.1, x12.2.2.1, x12.2.2.2)
def F_word_Pack (p0 : Int) (p1 : Int) : Option (Int) :=
 some (orI .u64 (shlI .u64 (IntKind.u64.wrap p1) 2) (andI .u64 (IntKind.u64.wrap p0) 3))
def F_bst_Tree_loses (rc : RC) (p0 : Obst_Tree) (p0o0 : Omem_Mem) (p1 : Obst_Call) (p3 : Int) (p4 : Clo) : Option ((Option Clo) × Obst_Tree × Omem_Mem × Obst_Call) :=
 (getI p0.infos p3).bind fun x11 => (F_word_Pack 3 p3).bind fun x12 => some ((some (Clo.c_loses_1 x11 x12 p3 p4)), p0, p0o0, p1)
def F_bst_Tree_goes (rc : RC) (p0 : Obst_Tree) (p0o0 : Omem_Mem) (p1 : Obst_Call) (p3 : Int) (p4 : Clo) : Option ((Option Clo) × Obst_Tree × Omem_Mem × Obst_Call) :=
 (getI p0.infos p3).bind fun x11 => some ((some (Clo.c_goes_2 x11 (Clo.c_goes_1 x11 p3 p4))), p0, p0o0, p1)
def F_bst_Tree_help (rc : RC) (p0 : Obst_Tree) (p0o0 : Omem_Mem) (p1 : Obst_Call) (p3 : Int) (p4 : Clo) : Option ((Option Clo) × Obst_Tree × Omem_Mem × Obst_Call) :=
 (F_word_Info p3).bind fun x7 => (F_word_State p3).bind fun x8 => if (x8 == 1) = true then ((F_bst_Tree_grows rc p0 p0o0 p1 x7 p4).bind fun x10 => some (x10.1, x10.2.1, x10.2.2.1, x10.2.2.2)) else (if (x8 == 2) = true then ((F_bst_Tree_loses rc p0 p0o0 p1 x7 (Clo.c_help_1 p4)).bind fun x12 => some (x12.1, x12.2.1, x12.2.2.1, x12.2.2.2)) else (if (x8 == 3) = true then ((F_bst_Tree_goes rc p0 p0o0 p1 x7 p4).bind fun x16 => some (x16.1, x16.2.1, x16.2.2.1, x16.2.2.2)) else ((rc p0 p0o0 p1 p4 Arg.u).bind fun x17 => some (x17.1, x17.2.1, x17.2.2.1, x17.2.2.2))))
def F_mem_Mem_add (p0 : Omem_Mem) (p1 : (List Int)) : Option (Omem_Mem) :=
 (appL 8 p0.cells p1).bind fun x4 => some (⟨(p0.cells ++ p1), p0.count⟩ : Omem_Mem)
def F_mem_Mem_Grow (p0 : Omem_Mem) (p1 : Int) : Option (Int × Int × Omem_Mem) :=
 (if (decide (p1 < 0)) = true then (some true) else (some (decide (p1 > (IntKind.i64.wrap (65536 - (p0.cells.length : Int)))))) : Option (Bool)).bind fun s5 => if s5 = true then (some (0, 7, p0)) else ((mkZ p1).bind fun x8 => (F_mem_Mem_add p0 x8).bind fun x9 => some ((p0.cells.length : Int), 0, x9))
def F_bst_Tree_node (p0 : Obst_Tree) (p0o0 : Omem_Mem) (p1 : Tbst_node) : Option (Int × Obst_Tree × Omem_Mem) :=
 (appL 40 p0.nodes ([p1] : List Tbst_node)).bind fun x6 => some ((IntKind.i64.wrap (((p0.nodes ++ ([p1] : List Tbst_node)).length : Int) - 1)), (⟨(p0.nodes ++ ([p1] : List Tbst_node)), p0.infos⟩ : Obst_Tree), p0o0)
def F_bst_Tree_leaf (p0 : Obst_Tree) (p0o0 : Omem_Mem) (p1 : ByteArray) (p2 : Int) (p3 : Int) : Option (Int × Obst_Tree × Omem_Mem) :=
 (F_bst_Tree_node p0 p0o0 (⟨p1, p2, p3, (-1)⟩ : Tbst_node)).bind fun x5 => some (x5.1, x5.2.1, x5.2.2)
def F_bst_Tree_info (p0 : Obst_Tree) (p0o0 : Omem_Mem) (p1 : Tbst_info) : Option (Int × Obst_Tree × Omem_Mem) :=
 (appL 40 p0.infos ([p1] : List Tbst_info)).bind fun x6 => some ((IntKind.i64.wrap (((p0.infos ++ ([p1] : List Tbst_info)).length : Int) - 1)), (⟨p0.nodes, (p0.infos ++ ([p1] : List Tbst_info))⟩ : Obst_Tree), p0o0)
def F_bst_Tree_grow (rc : RC) (p0 : Obst_Tree) (p0o0 : Omem_Mem) (p1 : Obst_Call) (p4 : Tbst_node) (p5 : Tbst_seen) (p6 : Int) : Option ((Option Clo) × Obst_Tree × Omem_Mem × Obst_Call) :=
 (getI p0.nodes p5.leaf).bind fun x15 => (F_bst_Tree_leaf p0 p0o0 p4.key 0 p4.val).bind fun x17 => (F_bst_Tree_leaf x17.2.1 x17.2.2 x15.key x15.top x15.val).bind fun x19 => (F_bst_node_less x15 p4).bind fun x21 => (if x21 = true then (some (p4.key, p4.top, p4.val, p4.cell, x17.1, x19.1)) else (some (x15.key, x15.top, x15.val, x15.cell, x19.1, x17.1)) : Option (ByteArray × Int × Int × Int × Int × Int)).bind fun s23 => (F_bst_Tree_node x19.2.1 x19.2.2 (⟨s23.1, s23.2.1, 0, p6⟩ : Tbst_node)).bind fun x25 => (F_bst_Tree_info x25.2.1 x25.2.2 (⟨0, p5.parent, p5.leaf, x25.1, 0⟩ : Tbst_info)).bind fun x26 => some ((some (Clo.c_grow_1 p6 s23.2.2.2.2.2 s23.2.2.2.2.1 p5 x26.1 p4)), x26.2.1, x26.2.2, p1)
def F_bst_Tree_insert_2 (rc : RC) (p0 : Obst_Tree) (p0o0 : Omem_Mem) (p1 : Obst_Call) (p2 : Tbst_seen) (p4 : Tbst_node) (p6 : Clo) : Option ((Option Clo) × Obst_Tree × Omem_Mem × Obst_Call) :=
 (F_bst_Tree_is p0 p0o0 p2.leaf p4).bind fun x9 => if x9.1 = true then ((getI x9.2.1.nodes p2.leaf).bind fun x12 => (F_bst_Call_tell rc x9.2.1 x9.2.2 p1 false x12.val).bind fun x13 => some (x13.1, x13.2.1, x13.2.2.1, x13.2.2.2)) else ((F_word_State p2.parentWord).bind fun x15 => if (x15 != 0) = true then ((F_bst_Tree_help rc x9.2.1 x9.2.2 p1 p2.parentWord p6).bind fun x17 => some (x17.1, x17.2.1, x17.2.2.1, x17.2.2.2)) else ((F_mem_Mem_Grow x9.2.2 3).bind fun x19 => if (x19.2.1 != 0) = true then (some (none, x9.2.1, x19.2.2, (⟨false, p4.key, 0, x19.2.1⟩ : Obst_Call))) else ((F_bst_Tree_grow rc x9.2.1 x19.2.2 p1 p4 p2 x19.1).bind fun x24 => some (x24.1, x24.2.1, x24.2.2.1, x24.2.2.2))))
def F_mem_Mem_Load (p0 : Omem_Mem) (p1 : Int) : Option (Int × Int × Omem_Mem) :=
 match getI p0.cells p1 with | none => some (0, 1, p0) | some x3 => some (x3, 0, (⟨p0.cells, (IntKind.i64.wrap (p0.count + 1))⟩ : Omem_Mem))
def F_bst_Tree_down_1 (rc : RC) (p0 : Obst_Tree) (p0o0 : Omem_Mem) (p1 : Obst_Call) (p3 : Tbst_seen) (p4 : Tbst_node) (p5 : Clo) : Option ((Option Clo) × Obst_Tree × Omem_Mem × Obst_Call) :=
 (F_bst_Tree_cell p0 p0o0 p3.parent 0).bind fun x8 => (F_mem_Mem_Load x8.2.2 x8.1).bind fun x11 => some ((some (Clo.c_down_1_1 (⟨p3.grand, p3.parent, p3.leaf, p3.grandWord, x11.1, p3.turn⟩ : Tbst_seen) p4 p5)), x8.2.1, x11.2.2, p1)
def F_bst_Tree_side (p0 : Obst_Tree) (p0o0 : Omem_Mem) (p1 : Int) (p2 : Tbst_node) : Option (Int × Obst_Tree × Omem_Mem) :=
 (getI p0.nodes p1).bind fun x6 => (F_bst_node_less p2 x6).bind fun x7 => if x7 = true then ((F_bst_Tree_cell p0 p0o0 p1 1).bind fun x9 => some (x9.1, x9.2.1, x9.2.2)) else ((F_bst_Tree_cell p0 p0o0 p1 2).bind fun x11 => some (x11.1, x11.2.1, x11.2.2))
def F_bst_Tree_down_1_1 (rc : RC) (p0 : Obst_Tree) (p0o0 : Omem_Mem) (p1 : Obst_Call) (p3 : Tbst_seen) (p4 : Tbst_node) (p5 : Clo) : Option ((Option Clo) × Obst_Tree × Omem_Mem × Obst_Call) :=
 (F_bst_Tree_side p0 p0o0 p3.parent p4).bind fun x7 => (F_bst_Tree_cell x7.2.1 x7.2.2 p3.parent 1).bind fun x8 => (if (x7.1 == x8.1) = true then (some p3.parent) else (some p3.turn) : Option (Int)).bind fun s10 => (F_mem_Mem_Load x8.2.2 x7.1).bind fun x12 => (F_bst_Tree_down rc x8.2.1 x12.2.2 p1 (⟨p3.grand, p3.parent, (IntKind.i64.wrap x12.1), p3.grandWord, p3.parentWord, s10⟩ : Tbst_seen) p4 p5).bind fun x13 => some (x13.1, x13.2.1, x13.2.2.1, x13.2.2.2)
def F_bst_Tree_least_1 (rc : RC) (p0 : Obst_Tree) (p0o0 : Omem_Mem) (p1 : Obst_Call) (p3 : Int) : Option ((Option Clo) × Obst_Tree × Omem_Mem × Obst_Call) :=
 (F_mem_Mem_Load p0o0 p3).bind fun x7 => (getI p0.nodes x7.1).bind fun x8 => (F_bst_node_leaf x8).bind fun x10 => if (!x10) = true then ((F_bst_Tree_cell p0 x7.2.2 (IntKind.i64.wrap x7.1) 1).bind fun x12 => (F_bst_Tree_least rc x12.2.1 x12.2.2 p1 x12.1).bind fun x14 => some (x14.1, x14.2.1, x14.2.2.1, x14.2.2.2)) else (if (decide (x8.top > 0)) = true then ((F_bst_Call_tell rc p0 x7.2.2 p1 false 0).bind fun x16 => some (x16.1, x16.2.1, x16.2.2.1, x16.2.2.2)) else ((F_bst_Call_found rc p0 x7.2.2 p1 x8).bind fun x18 => some (x18.1, x18.2.1, x18.2.2.1, x18.2.2.2)))
def F_bst_Tree_help_1 (rc : RC) (p0 : Obst_Tree) (p0o0 : Omem_Mem) (p1 : Obst_Call) (p2 : Bool) (p3 : Clo) : Option ((Option Clo) × Obst_Tree × Omem_Mem × Obst_Call) :=
 (rc p0 p0o0 p1 p3 Arg.u).bind fun x5 => some (x5.1, x5.2.1, x5.2.2.1, x5.2.2.2)
def F_mem_Mem_Store (p0 : Omem_Mem) (p1 : Int) (p2 : Int) : Option (Int × Omem_Mem) :=
 match getI p0.cells p1 with | none => some (1, p0) | some x4 => some (0, (⟨(setI p0.cells p1 p2), (IntKind.i64.wrap (p0.count + 1))⟩ : Omem_Mem))
def F_bst_Tree_grow_1 (rc : RC) (p0 : Obst_Tree) (p0o0 : Omem_Mem) (p1 : Obst_Call) (p3 : Int) (p4 : Int) (p5 : Int) (p6 : Tbst_seen) (p7 : Int) (p9 : Tbst_node) : Option ((Option Clo) × Obst_Tree × Omem_Mem × Obst_Call) :=
 (F_mem_Mem_Store p0o0 (IntKind.i64.wrap (p3 + 1)) (IntKind.u64.wrap p4)).bind fun x12 => some ((some (Clo.c_grow_1_1 p3 p5 p6 p7 p9)), p0, x12.2, p1)
def F_bst_Tree_grow_1_1 (rc : RC) (p0 : Obst_Tree) (p0o0 : Omem_Mem) (p1 : Obst_Call) (p3 : Int) (p4 : Int) (p5 : Tbst_seen) (p6 : Int) (p8 : Tbst_node) : Option ((Option Clo) × Obst_Tree × Omem_Mem × Obst_Call) :=
 (F_mem_Mem_Store p0o0 (IntKind.i64.wrap (p3 + 2)) (IntKind.u64.wrap p4)).bind fun x11 => some ((some (Clo.c_grow_1_1_1 p5 p6 p8)), p0, x11.2, p1)
def F_mem_Mem_CAS (p0 : Omem_Mem) (p1 : Int) (p2 : Int) (p3 : Int) : Option (Int × Bool × Omem_Mem) :=
 match getI p0.cells p1 with | none => some (0, false, p0) | some x5 => (if (x5 == p2) = true then (some (setI p0.cells p1 p3)) else (some p0.cells) : Option ((List Int))).bind fun s11 => some (x5, (x5 == p2), (⟨s11, (IntKind.i64.wrap (p0.count + 1))⟩ : Omem_Mem))
def F_bst_Tree_grow_1_1_1 (rc : RC) (p0 : Obst_Tree) (p0o0 : Omem_Mem) (p1 : Obst_Call) (p3 : Tbst_seen) (p4 : Int) (p6 : Tbst_node) : Option ((Option Clo) × Obst_Tree × Omem_Mem × Obst_Call) :=
 (F_bst_Tree_cell p0 p0o0 p3.parent 0).bind fun x9 => (F_word_Pack 1 p4).bind fun x12 => (F_mem_Mem_CAS x9.2.2 x9.1 p3.parentWord x12).bind fun x13 => if (!x13.2.1) = true then ((F_bst_Tree_help rc x9.2.1 x13.2.2 p1 x13.1 (Clo.c_grow_1_1_1_1 p6)).bind fun x15 => some (x15.1, x15.2.1, x15.2.2.1, x15.2.2.2)) else ((F_bst_Tree_grows rc x9.2.1 x13.2.2 p1 p4 (Clo.c_grow_1_1_1_2 p6)).bind fun x18 => some (x18.1, x18.2.1, x18.2.2.1, x18.2.2.2))
def F_bst_Tree_grow_1_1_1_1 (rc : RC) (p0 : Obst_Tree) (p0o0 : Omem_Mem) (p1 : Obst_Call) (p4 : Tbst_node) : Option ((Option Clo) × Obst_Tree × Omem_Mem × Obst_Call) :=
 (F_bst_Tree_insert rc p0 p0o0 p1 p4).bind fun x6 => some (x6.1, x6.2.1, x6.2.2.1, x6.2.2.2)
def F_bst_Tree_grow_1_1_1_2 (rc : RC) (p0 : Obst_Tree) (p0o0 : Omem_Mem) (p1 : Obst_Call) (p3 : Tbst_node) : Option ((Option Clo) × Obst_Tree × Omem_Mem × Obst_Call) :=
 (F_bst_Call_tell rc p0 p0o0 p1 true p3.val).bind fun x5 => some (x5.1, x5.2.1, x5.2.2.1, x5.2.2.2)
def F_bst_Tree_loses_1 (rc : RC) (p0 : Obst_Tree) (p0o0 : Omem_Mem) (p1 : Obst_Call) (p3 : Tbst_info) (p4 : Int) (p5 : Int) (p6 : Clo) : Option ((Option Clo) × Obst_Tree × Omem_Mem × Obst_Call) :=
 (F_bst_Tree_cell p0 p0o0 p3.parent 0).bind fun x9 => (F_mem_Mem_CAS x9.2.2 x9.1 p3.was p4).bind fun x12 => if (bif x12.2.1 then true else (x12.1 == p4)) = true then ((F_bst_Tree_goes rc x9.2.1 x12.2.2 p1 p5 (Clo.c_loses_1_1 p6)).bind fun x14 => some (x14.1, x14.2.1, x14.2.2.1, x14.2.2.2)) else ((F_bst_Tree_help rc x9.2.1 x12.2.2 p1 x12.1 (Clo.c_loses_1_2 p3 p5 p6)).bind fun x17 => some (x17.1, x17.2.1, x17.2.2.1, x17.2.2.2))
def F_bst_Tree_loses_1_1 (rc : RC) (p0 : Obst_Tree) (p0o0 : Omem_Mem) (p1 : Obst_Call) (p2 : Clo) : Option ((Option Clo) × Obst_Tree × Omem_Mem × Obst_Call) :=
 (rc p0 p0o0 p1 p2 (Arg.b true)).bind fun x4 => some (x4.1, x4.2.1, x4.2.2.1, x4.2.2.2)
def F_bst_Tree_clean (rc : RC) (p0 : Obst_Tree) (p0o0 : Omem_Mem) (p1 : Obst_Call) (p3 : Int) (p4 : Int) (p5 : Int) (p6 : Clo) : Option ((Option Clo) × Obst_Tree × Omem_Mem × Obst_Call) :=
 some ((some (Clo.c_clean_1 p3 p4 p5 p6)), p0, p0o0, p1)
def F_bst_Tree_loses_1_2 (rc : RC) (p0 : Obst_Tree) (p0o0 : Omem_Mem) (p1 : Obst_Call) (p3 : Tbst_info) (p4 : Int) (p5 : Clo) : Option ((Option Clo) × Obst_Tree × Omem_Mem × Obst_Call) :=
 (F_bst_Tree_clean rc p0 p0o0 p1 p3.grand 2 p4 (Clo.c_loses_1_2_1 p5)).bind fun x7 => some (x7.1, x7.2.1, x7.2.2.1, x7.2.2.2)
def F_bst_Tree_loses_1_2_1 (rc : RC) (p0 : Obst_Tree) (p0o0 : Omem_Mem) (p1 : Obst_Call) (p2 : Clo) : Option ((Option Clo) × Obst_Tree × Omem_Mem × Obst_Call) :=
 (rc p0 p0o0 p1 p2 (Arg.b false)).bind fun x4 => some (x4.1, x4.2.1, x4.2.2.1, x4.2.2.2)
def F_bst_Tree_grows_1 (rc : RC) (p0 : Obst_Tree) (p0o0 : Omem_Mem) (p1 : Obst_Call) (p3 : Tbst_info) (p4 : Int) (p5 : Clo) : Option ((Option Clo) × Obst_Tree × Omem_Mem × Obst_Call) :=
 (F_bst_Tree_clean rc p0 p0o0 p1 p3.parent 1 p4 p5).bind fun x7 => some (x7.1, x7.2.1, x7.2.2.1, x7.2.2.2)
def F_bst_Tree_goes_1 (rc : RC) (p0 : Obst_Tree) (p0o0 : Omem_Mem) (p1 : Obst_Call) (p2 : Int) (p4 : Tbst_info) (p5 : Int) (p6 : Clo) : Option ((Option Clo) × Obst_Tree × Omem_Mem × Obst_Call) :=
 (F_bst_Tree_turn rc p0 p0o0 p1 p4.grand p4.parent (IntKind.i64.wrap p2) (Clo.c_goes_1_1 p4 p5 p6)).bind fun x8 => some (x8.1, x8.2.1, x8.2.2.1, x8.2.2.2)
def F_bst_Tree_goes_1_1 (rc : RC) (p0 : Obst_Tree) (p0o0 : Omem_Mem) (p1 : Obst_Call) (p3 : Tbst_info) (p4 : Int) (p5 : Clo) : Option ((Option Clo) × Obst_Tree × Omem_Mem × Obst_Call) :=
 (F_bst_Tree_clean rc p0 p0o0 p1 p3.grand 2 p4 p5).bind fun x7 => some (x7.1, x7.2.1, x7.2.2.1, x7.2.2.2)
def F_bst_Tree_goes_2 (rc : RC) (p0 : Obst_Tree) (p0o0 : Omem_Mem) (p1 : Obst_Call) (p3 : Tbst_info) (p4 : Clo) : Option ((Option Clo) × Obst_Tree × Omem_Mem × Obst_Call) :=
 (F_bst_Tree_cell p0 p0o0 p3.parent 2).bind fun x7 => (F_mem_Mem_Load x7.2.2 x7.1).bind fun x10 => if ((IntKind.i64.wrap x10.1) != p3.leaf) = true then ((rc x7.2.1 x10.2.2 p1 p4 (Arg.w x10.1)).bind fun x12 => some (x12.1, x12.2.1, x12.2.2.1, x12.2.2.2)) else (some ((some (Clo.c_goes_2_1 p3 p4)), x7.2.1, x10.2.2, p1))
def F_bst_Tree_goes_2_1 (rc : RC) (p0 : Obst_Tree) (p0o0 : Omem_Mem) (p1 : Obst_Call) (p3 : Tbst_info) (p4 : Clo) : Option ((Option Clo) × Obst_Tree × Omem_Mem × Obst_Call) :=
 (F_bst_Tree_cell p0 p0o0 p3.parent 1).bind fun x7 => (F_mem_Mem_Load x7.2.2 x7.1).bind fun x10 => (rc x7.2.1 x10.2.2 p1 p4 (Arg.w x10.1)).bind fun x11 => some (x11.1, x11.2.1, x11.2.2.1, x11.2.2.2)
def F_bst_Tree_clean_1 (rc : RC) (p0 : Obst_Tree) (p0o0 : Omem_Mem) (p1 : Obst_Call) (p3 : Int) (p4 : Int) (p5 : Int) (p6 : Clo) : Option ((Option Clo) × Obst_Tree × Omem_Mem × Obst_Call) :=
 (F_bst_Tree_cell p0 p0o0 p3 0).bind fun x9 => (F_word_Pack p4 p5).bind fun x12 => (F_word_Pack 0 p5).bind fun x13 => (F_mem_Mem_CAS x9.2.2 x9.1 x12 x13).bind fun x14 => (rc x9.2.1 x14.2.2 p1 p6 Arg.u).bind fun x15 => some (x15.1, x15.2.1, x15.2.2.1, x15.2.2.2)
def F_bst_Tree_turn_1 (rc : RC) (p0 : Obst_Tree) (p0o0 : Omem_Mem) (p1 : Obst_Call) (p3 : Int) (p4 : Int) (p5 : Int) (p6 : Clo) : Option ((Option Clo) × Obst_Tree × Omem_Mem × Obst_Call) :=
 (getI p0.nodes p4).bind fun x9 => (F_bst_Tree_side p0 p0o0 p3 x9).bind fun x10 => (F_mem_Mem_CAS x10.2.2 x10.1 (IntKind.u64.wrap p5) (IntKind.u64.wrap p4)).bind fun x13 => (rc x10.2.1 x13.2.2 p1 p6 Arg.u).bind fun x14 => some (x14.1, x14.2.1, x14.2.2.1, x14.2.2.2)
def F_step : Nat → RC
 | 0 => fun _ _ _ _ _ => none
 | n + 1 => fun p0 p0o0 p1 x a => match x with
  | .c_Find_1_1 y0 => (match a with | .s z => F_bst_Tree_Find_1_1 (F_step n) p0 p0o0 p1 z y0 | _ => none)
  | .c_Seek_1_1 y0 => (match a with | .s z => F_bst_Tree_Seek_1_1 (F_step n) p0 p0o0 p1 z y0 | _ => none)
  | .c_insert_1 y0 => (match a with | .u => F_bst_Tree_insert_1 (F_step n) p0 p0o0 p1  y0 | _ => none)
  | .c_insert_2 y0 y1 => (match a with | .s z => F_bst_Tree_insert_2 (F_step n) p0 p0o0 p1 z y0 y1 | _ => none)
  | .c_down_1 y0 y1 y2 => (match a with | .u => F_bst_Tree_down_1 (F_step n) p0 p0o0 p1  y0 y1 y2 | _ => none)
  | .c_down_1_1 y0 y1 y2 => (match a with | .u => F_bst_Tree_down_1_1 (F_step n) p0 p0o0 p1  y0 y1 y2 | _ => none)
  | .c_least_1 y0 => (match a with | .u => F_bst_Tree_least_1 (F_step n) p0 p0o0 p1  y0 | _ => none)
  | .c_help_1 y0 => (match a with | .b z => F_bst_Tree_help_1 (F_step n) p0 p0o0 p1 z y0 | _ => none)
  | .c_grow_1 y0 y1 y2 y3 y4 y5 => (match a with | .u => F_bst_Tree_grow_1 (F_step n) p0 p0o0 p1  y0 y1 y2 y3 y4 y5 | _ => none)
  | .c_grow_1_1 y0 y1 y2 y3 y4 => (match a with | .u => F_bst_Tree_grow_1_1 (F_step n) p0 p0o0 p1  y0 y1 y2 y3 y4 | _ => none)
  | .c_grow_1_1_1 y0 y1 y2 => (match a with | .u => F_bst_Tree_grow_1_1_1 (F_step n) p0 p0o0 p1  y0 y1 y2 | _ => none)
  | .c_grow_1_1_1_1 y0 => (match a with | .u => F_bst_Tree_grow_1_1_1_1 (F_step n) p0 p0o0 p1  y0 | _ => none)
  | .c_grow_1_1_1_2 y0 => (match a with | .u => F_bst_Tree_grow_1_1_1_2 (F_step n) p0 p0o0 p1  y0 | _ => none)
  | .c_loses_1 y0 y1 y2 y3 => (match a with | .u => F_bst_Tree_loses_1 (F_step n) p0 p0o0 p1  y0 y1 y2 y3 | _ => none)
  | .c_loses_1_1 y0 => (match a with | .u => F_bst_Tree_loses_1_1 (F_step n) p0 p0o0 p1  y0 | _ => none)
  | .c_loses_1_2 y0 y1 y2 => (match a with | .u => F_bst_Tree_loses_1_2 (F_step n) p0 p0o0 p1  y0 y1 y2 | _ => none)
  | .c_loses_1_2_1 y0 => (match a with | .u => F_bst_Tree_loses_1_2_1 (F_step n) p0 p0o0 p1  y0 | _ => none)
  | .c_grows_1 y0 y1 y2 => (match a with | .u => F_bst_Tree_grows_1 (F_step n) p0 p0o0 p1  y0 y1 y2 | _ => none)
  | .c_goes_1 y0 y1 y2 => (match a with | .w z => F_bst_Tree_goes_1 (F_step n) p0 p0o0 p1 z y0 y1 y2 | _ => none)
  | .c_goes_1_1 y0 y1 y2 => (match a with | .u => F_bst_Tree_goes_1_1 (F_step n) p0 p0o0 p1  y0 y1 y2 | _ => none)
  | .c_goes_2 y0 y1 => (match a with | .u => F_bst_Tree_goes_2 (F_step n) p0 p0o0 p1  y0 y1 | _ => none)
  | .c_goes_2_1 y0 y1 => (match a with | .u => F_bst_Tree_goes_2_1 (F_step n) p0 p0o0 p1  y0 y1 | _ => none)
  | .c_clean_1 y0 y1 y2 y3 => (match a with | .u => F_bst_Tree_clean_1 (F_step n) p0 p0o0 p1  y0 y1 y2 y3 | _ => none)
  | .c_turn_1 y0 y1 y2 y3 => (match a with | .u => F_bst_Tree_turn_1 (F_step n) p0 p0o0 p1  y0 y1 y2 y3 | _ => none)
def F_bst_Tree_Find_1 (rc : RC) (p0 : Obst_Tree) (p0o0 : Omem_Mem) (p1 : Obst_Call) (p3 : Tbst_node) : Option ((Option Clo) × Obst_Tree × Omem_Mem × Obst_Call) :=
 (F_bst_Tree_search rc p0 p0o0 p1 p3 (Clo.c_Find_1_1 p3)).bind fun x8 => some (x8.1, x8.2.1, x8.2.2.1, x8.2.2.2)
def F_bst_Tree_call_bst_Tree_Find_1 (n : Nat) (p0 : Obst_Tree) (p0o0 : Omem_Mem) (p1 : ByteArray) : Option (Obst_Call_2 × Obst_Tree × Omem_Mem) :=
 (F_bst_Tree_Find_1 (F_step n) p0 p0o0 (⟨false, p1, 0, 0⟩ : Obst_Call) (⟨p1, 0, 0, 0⟩ : Tbst_node)).bind fun x6 => some ((⟨x6.2.2.2.told_Ok, x6.2.2.2.told_Key, x6.2.2.2.told_Val, x6.2.2.2.told_Err, x6.1⟩ : Obst_Call_2), x6.2.1, x6.2.2.1)
def F_bst_Tree_Find (n : Nat) (p0 : Obst_Tree) (p0o0 : Omem_Mem) (p1 : ByteArray) : Option (Obst_Call_2 × Obst_Tree × Omem_Mem) :=
 (F_bst_Tree_call_bst_Tree_Find_1 n p0 p0o0 p1).bind fun x4 => some (x4.1, x4.2.1, x4.2.2)
def F_bst_Tree_Seek_1 (rc : RC) (p0 : Obst_Tree) (p0o0 : Omem_Mem) (p1 : Obst_Call) (p3 : Tbst_node) : Option ((Option Clo) × Obst_Tree × Omem_Mem × Obst_Call) :=
 (F_bst_Tree_search rc p0 p0o0 p1 p3 (Clo.c_Seek_1_1 p3)).bind fun x8 => some (x8.1, x8.2.1, x8.2.2.1, x8.2.2.2)
def F_bst_Tree_call_bst_Tree_Seek_1 (n : Nat) (p0 : Obst_Tree) (p0o0 : Omem_Mem) (p1 : ByteArray) : Option (Obst_Call_2 × Obst_Tree × Omem_Mem) :=
 (F_bst_Tree_Seek_1 (F_step n) p0 p0o0 (⟨false, p1, 0, 0⟩ : Obst_Call) (⟨p1, 0, 0, 0⟩ : Tbst_node)).bind fun x6 => some ((⟨x6.2.2.2.told_Ok, x6.2.2.2.told_Key, x6.2.2.2.told_Val, x6.2.2.2.told_Err, x6.1⟩ : Obst_Call_2), x6.2.1, x6.2.2.1)
def F_bst_Tree_Seek (n : Nat) (p0 : Obst_Tree) (p0o0 : Omem_Mem) (p1 : ByteArray) : Option (Obst_Call_2 × Obst_Tree × Omem_Mem) :=
 (F_bst_Tree_call_bst_Tree_Seek_1 n p0 p0o0 p1).bind fun x4 => some (x4.1, x4.2.1, x4.2.2)
def F_bst_Tree_Insert_1 (rc : RC) (p0 : Obst_Tree) (p0o0 : Omem_Mem) (p1 : Obst_Call) (p3 : Tbst_node) (p4 : Int) : Option ((Option Clo) × Obst_Tree × Omem_Mem × Obst_Call) :=
 (F_bst_Tree_insert rc p0 p0o0 p1 (⟨p3.key, p3.top, p4, p3.cell⟩ : Tbst_node)).bind fun x8 => some (x8.1, x8.2.1, x8.2.2.1, x8.2.2.2)
def F_bst_Tree_call_bst_Tree_Insert_1 (n : Nat) (p0 : Obst_Tree) (p0o0 : Omem_Mem) (p1 : ByteArray) (p2c0 : Int) : Option (Obst_Call_2 × Obst_Tree × Omem_Mem) :=
 (F_bst_Tree_Insert_1 (F_step n) p0 p0o0 (⟨false, p1, 0, 0⟩ : Obst_Call) (⟨p1, 0, 0, 0⟩ : Tbst_node) p2c0).bind fun x6 => some ((⟨x6.2.2.2.told_Ok, x6.2.2.2.told_Key, x6.2.2.2.told_Val, x6.2.2.2.told_Err, x6.1⟩ : Obst_Call_2), x6.2.1, x6.2.2.1)
def F_bst_Tree_Insert (n : Nat) (p0 : Obst_Tree) (p0o0 : Omem_Mem) (p1 : ByteArray) (p2 : Int) : Option (Obst_Call_2 × Obst_Tree × Omem_Mem) :=
 (F_bst_Tree_call_bst_Tree_Insert_1 n p0 p0o0 p1 p2).bind fun x6 => some (x6.1, x6.2.1, x6.2.2)
def F_bst_Call_Step (n : Nat) (p0 : Obst_Tree) (p0o0 : Omem_Mem) (p1 : Obst_Call_2) : Option (Bool × Obst_Tree × Omem_Mem × Obst_Call_2) :=
 if (p1.next).isNone = true then (some (true, p0, p0o0, p1)) else ((p1.next).bind fun x7 => ((F_step n) p0 p0o0 (⟨p1.told_Ok, p1.told_Key, p1.told_Val, p1.told_Err⟩ : Obst_Call) x7 Arg.u).bind fun x6 => some ((x6.1).isNone, x6.2.1, x6.2.2.1, (⟨x6.2.2.2.told_Ok, x6.2.2.2.told_Key, x6.2.2.2.told_Val, x6.2.2.2.told_Err, x6.1⟩ : Obst_Call_2)))
def F_bst_Call_Answer (p0 : Obst_Tree) (p0o0 : Omem_Mem) (p1 : Obst_Call_2) : Option (Tbst_Answer × Bool × Obst_Tree × Omem_Mem × Obst_Call_2) :=
 if (p1.next).isSome = true then (some ((⟨false, ByteArray.empty, 0, 0⟩ : Tbst_Answer), false, p0, p0o0, p1)) else (some ((⟨p1.told_Ok, p1.told_Key, p1.told_Val, p1.told_Err⟩ : Tbst_Answer), true, p0, p0o0, p1))
def F_mem_New_nil  : Option (Omem_Mem) :=
 some (⟨([] : List Int), 0⟩ : Omem_Mem)
def F_bst_New (p0 : Omem_Mem) : Option (Obst_Tree × Omem_Mem) :=
 (F_mem_Mem_Grow p0 3).bind fun x2 => if (x2.2.1 != 0) = true then none else ((F_bst_Tree_info (⟨([] : List Tbst_node), ([] : List Tbst_info)⟩ : Obst_Tree) x2.2.2 (⟨0, 0, 0, 0, 0⟩ : Tbst_info)).bind fun x5 => (F_bst_Tree_node x5.2.1 x5.2.2 (⟨ByteArray.empty, 2, 0, x2.1⟩ : Tbst_node)).bind fun x7 => (F_bst_Tree_leaf x7.2.1 x7.2.2 ByteArray.empty 1 0).bind fun x9 => (F_mem_Mem_Store x9.2.2 (IntKind.i64.wrap (x2.1 + 1)) (IntKind.u64.wrap x9.1)).bind fun x12 => (F_bst_Tree_leaf x9.2.1 x12.2 ByteArray.empty 2 0).bind fun x13 => (F_mem_Mem_Store x13.2.2 (IntKind.i64.wrap (x2.1 + 2)) (IntKind.u64.wrap x13.1)).bind fun x16 => some (x13.2.1, x16.2))
def F_index_Work_look (rc : RCi) (p0 : Obst_Tree) (p0o0 : Omem_Mem) (p0o1 : Ochain_Store) (p1 : Oindex_Work) (p3 : Int) (p4 : Int) (p5 : Cli) : Option ((Option Cli) × Obst_Tree × Omem_Mem × Ochain_Store × Oindex_Work) :=
 some ((some (Cli.c_Work_look_1 p3 p4 p5)), p0, p0o0, p0o1, p1)
def F_index_Index_Get_1_1 (rc : RCi) (p0 : Obst_Tree) (p0o0 : Omem_Mem) (p0o1 : Ochain_Store) (p1 : Oindex_Work) (p2 : Obst_Call_2) (p4 : Int) : Option ((Option Cli) × Obst_Tree × Omem_Mem × Ochain_Store × Oindex_Work) :=
 (F_bst_Call_Answer p0 p0o0 p2).bind fun x6 => if (!x6.1.Ok) = true then (some (none, x6.2.2.1, x6.2.2.2.1, p0o1, p1)) else ((F_index_Work_look rc x6.2.2.1 x6.2.2.2.1 p0o1 p1 x6.1.Val p4 (Cli.c_end)).bind fun x13 => some (x13.1, x13.2.1, x13.2.2.1, x13.2.2.2.1, x13.2.2.2.2))
def F_index_end (rc : RCi) (p0 : Obst_Tree) (p0o0 : Omem_Mem) (p0o1 : Ochain_Store) (p1 : Oindex_Work) : Option ((Option Cli) × Obst_Tree × Omem_Mem × Ochain_Store × Oindex_Work) :=
 some (none, p0, p0o0, p0o1, p1)
def F_chain_Store_Put (p0 : Ochain_Store) (p1 : Int) (p2 : TEvent) : Option (Ochain_Put × Ochain_Store) :=
 some ((⟨p1, p2.Rev, p2.Key, p2.Val, p2.Del, 0, false, false⟩ : Ochain_Put), p0)
def F_index_after (rc : RCi) (p0 : Obst_Tree) (p0o0 : Omem_Mem) (p0o1 : Ochain_Store) (p1 : Oindex_Work) (p2 : Ochain_Put) (p3 : Cli) : Option ((Option Cli) × Obst_Tree × Omem_Mem × Ochain_Store × Oindex_Work) :=
 some ((some (Cli.c_after_1_v1 p2 p3)), p0, p0o0, p0o1, p1)
def F_index_Index_Put_1_1 (rc : RCi) (p0 : Obst_Tree) (p0o0 : Omem_Mem) (p0o1 : Ochain_Store) (p1 : Oindex_Work) (p4 : TEvent) : Option ((Option Cli) × Obst_Tree × Omem_Mem × Ochain_Store × Oindex_Work) :=
 (F_chain_Store_Put p0o1 p1.cell p4).bind fun x8 => (F_index_after rc p0 p0o0 x8.2 p1 x8.1 (Cli.c_end)).bind fun x9 => some (x9.1, x9.2.1, x9.2.2.1, x9.2.2.2.1, x9.2.2.2.2)
def F_index_after_1 (n : Nat) (rc : RCi) (p0 : Obst_Tree) (p0o0 : Omem_Mem) (p0o1 : Ochain_Store) (p1 : Oindex_Work) (p2 : Obst_Call_2) (p3 : Cli) : Option ((Option Cli) × Obst_Tree × Omem_Mem × Ochain_Store × Oindex_Work) :=
 (F_bst_Call_Step n p0 p0o0 p2).bind fun x6 => if x6.1 = true then ((rc x6.2.1 x6.2.2.1 p0o1 p1 (Cli.w146 x6.2.2.2 p3) Argi.u).bind fun x11 => some (x11.1, x11.2.1, x11.2.2.1, x11.2.2.2.1, x11.2.2.2.2)) else (some ((some (Cli.c_after_1 x6.2.2.2 p3)), x6.2.1, x6.2.2.1, p0o1, p1))
def F_chain_Store_of (p0 : Ochain_Store) (p1 : Int) : Option (Tchain_version × Bool × Ochain_Store) :=
 (if (decide (p1 < 1)) = true then (some true) else (some (decide (p1 > (IntKind.u64.wrap (p0.all.length : Int))))) : Option (Bool)).bind fun s5 => if s5 = true then (some ((⟨(⟨0, ByteArray.empty, ByteArray.empty, false⟩ : TEvent), 0⟩ : Tchain_version), false, p0)) else ((getI p0.all (IntKind.u64.wrap (p1 - 1))).bind fun x8 => some (x8, true, p0))
def F_chain_Store_Rev (p0 : Ochain_Store) (p1 : Int) : Option (Int × Ochain_Store) :=
 (F_chain_Store_of p0 p1).bind fun x3 => some (x3.1.Event.Rev, x3.2.2)
def F_chain_Store_add (p0 : Ochain_Store) (p1 : (List Tchain_version)) : Option (Int × Ochain_Store) :=
 (appL 56 p0.all p1).bind fun x4 => some ((IntKind.u64.wrap ((p0.all ++ p1).length : Int)), (⟨(p0.all ++ p1)⟩ : Ochain_Store))
def F_chain_Put_Step (p0 : Obst_Tree) (p0o0 : Omem_Mem) (p0o1 : Ochain_Store) (p1 : Ochain_Put) : Option (Bool × Obst_Tree × Omem_Mem × Ochain_Store × Ochain_Put) :=
 if p1.done = true then (some (true, p0, p0o0, p0o1, p1)) else ((if (!p1.seen) = true then ((F_mem_Mem_Load p0o0 p1.cell).bind fun x11 => (F_chain_Store_Rev p0o1 x11.1).bind fun x15 => some (x11.1, true, (decide (x15.1 ≥ p1.e_Rev)), (p0, x11.2.2, x15.2))) else ((F_chain_Store_add p0o1 ([(⟨(⟨p1.e_Rev, p1.e_Key, p1.e_Val, p1.e_Del⟩ : TEvent), p1.last⟩ : Tchain_version)] : List Tchain_version)).bind fun x22 => (F_mem_Mem_CAS p0o0 p1.cell p1.last x22.1).bind fun x26 => some (p1.last, false, x26.2.1, (p0, x26.2.2, x22.2))) : Option (Int × Bool × Bool × (Obst_Tree × Omem_Mem × Ochain_Store))).bind fun s7 => some (s7.2.2.1, s7.2.2.2.1, s7.2.2.2.2.1, s7.2.2.2.2.2, (⟨p1.cell, p1.e_Rev, p1.e_Key, p1.e_Val, p1.e_Del, s7.1, s7.2.1, s7.2.2.1⟩ : Ochain_Put)))
def F_index_after_1_ (rc : RCi) (p0 : Obst_Tree) (p0o0 : Omem_Mem) (p0o1 : Ochain_Store) (p1 : Oindex_Work) (p2 : Ochain_Put) (p3 : Cli) : Option ((Option Cli) × Obst_Tree × Omem_Mem × Ochain_Store × Oindex_Work) :=
 (F_chain_Put_Step p0 p0o0 p0o1 p2).bind fun x6 => if x6.1 = true then ((rc x6.2.1 x6.2.2.1 x6.2.2.2.1 p1 p3 Argi.u).bind fun x8 => some (x8.1, x8.2.1, x8.2.2.1, x8.2.2.2.1, x8.2.2.2.2)) else (some ((some (Cli.c_after_1_v1 x6.2.2.2.2 p3)), x6.2.1, x6.2.2.1, x6.2.2.2.1, p1))
def F_chain_Store_At_L1 (p2 : Int) : Nat → Bool → Tchain_version → (Ochain_Store) → Option (Lp ((Ochain_Store)) (TKV × Bool × Ochain_Store))
 | 0, _, _, _ => none
 | m8 + 1, y8_0, y8_1, y8_2 => if y8_0 = true then (if (decide (y8_1.Event.Rev > p2)) = true then ((F_chain_Store_of y8_2 y8_1.ahead).bind fun x12 => F_chain_Store_At_L1 p2 m8 x12.2.1 x12.1 x12.2.2) else (if y8_1.Event.Del = true then (some (.out ((⟨ByteArray.empty, ByteArray.empty, 0⟩ : TKV), false, y8_2))) else (some (.out ((⟨y8_1.Event.Key, y8_1.Event.Val, y8_1.Event.Rev⟩ : TKV), true, y8_2))))) else (some (.go y8_2))
def F_chain_Store_At (n : Nat) (p0 : Ochain_Store) (p1 : Int) (p2 : Int) : Option (TKV × Bool × Ochain_Store) :=
 (F_chain_Store_of p0 p1).bind fun x5 => (F_chain_Store_At_L1 p2 n x5.2.1 x5.1 x5.2.2 : Option (Lp ((Ochain_Store)) (TKV × Bool × Ochain_Store))).bind fun s7 => lpK s7 fun u7 => some ((⟨ByteArray.empty, ByteArray.empty, 0⟩ : TKV), false, u7)
def F_index_Work_look_1 (n : Nat) (rc : RCi) (p0 : Obst_Tree) (p0o0 : Omem_Mem) (p0o1 : Ochain_Store) (p1 : Oindex_Work) (p3 : Int) (p4 : Int) (p5 : Cli) : Option ((Option Cli) × Obst_Tree × Omem_Mem × Ochain_Store × Oindex_Work) :=
 (F_mem_Mem_Load p0o0 (IntKind.i64.wrap p3)).bind fun x9 => (F_chain_Store_At n p0o1 x9.1 p4).bind fun x14 => if x14.2.1 = true then ((appL 40 p1.found ([x14.1] : List TKV)).bind fun x17 => (rc p0 x9.2.2 x14.2.2 (⟨p1.cell, p1.bad, (p1.found ++ ([x14.1] : List TKV))⟩ : Oindex_Work) p5 Argi.u).bind fun x18 => some (x18.1, x18.2.1, x18.2.2.1, x18.2.2.2.1, x18.2.2.2.2)) else ((rc p0 x9.2.2 x14.2.2 p1 p5 Argi.u).bind fun x22 => some (x22.1, x22.2.1, x22.2.2.1, x22.2.2.2.1, x22.2.2.2.2))
def F_key_In (p0 : TRange) (p1 : ByteArray) : Option (Bool) :=
 some (bif (leB p0.From p1) then (bif (eqB p0.To ByteArray.empty) then true else (lessB p1 p0.To)) else false)
def F_index_Work_walk_1 (rc : RCi) (p0 : Obst_Tree) (p0o0 : Omem_Mem) (p0o1 : Ochain_Store) (p1 : Oindex_Work) (p2 : Obst_Call_2) (p3 : TRange) (p5 : Int) : Option ((Option Cli) × Obst_Tree × Omem_Mem × Ochain_Store × Oindex_Work) :=
 (F_bst_Call_Answer p0 p0o0 p2).bind fun x7 => (if (!x7.1.Ok) = true then (some true) else ((F_key_In p3 x7.1.Key).bind fun x20 => some (!x20)) : Option (Bool)).bind fun s13 => if s13 = true then (some (none, x7.2.2.1, x7.2.2.2.1, p0o1, p1)) else ((F_index_Work_look rc x7.2.2.1 x7.2.2.2.1 p0o1 p1 x7.1.Val p5 (Cli.c_Work_walk_1_1 p3 x7.1 p5)).bind fun x16 => some (x16.1, x16.2.1, x16.2.2.1, x16.2.2.2.1, x16.2.2.2.2))
def F_key_One (p0 : ByteArray) : Option (TRange) :=
 (addS p0 (⟨#[0]⟩ : ByteArray)).bind fun x3 => some (⟨p0, (p0 ++ (⟨#[0]⟩ : ByteArray))⟩ : TRange)
def F_index_after_ (rc : RCi) (p0 : Obst_Tree) (p0o0 : Omem_Mem) (p0o1 : Ochain_Store) (p1 : Oindex_Work) (p2 : Obst_Call_2) (p3 : Cli) : Option ((Option Cli) × Obst_Tree × Omem_Mem × Ochain_Store × Oindex_Work) :=
 some ((some (Cli.c_after_1 p2 p3)), p0, p0o0, p0o1, p1)
def F_index_Work_walk (n : Nat) (rc : RCi) (p0 : Obst_Tree) (p0o0 : Omem_Mem) (p0o1 : Ochain_Store) (p1 : Oindex_Work) (p3 : TRange) (p4 : ByteArray) (p5 : Int) : Option ((Option Cli) × Obst_Tree × Omem_Mem × Ochain_Store × Oindex_Work) :=
 (F_bst_Tree_Seek n p0 p0o0 p4).bind fun x12 => (F_index_after_ rc x12.2.1 x12.2.2 p0o1 p1 x12.1 (Cli.c_Work_walk_1 p3 p5)).bind fun x14 => some (x14.1, x14.2.1, x14.2.2.1, x14.2.2.2.1, x14.2.2.2.2)
def F_index_Work_walk_1_1 (n : Nat) (rc : RCi) (p0 : Obst_Tree) (p0o0 : Omem_Mem) (p0o1 : Ochain_Store) (p1 : Oindex_Work) (p3 : TRange) (p4 : Tbst_Answer) (p5 : Int) : Option ((Option Cli) × Obst_Tree × Omem_Mem × Ochain_Store × Oindex_Work) :=
 (F_key_One p4.Key).bind fun x7 => (F_index_Work_walk n rc p0 p0o0 p0o1 p1 p3 x7.To p5).bind fun x8 => some (x8.1, x8.2.1, x8.2.2.1, x8.2.2.2.1, x8.2.2.2.2)
def F_chain_Store_Cell (p0 : Omem_Mem) (p1 : Ochain_Store) : Option (Int × Int × Omem_Mem × Ochain_Store) :=
 (F_mem_Mem_Grow p0 1).bind fun x5 => some (x5.1, x5.2.1, x5.2.2, p1)
def F_index_Work_ensure_1 (n : Nat) (rc : RCi) (p0 : Obst_Tree) (p0o0 : Omem_Mem) (p0o1 : Ochain_Store) (p1 : Oindex_Work) (p2 : Obst_Call_2) (p4 : Cli) (p5 : ByteArray) : Option ((Option Cli) × Obst_Tree × Omem_Mem × Ochain_Store × Oindex_Work) :=
 (F_bst_Call_Answer p0 p0o0 p2).bind fun x7 => if x7.1.Ok = true then ((rc x7.2.2.1 x7.2.2.2.1 p0o1 (⟨(IntKind.i64.wrap x7.1.Val), p1.bad, p1.found⟩ : Oindex_Work) p4 Argi.u).bind fun x14 => some (x14.1, x14.2.1, x14.2.2.1, x14.2.2.2.1, x14.2.2.2.2)) else ((F_chain_Store_Cell x7.2.2.2.1 p0o1).bind fun x18 => if (x18.2.1 != 0) = true then (some (none, x7.2.2.1, x18.2.2.1, x18.2.2.2, (⟨p1.cell, x18.2.1, p1.found⟩ : Oindex_Work))) else ((F_bst_Tree_Insert n x7.2.2.1 x18.2.2.1 p5 (IntKind.u64.wrap x18.1)).bind fun x27 => (F_index_after_ rc x27.2.1 x27.2.2 x18.2.2.2 p1 x27.1 (Cli.c_Work_ensure_1_1 p4)).bind fun x29 => some (x29.1, x29.2.1, x29.2.2.1, x29.2.2.2.1, x29.2.2.2.2)))
def F_index_Work_ensure_1_1 (rc : RCi) (p0 : Obst_Tree) (p0o0 : Omem_Mem) (p0o1 : Ochain_Store) (p1 : Oindex_Work) (p2 : Obst_Call_2) (p4 : Cli) : Option ((Option Cli) × Obst_Tree × Omem_Mem × Ochain_Store × Oindex_Work) :=
 (F_bst_Call_Answer p0 p0o0 p2).bind fun x6 => if (x6.1.Err != 0) = true then (some (none, x6.2.2.1, x6.2.2.2.1, p0o1, (⟨p1.cell, x6.1.Err, p1.found⟩ : Oindex_Work))) else ((rc x6.2.2.1 x6.2.2.2.1 p0o1 (⟨(IntKind.i64.wrap x6.1.Val), p1.bad, p1.found⟩ : Oindex_Work) p4 Argi.u).bind fun x16 => some (x16.1, x16.2.1, x16.2.2.1, x16.2.2.2.1, x16.2.2.2.2))
def F_istep : Nat → RCi
 | 0 => fun _ _ _ _ _ _ => none
 | n + 1 => fun p0 p0o0 p0o1 p1 x a => match x with
  | .c_end  => (match a with | .u => F_index_end (F_istep n) p0 p0o0 p0o1 p1  )
  | .c_Index_Put_1_1 x0 => (match a with | .u => F_index_Index_Put_1_1 (F_istep n) p0 p0o0 p0o1 p1  x0)
  | .c_after_1 w0 x0 => (match a with | .u => F_index_after_1 n (F_istep n) p0 p0o0 p0o1 p1  w0 x0)
  | .c_after_1_v1 w0 x0 => (match a with | .u => F_index_after_1_ (F_istep n) p0 p0o0 p0o1 p1  w0 x0)
  | .c_Work_look_1 x0 x1 x2 => (match a with | .u => F_index_Work_look_1 n (F_istep n) p0 p0o0 p0o1 p1  x0 x1 x2)
  | .c_Work_walk_1_1 x0 x1 x2 => (match a with | .u => F_index_Work_walk_1_1 n (F_istep n) p0 p0o0 p0o1 p1  x0 x1 x2)
  | .w146 w0 th => (match a, th with
   | .u, .c_Index_Get_1_1 x0 => F_index_Index_Get_1_1 (F_istep n) p0 p0o0 p0o1 p1  w0 x0
   | .u, .c_Work_walk_1 x0 x1 => F_index_Work_walk_1 (F_istep n) p0 p0o0 p0o1 p1  w0 x0 x1
   | .u, .c_Work_ensure_1 x0 x1 => F_index_Work_ensure_1 n (F_istep n) p0 p0o0 p0o1 p1  w0 x0 x1
   | .u, .c_Work_ensure_1_1 x0 => F_index_Work_ensure_1_1 (F_istep n) p0 p0o0 p0o1 p1  w0 x0
   | _, _ => none)
  | _ => none
def F_index_Work_ensure (n : Nat) (rc : RCi) (p0 : Obst_Tree) (p0o0 : Omem_Mem) (p0o1 : Ochain_Store) (p1 : Oindex_Work) (p3 : ByteArray) (p4 : Cli) : Option ((Option Cli) × Obst_Tree × Omem_Mem × Ochain_Store × Oindex_Work) :=
 (F_bst_Tree_Find n p0 p0o0 p3).bind fun x12 => (F_index_after_ rc x12.2.1 x12.2.2 p0o1 p1 x12.1 (Cli.c_Work_ensure_1 p4 p3)).bind fun x13 => some (x13.1, x13.2.1, x13.2.2.1, x13.2.2.2.1, x13.2.2.2.2)
def F_index_Index_Ensure_1 (n : Nat) (rc : RCi) (p0 : Obst_Tree) (p0o0 : Omem_Mem) (p0o1 : Ochain_Store) (p1 : Oindex_Work) (p3 : ByteArray) : Option ((Option Cli) × Obst_Tree × Omem_Mem × Ochain_Store × Oindex_Work) :=
 (F_index_Work_ensure n rc p0 p0o0 p0o1 p1 p3 (Cli.c_end)).bind fun x5 => some (x5.1, x5.2.1, x5.2.2.1, x5.2.2.2.1, x5.2.2.2.2)
def F_index_Index_work_index_Index_Ensure_1 (n : Nat) (p0 : Obst_Tree) (p0o0 : Omem_Mem) (p0o1 : Ochain_Store) (p1c0 : ByteArray) : Option (Oindex_Work_2 × Obst_Tree × Omem_Mem × Ochain_Store) :=
 (F_index_Index_Ensure_1 n (F_istep n) p0 p0o0 p0o1 (⟨0, 0, ([] : List TKV)⟩ : Oindex_Work) p1c0).bind fun x5 => some ((⟨x5.1, x5.2.2.2.2.cell, x5.2.2.2.2.bad, x5.2.2.2.2.found⟩ : Oindex_Work_2), x5.2.1, x5.2.2.1, x5.2.2.2.1)
def F_index_Index_Ensure (n : Nat) (p0 : Obst_Tree) (p0o0 : Omem_Mem) (p0o1 : Ochain_Store) (p1 : ByteArray) : Option (Oindex_Work_2 × Obst_Tree × Omem_Mem × Ochain_Store) :=
 (F_index_Index_work_index_Index_Ensure_1 n p0 p0o0 p0o1 p1).bind fun x4 => some (x4.1, x4.2.1, x4.2.2.1, x4.2.2.2)
def F_index_Index_Put_1 (n : Nat) (rc : RCi) (p0 : Obst_Tree) (p0o0 : Omem_Mem) (p0o1 : Ochain_Store) (p1 : Oindex_Work) (p3 : TEvent) : Option ((Option Cli) × Obst_Tree × Omem_Mem × Ochain_Store × Oindex_Work) :=
 (F_index_Work_ensure n rc p0 p0o0 p0o1 p1 p3.Key (Cli.c_Index_Put_1_1 p3)).bind fun x7 => some (x7.1, x7.2.1, x7.2.2.1, x7.2.2.2.1, x7.2.2.2.2)
def F_index_Index_work_index_Index_Put_1 (n : Nat) (p0 : Obst_Tree) (p0o0 : Omem_Mem) (p0o1 : Ochain_Store) (p1c0 : TEvent) : Option (Oindex_Work_2 × Obst_Tree × Omem_Mem × Ochain_Store) :=
 (F_index_Index_Put_1 n (F_istep n) p0 p0o0 p0o1 (⟨0, 0, ([] : List TKV)⟩ : Oindex_Work) p1c0).bind fun x5 => some ((⟨x5.1, x5.2.2.2.2.cell, x5.2.2.2.2.bad, x5.2.2.2.2.found⟩ : Oindex_Work_2), x5.2.1, x5.2.2.1, x5.2.2.2.1)
def F_index_Index_Put (n : Nat) (p0 : Obst_Tree) (p0o0 : Omem_Mem) (p0o1 : Ochain_Store) (p1 : TEvent) : Option (Oindex_Work_2 × Obst_Tree × Omem_Mem × Ochain_Store) :=
 (F_index_Index_work_index_Index_Put_1 n p0 p0o0 p0o1 p1).bind fun x5 => some (x5.1, x5.2.1, x5.2.2.1, x5.2.2.2)
def F_index_Index_Get_1 (n : Nat) (rc : RCi) (p0 : Obst_Tree) (p0o0 : Omem_Mem) (p0o1 : Ochain_Store) (p1 : Oindex_Work) (p3 : ByteArray) (p4 : Int) : Option ((Option Cli) × Obst_Tree × Omem_Mem × Ochain_Store × Oindex_Work) :=
 (F_bst_Tree_Find n p0 p0o0 p3).bind fun x10 => (F_index_after_ rc x10.2.1 x10.2.2 p0o1 p1 x10.1 (Cli.c_Index_Get_1_1 p4)).bind fun x11 => some (x11.1, x11.2.1, x11.2.2.1, x11.2.2.2.1, x11.2.2.2.2)
def F_index_Index_work_index_Index_Get_1 (n : Nat) (p0 : Obst_Tree) (p0o0 : Omem_Mem) (p0o1 : Ochain_Store) (p1c0 : ByteArray) (p1c1 : Int) : Option (Oindex_Work_2 × Obst_Tree × Omem_Mem × Ochain_Store) :=
 (F_index_Index_Get_1 n (F_istep n) p0 p0o0 p0o1 (⟨0, 0, ([] : List TKV)⟩ : Oindex_Work) p1c0 p1c1).bind fun x5 => some ((⟨x5.1, x5.2.2.2.2.cell, x5.2.2.2.2.bad, x5.2.2.2.2.found⟩ : Oindex_Work_2), x5.2.1, x5.2.2.1, x5.2.2.2.1)
def F_index_Index_Get (n : Nat) (p0 : Obst_Tree) (p0o0 : Omem_Mem) (p0o1 : Ochain_Store) (p1 : ByteArray) (p2 : Int) : Option (Oindex_Work_2 × Obst_Tree × Omem_Mem × Ochain_Store) :=
 (F_index_Index_work_index_Index_Get_1 n p0 p0o0 p0o1 p1 p2).bind fun x6 => some (x6.1, x6.2.1, x6.2.2.1, x6.2.2.2)
def F_index_Index_Walk_1 (n : Nat) (rc : RCi) (p0 : Obst_Tree) (p0o0 : Omem_Mem) (p0o1 : Ochain_Store) (p1 : Oindex_Work) (p3 : TRange) (p4 : Int) : Option ((Option Cli) × Obst_Tree × Omem_Mem × Ochain_Store × Oindex_Work) :=
 (F_index_Work_walk n rc p0 p0o0 p0o1 p1 p3 p3.From p4).bind fun x6 => some (x6.1, x6.2.1, x6.2.2.1, x6.2.2.2.1, x6.2.2.2.2)
def F_index_Index_work_index_Index_Walk_1 (n : Nat) (p0 : Obst_Tree) (p0o0 : Omem_Mem) (p0o1 : Ochain_Store) (p1c0 : TRange) (p1c1 : Int) : Option (Oindex_Work_2 × Obst_Tree × Omem_Mem × Ochain_Store) :=
 (F_index_Index_Walk_1 n (F_istep n) p0 p0o0 p0o1 (⟨0, 0, ([] : List TKV)⟩ : Oindex_Work) p1c0 p1c1).bind fun x5 => some ((⟨x5.1, x5.2.2.2.2.cell, x5.2.2.2.2.bad, x5.2.2.2.2.found⟩ : Oindex_Work_2), x5.2.1, x5.2.2.1, x5.2.2.2.1)
def F_index_Index_Walk (n : Nat) (p0 : Obst_Tree) (p0o0 : Omem_Mem) (p0o1 : Ochain_Store) (p1 : TRange) (p2 : Int) : Option (Oindex_Work_2 × Obst_Tree × Omem_Mem × Ochain_Store) :=
 (F_index_Index_work_index_Index_Walk_1 n p0 p0o0 p0o1 p1 p2).bind fun x6 => some (x6.1, x6.2.1, x6.2.2.1, x6.2.2.2)
def F_index_Work_Step (n : Nat) (p0 : Obst_Tree) (p0o0 : Omem_Mem) (p0o1 : Ochain_Store) (p1 : Oindex_Work_2) : Option (Bool × Obst_Tree × Omem_Mem × Ochain_Store × Oindex_Work_2) :=
 if (p1.next).isNone = true then (some (true, p0, p0o0, p0o1, p1)) else ((p1.next).bind fun x7 => ((F_istep n) p0 p0o0 p0o1 (⟨p1.cell, p1.bad, p1.found⟩ : Oindex_Work) x7 Argi.u).bind fun x6 => some ((x6.1).isNone, x6.2.1, x6.2.2.1, x6.2.2.2.1, (⟨x6.1, x6.2.2.2.2.cell, x6.2.2.2.2.bad, x6.2.2.2.2.found⟩ : Oindex_Work_2)))
def F_index_Run_L1 (n : Nat) : Nat → (Obst_Tree × Omem_Mem × Ochain_Store) → (Oindex_Work_2) → Option ((Obst_Tree × Omem_Mem × Ochain_Store) × (Oindex_Work_2))
 | 0, _, _ => none
 | m4 + 1, y4_0, y4_1 => (F_index_Work_Step n y4_0.1 y4_0.2.1 y4_0.2.2 y4_1).bind fun x5 => if (!x5.1) = true then (F_index_Run_L1 n m4 (x5.2.1, x5.2.2.1, x5.2.2.2.1) x5.2.2.2.2) else (some ((x5.2.1, x5.2.2.1, x5.2.2.2.1), x5.2.2.2.2))
def F_index_Run (n : Nat) (p0 : Obst_Tree) (p0o0 : Omem_Mem) (p0o1 : Ochain_Store) (p1 : Oindex_Work_2) : Option (Obst_Tree × Omem_Mem × Ochain_Store × Oindex_Work_2) :=
 (F_index_Run_L1 n n (p0, p0o0, p0o1) p1 : Option ((Obst_Tree × Omem_Mem × Ochain_Store) × (Oindex_Work_2))).bind fun s3 => some (s3.1.1, s3.1.2.1, s3.1.2.2, s3.2)
def F_chain_New (p0 : Omem_Mem) : Option (Ochain_Store × Omem_Mem) :=
 some ((⟨([] : List Tchain_version)⟩ : Ochain_Store), p0)
def F_index_New (p0 : Omem_Mem) : Option (Obst_Tree × Omem_Mem × Ochain_Store) :=
 (F_bst_New p0).bind fun x2 => (F_chain_New x2.2).bind fun x4 => some (x2.1, x4.2, x4.1)
def F_ref19_Rises_L2 (p0 : (List TEvent)) (i3 : Nat) (z3 : TEvent) : Nat → Int → Option (Lp (Int × Int × Bool) (Bool))
 | 0, _ => none
 | m13 + 1, y13_0 => if (decide (y13_0 < (i3 : Int))) = true then ((getI p0 y13_0).bind fun x15 => (if (x15.Rev == z3.Rev) = true then ((getI p0 y13_0).bind fun x20 => some (true, (eqB x20.Key z3.Key))) else (some (false, false)) : Option (Bool × Bool)).bind fun s18 => if s18.2 = true then (some (.out false)) else (F_ref19_Rises_L2 p0 i3 z3 m13 (IntKind.i64.wrap (y13_0 + 1)))) else (some (.go (y13_0, y13_0, (decide (y13_0 < (i3 : Int))))))
def F_ref19_Rises_L1 (n : Nat) (p0 : (List TEvent)) : (List TEvent) → Nat → Option (Lp (Unit) (Bool))
 | [], _ => some (.go ())
 | z3 :: r3, i3 => (if (decide (z3.Rev < 1)) = true then (some (true, true)) else ((if (decide ((i3 : Int) > 0)) = true then ((getI p0 (IntKind.i64.wrap ((i3 : Int) - 1))).bind fun x29 => some (true, (decide (z3.Rev < x29.Rev)))) else (some (false, false)) : Option (Bool × Bool)).bind fun s27 => some (false, s27.2)) : Option (Bool × Bool)).bind fun s8 => (if s8.2 = true then (some (true, true)) else ((if z3.Del = true then (some (true, (!eqB z3.Val ByteArray.empty))) else (some (false, false)) : Option (Bool × Bool)).bind fun s24 => some (false, s24.2)) : Option (Bool × Bool)).bind fun s10 => if s10.2 = true then (some (.out false)) else ((F_ref19_Rises_L2 p0 i3 z3 n 0 : Option (Lp (Int × Int × Bool) (Bool))).bind fun s12 => lpK2 s12 fun u12 => F_ref19_Rises_L1 n p0 r3 (i3 + 1))
def F_ref19_Rises (n : Nat) (p0 : (List TEvent)) : Option (Bool) :=
 (F_ref19_Rises_L1 n p0 p0 0 : Option (Lp (Unit) (Bool))).bind fun s2 => lpK s2 fun u2 => some true
def F_law19_few (n : Nat) (p0 : (List TEvent)) : Option (Bool) :=
 (if (decide ((p0.length : Int) ≤ 40)) = true then ((F_ref19_Rises n p0).bind fun x4 => some x4) else (some false) : Option (Bool)).bind fun s3 => some s3
def F_mem_Mem_Count (p0 : Omem_Mem) : Option (Int × Omem_Mem) :=
 some (p0.count, p0)
def F_law19_IndexSteps_L1 (n : Nat) : Nat → Int → (Obst_Tree × Omem_Mem × Ochain_Store) → (Oindex_Work_2) → (Oindex_Work_2) → (Oindex_Work_2) → (Oindex_Work_2) → Option ((Obst_Tree × Omem_Mem × Ochain_Store) × (Oindex_Work_2) × (Oindex_Work_2) × (Oindex_Work_2) × (Oindex_Work_2))
 | 0, _, _, _, _, _, _ => none
 | m44 + 1, y44_0, y44_1, y44_2, y44_3, y44_4, y44_5 => if (decide (y44_0 < 4)) = true then (((if y44_0 = ((0 : Nat) : Int) then ((F_index_Run n y44_1.1 y44_1.2.1 y44_1.2.2 y44_5).bind fun x48 => some ((x48.1, x48.2.1, x48.2.2.1), y44_2, y44_3, y44_4, x48.2.2.2)) else if y44_0 = ((1 : Nat) : Int) then ((F_index_Run n y44_1.1 y44_1.2.1 y44_1.2.2 y44_4).bind fun x49 => some ((x49.1, x49.2.1, x49.2.2.1), y44_2, y44_3, x49.2.2.2, y44_5)) else if y44_0 = ((2 : Nat) : Int) then ((F_index_Run n y44_1.1 y44_1.2.1 y44_1.2.2 y44_3).bind fun x50 => some ((x50.1, x50.2.1, x50.2.2.1), y44_2, x50.2.2.2, y44_4, y44_5)) else if y44_0 = ((3 : Nat) : Int) then ((F_index_Run n y44_1.1 y44_1.2.1 y44_1.2.2 y44_2).bind fun x51 => some ((x51.1, x51.2.1, x51.2.2.1), x51.2.2.2, y44_3, y44_4, y44_5)) else none) : Option ((Obst_Tree × Omem_Mem × Ochain_Store) × (Oindex_Work_2) × (Oindex_Work_2) × (Oindex_Work_2) × (Oindex_Work_2))).bind fun s46 => F_law19_IndexSteps_L1 n m44 (IntKind.i64.wrap (y44_0 + 1)) (s46.1.1, s46.1.2.1, s46.1.2.2) s46.2.1 s46.2.2.1 s46.2.2.2.1 s46.2.2.2.2) else (some ((y44_1.1, y44_1.2.1, y44_1.2.2), y44_2, y44_3, y44_4, y44_5))
def F_law19_IndexSteps_L2 (n : Nat) (p2 : (List Int)) : Nat → Int → (Oindex_Work_2) → (Oindex_Work_2) → (Oindex_Work_2) → (Obst_Tree × Omem_Mem × Ochain_Store) → (Oindex_Work_2) → Option (Lp ((Obst_Tree × Omem_Mem × Ochain_Store) × (Oindex_Work_2) × (Oindex_Work_2) × (Oindex_Work_2) × (Oindex_Work_2)) (Bool))
 | 0, _, _, _, _, _, _ => none
 | m52 + 1, y52_0, y52_1, y52_2, y52_3, y52_4, y52_5 => if (decide (y52_0 < 600)) = true then (((if (decide (y52_0 < (p2.length : Int))) = true then ((getI p2 y52_0).bind fun x107 => some (IntKind.i64.wrap (Int.tmod x107 4))) else (some (Int.tmod y52_0 4)) : Option (Int)).bind fun s56 => (F_mem_Mem_Count y52_4.2.1).bind fun x57 => (if s56 = ((0 : Nat) : Int) then ((F_index_Work_Step n y52_4.1 x57.2 y52_4.2.2 y52_1).bind fun x63 => (F_mem_Mem_Count x63.2.2.1).bind fun x66 => if (decide (x66.1 > (IntKind.i64.wrap (x57.1 + 1)))) = true then (some (.out false)) else (some (.go (s56, x57.1, x57.1, s56, x66.1, x57.1, (IntKind.i64.wrap (x57.1 + 1)), (decide (x66.1 > (IntKind.i64.wrap (x57.1 + 1)))), (x63.2.1, x66.2, x63.2.2.2.1), y52_5, y52_3, y52_2, x63.2.2.2.2)))) else if s56 = ((1 : Nat) : Int) then ((F_index_Work_Step n y52_4.1 x57.2 y52_4.2.2 y52_2).bind fun x74 => (F_mem_Mem_Count x74.2.2.1).bind fun x77 => if (decide (x77.1 > (IntKind.i64.wrap (x57.1 + 1)))) = true then (some (.out false)) else (some (.go (s56, x57.1, x57.1, s56, x77.1, x57.1, (IntKind.i64.wrap (x57.1 + 1)), (decide (x77.1 > (IntKind.i64.wrap (x57.1 + 1)))), (x74.2.1, x77.2, x74.2.2.2.1), y52_5, y52_3, x74.2.2.2.2, y52_1)))) else if s56 = ((2 : Nat) : Int) then ((F_index_Work_Step n y52_4.1 x57.2 y52_4.2.2 y52_3).bind fun x85 => (F_mem_Mem_Count x85.2.2.1).bind fun x88 => if (decide (x88.1 > (IntKind.i64.wrap (x57.1 + 1)))) = true then (some (.out false)) else (some (.go (s56, x57.1, x57.1, s56, x88.1, x57.1, (IntKind.i64.wrap (x57.1 + 1)), (decide (x88.1 > (IntKind.i64.wrap (x57.1 + 1)))), (x85.2.1, x88.2, x85.2.2.2.1), y52_5, x85.2.2.2.2, y52_2, y52_1)))) else if s56 = ((3 : Nat) : Int) then ((F_index_Work_Step n y52_4.1 x57.2 y52_4.2.2 y52_5).bind fun x96 => (F_mem_Mem_Count x96.2.2.1).bind fun x99 => if (decide (x99.1 > (IntKind.i64.wrap (x57.1 + 1)))) = true then (some (.out false)) else (some (.go (s56, x57.1, x57.1, s56, x99.1, x57.1, (IntKind.i64.wrap (x57.1 + 1)), (decide (x99.1 > (IntKind.i64.wrap (x57.1 + 1)))), (x96.2.1, x99.2, x96.2.2.2.1), x96.2.2.2.2, y52_3, y52_2, y52_1)))) else none) : Option (Lp (Int × Int × Int × Int × Int × Int × Int × Bool × (Obst_Tree × Omem_Mem × Ochain_Store) × (Oindex_Work_2) × (Oindex_Work_2) × (Oindex_Work_2) × (Oindex_Work_2)) (Bool))).bind fun s54 => lpK2 s54 fun u54 => F_law19_IndexSteps_L2 n p2 m52 (IntKind.i64.wrap (y52_0 + 1)) u54.2.2.2.2.2.2.2.2.2.2.2.2 u54.2.2.2.2.2.2.2.2.2.2.2.1 u54.2.2.2.2.2.2.2.2.2.2.1 (u54.2.2.2.2.2.2.2.2.1.1, u54.2.2.2.2.2.2.2.2.1.2.1, u54.2.2.2.2.2.2.2.2.1.2.2) u54.2.2.2.2.2.2.2.2.2.1) else (some (.go ((y52_4.1, y52_4.2.1, y52_4.2.2), y52_5, y52_3, y52_2, y52_1)))
def F_law19_IndexSteps_L3 (n : Nat) : (List TEvent) → Nat → (Obst_Tree × Omem_Mem × Ochain_Store) → Option ((Obst_Tree × Omem_Mem × Ochain_Store))
 | [], _, y108_0 => some (y108_0.1, y108_0.2.1, y108_0.2.2)
 | z108 :: r108, i108, y108_0 => (F_index_Index_Put n y108_0.1 y108_0.2.1 y108_0.2.2 z108).bind fun x112 => (F_index_Run n x112.2.1 x112.2.2.1 x112.2.2.2 x112.1).bind fun x113 => F_law19_IndexSteps_L3 n r108 (i108 + 1) (x113.1, x113.2.1, x113.2.2.1)
def F_law19_IndexSteps (n : Nat) (p0 : (List TEvent)) (p1 : TEvent) (p2 : (List Int)) : Option (Bool) :=
 (F_law19_few n p0).bind fun x6 => if (!x6) = true then (some true) else ((F_mem_New_nil ).bind fun x8 => (F_index_New x8).bind fun x9 => (F_law19_IndexSteps_L3 n p0 0 (x9.1, x9.2.1, x9.2.2) : Option ((Obst_Tree × Omem_Mem × Ochain_Store))).bind fun s10 => (F_index_Index_Put n s10.1 s10.2.1 s10.2.2 p1).bind fun x12 => (F_index_Index_Get n x12.2.1 x12.2.2.1 x12.2.2.2 p1.Key 9).bind fun x13 => (F_index_Index_Walk n x13.2.1 x13.2.2.1 x13.2.2.2 (⟨ByteArray.empty, ByteArray.empty⟩ : TRange) 9).bind fun x14 => (F_index_Index_Ensure n x14.2.1 x14.2.2.1 x14.2.2.2 p1.Key).bind fun x15 => (F_law19_IndexSteps_L2 n p2 n 0 x12.1 x13.1 x14.1 (x15.2.1, x15.2.2.1, x15.2.2.2) x15.1 : Option (Lp ((Obst_Tree × Omem_Mem × Ochain_Store) × (Oindex_Work_2) × (Oindex_Work_2) × (Oindex_Work_2) × (Oindex_Work_2)) (Bool))).bind fun s16 => lpK s16 fun u16 => (F_law19_IndexSteps_L1 n n 0 (u16.1.1, u16.1.2.1, u16.1.2.2) u16.2.1 u16.2.2.1 u16.2.2.2.1 u16.2.2.2.2 : Option ((Obst_Tree × Omem_Mem × Ochain_Store) × (Oindex_Work_2) × (Oindex_Work_2) × (Oindex_Work_2) × (Oindex_Work_2))).bind fun s17 => (F_mem_Mem_Count s17.1.2.1).bind fun x18 => (F_index_Work_Step n s17.1.1 x18.2 s17.1.2.2 s17.2.2.2.2).bind fun x23 => (if x23.1 = true then ((F_index_Work_Step n x23.2.1 x23.2.2.1 x23.2.2.2.1 s17.2.2.2.1).bind fun x43 => some (x43.1, (x43.2.1, x43.2.2.1, x43.2.2.2.1), x43.2.2.2.2)) else (some (false, (x23.2.1, x23.2.2.1, x23.2.2.2.1), s17.2.2.2.1)) : Option (Bool × (Obst_Tree × Omem_Mem × Ochain_Store) × (Oindex_Work_2))).bind fun s27 => (if s27.1 = true then ((F_index_Work_Step n s27.2.1.1 s27.2.1.2.1 s27.2.1.2.2 s17.2.2.1).bind fun x42 => some (x42.1, (x42.2.1, x42.2.2.1, x42.2.2.2.1), x42.2.2.2.2)) else (some (false, (s27.2.1.1, s27.2.1.2.1, s27.2.1.2.2), s17.2.2.1)) : Option (Bool × (Obst_Tree × Omem_Mem × Ochain_Store) × (Oindex_Work_2))).bind fun s29 => (if s29.1 = true then ((F_index_Work_Step n s29.2.1.1 s29.2.1.2.1 s29.2.1.2.2 s17.2.1).bind fun x41 => some (x41.1, (x41.2.1, x41.2.2.1, x41.2.2.2.1), x41.2.2.2.2)) else (some (false, (s29.2.1.1, s29.2.1.2.1, s29.2.1.2.2), s17.2.1)) : Option (Bool × (Obst_Tree × Omem_Mem × Ochain_Store) × (Oindex_Work_2))).bind fun s31 => (if s31.1 = true then ((F_mem_Mem_Count s31.2.1.2.1).bind fun x34 => some ((x34.1 == x18.1), (s31.2.1.1, x34.2, s31.2.1.2.2))) else (some (false, (s31.2.1.1, s31.2.1.2.1, s31.2.1.2.2))) : Option (Bool × (Obst_Tree × Omem_Mem × Ochain_Store))).bind fun s33 => some s33.1)
end Go.Proofs.YtndhbaidibioeaaGreat.V
