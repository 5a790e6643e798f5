/-
  The seat's types.
-/
import Derived.Test.YtcohccaggepajaaEngC
import Derived.Test.YtcohccaggepajaaRows
set_option linter.unusedSimpArgs false
set_option linter.unusedVariables false
namespace Go.Proofs.Ytcohccaggepajaa
open Go Go.Eng

noncomputable def tyF : TypeId → Option TyD := tyOf Try.prog
noncomputable def eqF : TypeId → Option (List Nat) := eqOf Try.prog
noncomputable def ctx (con : FuncId → Option Con) : Ctx := ⟨tyF, eqF, con⟩
theorem tyf_int : tyF 3 = some ⟨.int .i64, 1, 8, [.int .i64 0]⟩ := by kernel_rfl
theorem ty_int {con : FuncId → Option Con} : (ctx con).ty 3 = some ⟨.int .i64, 1, 8, [.int .i64 0]⟩ := tyf_int
theorem tyf_bool : tyF 4 = some ⟨.bool, 1, 1, [.bool false]⟩ := by kernel_rfl
theorem ty_bool {con : FuncId → Option Con} : (ctx con).ty 4 = some ⟨.bool, 1, 1, [.bool false]⟩ := tyf_bool
theorem tyf_uint8 : tyF 5 = some ⟨.int .u8, 1, 1, [.int .u8 0]⟩ := by kernel_rfl
theorem ty_uint8 {con : FuncId → Option Con} : (ctx con).ty 5 = some ⟨.int .u8, 1, 1, [.int .u8 0]⟩ := tyf_uint8
theorem tyf_string : tyF 9 = some ⟨.str, 1, 16, [.str []]⟩ := by kernel_rfl
theorem ty_string {con : FuncId → Option Con} : (ctx con).ty 9 = some ⟨.str, 1, 16, [.str []]⟩ := tyf_string
theorem tyf_api_Node : tyF 23 = some ⟨.struct [(3, 0), (3, 1), (9, 2), (9, 3), (3, 4)], 5, 56, [.int .i64 0, .int .i64 0, .str [], .str [], .int .i64 0]⟩ := by kernel_rfl
theorem ty_api_Node {con : FuncId → Option Con} : (ctx con).ty 23 = some ⟨.struct [(3, 0), (3, 1), (9, 2), (9, 3), (3, 4)], 5, 56, [.int .i64 0, .int .i64 0, .str [], .str [], .int .i64 0]⟩ := tyf_api_Node
theorem tyf_A4uint8 : tyF 24 = some ⟨.arr 4 5, 4, 4, [.int .u8 0, .int .u8 0, .int .u8 0, .int .u8 0]⟩ := by kernel_rfl
theorem ty_A4uint8 {con : FuncId → Option Con} : (ctx con).ty 24 = some ⟨.arr 4 5, 4, 4, [.int .u8 0, .int .u8 0, .int .u8 0, .int .u8 0]⟩ := tyf_A4uint8
theorem tyf_Luint8 : tyF 25 = some ⟨.slice 5, 1, 24, [.nilS]⟩ := by kernel_rfl
theorem ty_Luint8 {con : FuncId → Option Con} : (ctx con).ty 25 = some ⟨.slice 5, 1, 24, [.nilS]⟩ := tyf_Luint8
theorem tyf_uint32 : tyF 26 = some ⟨.int .u32, 1, 4, [.int .u32 0]⟩ := by kernel_rfl
theorem ty_uint32 {con : FuncId → Option Con} : (ctx con).ty 26 = some ⟨.int .u32, 1, 4, [.int .u32 0]⟩ := tyf_uint32
theorem tyf_api_Sum : tyF 28 = some ⟨.arr 4 26, 4, 16, [.int .u32 0, .int .u32 0, .int .u32 0, .int .u32 0]⟩ := by kernel_rfl
theorem ty_api_Sum {con : FuncId → Option Con} : (ctx con).ty 28 = some ⟨.arr 4 26, 4, 16, [.int .u32 0, .int .u32 0, .int .u32 0, .int .u32 0]⟩ := tyf_api_Sum
theorem tyf_api_Ptr : tyF 30 = some ⟨.struct [(3, 0), (3, 1), (28, 2)], 6, 32, [.int .i64 0, .int .i64 0, .int .u32 0, .int .u32 0, .int .u32 0, .int .u32 0]⟩ := by kernel_rfl
theorem ty_api_Ptr {con : FuncId → Option Con} : (ctx con).ty 30 = some ⟨.struct [(3, 0), (3, 1), (28, 2)], 6, 32, [.int .i64 0, .int .i64 0, .int .u32 0, .int .u32 0, .int .u32 0, .int .u32 0]⟩ := tyf_api_Ptr
theorem tyf_Ppalimpmade_Picks : tyF 32 = some ⟨.ptr 53, 1, 8, [.nilP]⟩ := by kernel_rfl
theorem ty_Ppalimpmade_Picks {con : FuncId → Option Con} : (ctx con).ty 32 = some ⟨.ptr 53, 1, 8, [.nilP]⟩ := tyf_Ppalimpmade_Picks
theorem tyf_Lapi_Ptr : tyF 34 = some ⟨.slice 30, 1, 24, [.nilS]⟩ := by kernel_rfl
theorem ty_Lapi_Ptr {con : FuncId → Option Con} : (ctx con).ty 34 = some ⟨.slice 30, 1, 24, [.nilS]⟩ := tyf_Lapi_Ptr
theorem tyf_Lapi_Node : tyF 36 = some ⟨.slice 23, 1, 24, [.nilS]⟩ := by kernel_rfl
theorem ty_Lapi_Node {con : FuncId → Option Con} : (ctx con).ty 36 = some ⟨.slice 23, 1, 24, [.nilS]⟩ := tyf_Lapi_Node
theorem tyf_Lint : tyF 37 = some ⟨.slice 3, 1, 24, [.nilS]⟩ := by kernel_rfl
theorem ty_Lint {con : FuncId → Option Con} : (ctx con).ty 37 = some ⟨.slice 3, 1, 24, [.nilS]⟩ := tyf_Lint
theorem tyf_LLapi_Ptr : tyF 38 = some ⟨.slice 34, 1, 24, [.nilS]⟩ := by kernel_rfl
theorem ty_LLapi_Ptr {con : FuncId → Option Con} : (ctx con).ty 38 = some ⟨.slice 34, 1, 24, [.nilS]⟩ := tyf_LLapi_Ptr
theorem tyf_Lstring : tyF 43 = some ⟨.slice 9, 1, 24, [.nilS]⟩ := by kernel_rfl
theorem ty_Lstring {con : FuncId → Option Con} : (ctx con).ty 43 = some ⟨.slice 9, 1, 24, [.nilS]⟩ := tyf_Lstring
theorem tyf_palimpmade_Picks : tyF 53 = some ⟨.struct [(25, 0), (3, 1)], 2, 32, [.nilS, .int .i64 0]⟩ := by kernel_rfl
theorem ty_palimpmade_Picks {con : FuncId → Option Con} : (ctx con).ty 53 = some ⟨.struct [(25, 0), (3, 1)], 2, 32, [.nilS, .int .i64 0]⟩ := tyf_palimpmade_Picks
theorem tyf_ptr_pointer : tyF 67 = some ⟨.struct [(30, 0)], 6, 32, [.int .i64 0, .int .i64 0, .int .u32 0, .int .u32 0, .int .u32 0, .int .u32 0]⟩ := by kernel_rfl
theorem ty_ptr_pointer {con : FuncId → Option Con} : (ctx con).ty 67 = some ⟨.struct [(30, 0)], 6, 32, [.int .i64 0, .int .i64 0, .int .u32 0, .int .u32 0, .int .u32 0, .int .u32 0]⟩ := tyf_ptr_pointer
structure TNode where
  Kind : Int
  Up : Int
  Name : (List UInt8)
  Body : (List UInt8)
  Bad : Int
  deriving DecidableEq
instance cTNode : Cell TNode := Cell.iso (α := Int × Int × (List UInt8) × (List UInt8) × Int) (fun x => (x.Kind, x.Up, x.Name, x.Body, x.Bad)) (fun y => ⟨y.1, y.2.1, y.2.2.1, y.2.2.2.1, y.2.2.2.2⟩) (fun _ => rfl) (fun _ => rfl)
instance iTNode : Inhabited TNode := ⟨⟨0, 0, [], [], 0⟩⟩
theorem enc_TNode {x : TNode} : Cell.enc x = [.int .i64 x.Kind, .int .i64 x.Up, .str x.Name, .str x.Body, .int .i64 x.Bad] := rfl
theorem dec_TNode {x y : TNode} : (decide (x.Kind = y.Kind) && (decide (x.Up = y.Up) && (decide (x.Name = y.Name) && (decide (x.Body = y.Body) && (decide (x.Bad = y.Bad)))))) = decide (x = y) := by
  first | (cases x; cases y; simp [← UInt32.toNat_inj, Int.ofNat_inj, Prod.ext_iff, and_assoc]; done) | (cases x; cases y; simp only [true_and]; simp)
theorem dc_TNode {cs : List TV} : (Cell.dec cs : Option TNode) = (Cell.dec (α := Int × Int × (List UInt8) × (List UInt8) × Int) cs).map fun y => ⟨y.1, y.2.1, y.2.2.1, y.2.2.2.1, y.2.2.2.2⟩ := rfl
theorem eta_TNode {x : TNode} : (⟨x.Kind, x.Up, x.Name, x.Body, x.Bad⟩ : TNode) = x := rfl
theorem w_TNode : Cell.width TNode = 5 := rfl
structure TPtr where
  Addr : Int
  Birth : Int
  Sum : (UInt32 × UInt32 × UInt32 × UInt32)
  deriving DecidableEq
instance cTPtr : Cell TPtr := Cell.iso (α := Int × Int × (UInt32 × UInt32 × UInt32 × UInt32)) (fun x => (x.Addr, x.Birth, x.Sum)) (fun y => ⟨y.1, y.2.1, y.2.2⟩) (fun _ => rfl) (fun _ => rfl)
instance iTPtr : Inhabited TPtr := ⟨⟨0, 0, (0, 0, 0, 0)⟩⟩
theorem enc_TPtr {x : TPtr} : Cell.enc x = [.int .i64 x.Addr, .int .i64 x.Birth, .int .u32 (x.Sum.1.toNat : Int), .int .u32 (x.Sum.2.1.toNat : Int), .int .u32 (x.Sum.2.2.1.toNat : Int), .int .u32 (x.Sum.2.2.2.toNat : Int)] := rfl
theorem dec_TPtr {x y : TPtr} : (decide (x.Addr = y.Addr) && (decide (x.Birth = y.Birth) && (decide ((x.Sum.1.toNat : Int) = (y.Sum.1.toNat : Int)) && (decide ((x.Sum.2.1.toNat : Int) = (y.Sum.2.1.toNat : Int)) && (decide ((x.Sum.2.2.1.toNat : Int) = (y.Sum.2.2.1.toNat : Int)) && (decide ((x.Sum.2.2.2.toNat : Int) = (y.Sum.2.2.2.toNat : Int)))))))) = decide (x = y) := by
  first | (cases x; cases y; simp [← UInt32.toNat_inj, Int.ofNat_inj, Prod.ext_iff, and_assoc]; done) | (cases x; cases y; simp only [dec_TNode]; simp)
theorem dc_TPtr {cs : List TV} : (Cell.dec cs : Option TPtr) = (Cell.dec (α := Int × Int × (UInt32 × UInt32 × UInt32 × UInt32)) cs).map fun y => ⟨y.1, y.2.1, y.2.2⟩ := rfl
theorem eta_TPtr {x : TPtr} : (⟨x.Addr, x.Birth, (x.Sum.1, x.Sum.2.1, x.Sum.2.2.1, x.Sum.2.2.2)⟩ : TPtr) = x := rfl
theorem w_TPtr : Cell.width TPtr = 6 := rfl
structure TPicks where
  l : (List Byt)
  n : Int
  deriving DecidableEq
instance cTPicks : Cell TPicks := Cell.iso (α := (List Byt) × Int) (fun x => (x.l, x.n)) (fun y => ⟨y.1, y.2⟩) (fun _ => rfl) (fun _ => rfl)
instance iTPicks : Inhabited TPicks := ⟨⟨[], 0⟩⟩
theorem enc_TPicks {x : TPicks} : Cell.enc x = [sl x.l, .int .i64 x.n] := rfl
theorem dc_TPicks {cs : List TV} : (Cell.dec cs : Option TPicks) = (Cell.dec (α := (List Byt) × Int) cs).map fun y => ⟨y.1, y.2⟩ := rfl
theorem eta_TPicks {x : TPicks} : (⟨x.l, x.n⟩ : TPicks) = x := rfl
theorem w_TPicks : Cell.width TPicks = 2 := rfl
structure Tpointer where
  Ptr : TPtr
  deriving DecidableEq
instance cTpointer : Cell Tpointer := Cell.iso (α := TPtr) (fun x => (x.Ptr)) (fun y => ⟨y⟩) (fun _ => rfl) (fun _ => rfl)
instance iTpointer : Inhabited Tpointer := ⟨⟨⟨0, 0, (0, 0, 0, 0)⟩⟩⟩
theorem enc_Tpointer {x : Tpointer} : Cell.enc x = [.int .i64 x.Ptr.Addr, .int .i64 x.Ptr.Birth, .int .u32 (x.Ptr.Sum.1.toNat : Int), .int .u32 (x.Ptr.Sum.2.1.toNat : Int), .int .u32 (x.Ptr.Sum.2.2.1.toNat : Int), .int .u32 (x.Ptr.Sum.2.2.2.toNat : Int)] := rfl
theorem dec_Tpointer {x y : Tpointer} : (decide (x.Ptr.Addr = y.Ptr.Addr) && (decide (x.Ptr.Birth = y.Ptr.Birth) && (decide ((x.Ptr.Sum.1.toNat : Int) = (y.Ptr.Sum.1.toNat : Int)) && (decide ((x.Ptr.Sum.2.1.toNat : Int) = (y.Ptr.Sum.2.1.toNat : Int)) && (decide ((x.Ptr.Sum.2.2.1.toNat : Int) = (y.Ptr.Sum.2.2.1.toNat : Int)) && (decide ((x.Ptr.Sum.2.2.2.toNat : Int) = (y.Ptr.Sum.2.2.2.toNat : Int)))))))) = decide (x = y) := by
  first | (cases x; cases y; simp [← UInt32.toNat_inj, Int.ofNat_inj, Prod.ext_iff, and_assoc]; done) | (cases x; cases y; simp only [dec_TNode, dec_TPtr]; simp)
theorem dc_Tpointer {cs : List TV} : (Cell.dec cs : Option Tpointer) = (Cell.dec (α := TPtr) cs).map fun y => ⟨y⟩ := rfl
theorem eta_Tpointer {x : Tpointer} : (⟨⟨x.Ptr.Addr, x.Ptr.Birth, (x.Ptr.Sum.1, x.Ptr.Sum.2.1, x.Ptr.Sum.2.2.1, x.Ptr.Sum.2.2.2)⟩⟩ : Tpointer) = x := rfl
theorem w_Tpointer : Cell.width Tpointer = 6 := rfl
def rl_int {con : FuncId → Option Con} := PLift.up (ld_rules (C := ctx con) ty_int)
def rA_int {con : FuncId → Option Con} := PLift.up (alloc_rules (C := ctx con) ty_int)
def rS_int {con : FuncId → Option Con} := PLift.up (store_rules (C := ctx con) ty_int)
def rR_int {con : FuncId → Option Con} := PLift.up (storeR_rules (C := ctx con) ty_int)
def rl_bool {con : FuncId → Option Con} := PLift.up (ld_rules (C := ctx con) ty_bool)
def rA_bool {con : FuncId → Option Con} := PLift.up (alloc_rules (C := ctx con) ty_bool)
def rS_bool {con : FuncId → Option Con} := PLift.up (store_rules (C := ctx con) ty_bool)
def rR_bool {con : FuncId → Option Con} := PLift.up (storeR_rules (C := ctx con) ty_bool)
def rq_bool {con : FuncId → Option Con} := PLift.up (bool_rules (C := ctx con) ty_bool)
def rl_uint8 {con : FuncId → Option Con} := PLift.up (ld_rules (C := ctx con) ty_uint8)
def rA_uint8 {con : FuncId → Option Con} := PLift.up (alloc_rules (C := ctx con) ty_uint8)
def rS_uint8 {con : FuncId → Option Con} := PLift.up (store_rules (C := ctx con) ty_uint8)
def rR_uint8 {con : FuncId → Option Con} := PLift.up (storeR_rules (C := ctx con) ty_uint8)
def rl_string {con : FuncId → Option Con} := PLift.up (ld_rules (C := ctx con) ty_string)
def rA_string {con : FuncId → Option Con} := PLift.up (alloc_rules (C := ctx con) ty_string)
def rS_string {con : FuncId → Option Con} := PLift.up (store_rules (C := ctx con) ty_string)
def rR_string {con : FuncId → Option Con} := PLift.up (storeR_rules (C := ctx con) ty_string)
def rs_string {con : FuncId → Option Con} := PLift.up (str_rules (C := ctx con) ty_string)
def rl_api_Node {con : FuncId → Option Con} := PLift.up (ld_rules (C := ctx con) ty_api_Node)
def rA_api_Node {con : FuncId → Option Con} := PLift.up (alloc_rules (C := ctx con) ty_api_Node)
def rS_api_Node {con : FuncId → Option Con} := PLift.up (store_rules (C := ctx con) ty_api_Node)
def rR_api_Node {con : FuncId → Option Con} := PLift.up (storeR_rules (C := ctx con) ty_api_Node)
theorem eqf_api_Node : eqF 23 = some [13, 13, 3, 3, 13] := by kernel_rfl
theorem eq_api_Node {con : FuncId → Option Con} : (ctx con).eqk 23 = some [13, 13, 3, 3, 13] := eqf_api_Node
def re_api_Node {con : FuncId → Option Con} := PLift.up (eq_rules (C := ctx con) eq_api_Node)
def rB_api_Node {con : FuncId → Option Con} := PLift.up (build_rules (C := ctx con) ty_api_Node rfl)
def rF_api_Node_0 {con : FuncId → Option Con} := PLift.up (fillS_rule (C := ctx con) (fs := [(3, 0), (3, 1), (9, 2), (9, 3), (3, 4)]) 0 rfl ty_int)
def rf_api_Node_0 {con : FuncId → Option Con} := PLift.up (fld_rules (C := ctx con) 0 ty_api_Node rfl ty_int)
def rF_api_Node_1 {con : FuncId → Option Con} := PLift.up (fillS_rule (C := ctx con) (fs := [(3, 0), (3, 1), (9, 2), (9, 3), (3, 4)]) 1 rfl ty_int)
def rf_api_Node_1 {con : FuncId → Option Con} := PLift.up (fld_rules (C := ctx con) 1 ty_api_Node rfl ty_int)
def rF_api_Node_2 {con : FuncId → Option Con} := PLift.up (fillS_rule (C := ctx con) (fs := [(3, 0), (3, 1), (9, 2), (9, 3), (3, 4)]) 2 rfl ty_string)
def rf_api_Node_2 {con : FuncId → Option Con} := PLift.up (fld_rules (C := ctx con) 2 ty_api_Node rfl ty_string)
def rF_api_Node_3 {con : FuncId → Option Con} := PLift.up (fillS_rule (C := ctx con) (fs := [(3, 0), (3, 1), (9, 2), (9, 3), (3, 4)]) 3 rfl ty_string)
def rf_api_Node_3 {con : FuncId → Option Con} := PLift.up (fld_rules (C := ctx con) 3 ty_api_Node rfl ty_string)
def rF_api_Node_4 {con : FuncId → Option Con} := PLift.up (fillS_rule (C := ctx con) (fs := [(3, 0), (3, 1), (9, 2), (9, 3), (3, 4)]) 4 rfl ty_int)
def rf_api_Node_4 {con : FuncId → Option Con} := PLift.up (fld_rules (C := ctx con) 4 ty_api_Node rfl ty_int)
def rl_A4uint8 {con : FuncId → Option Con} := PLift.up (ld_rules (C := ctx con) ty_A4uint8)
def rA_A4uint8 {con : FuncId → Option Con} := PLift.up (alloc_rules (C := ctx con) ty_A4uint8)
def rS_A4uint8 {con : FuncId → Option Con} := PLift.up (store_rules (C := ctx con) ty_A4uint8)
def rR_A4uint8 {con : FuncId → Option Con} := PLift.up (storeR_rules (C := ctx con) ty_A4uint8)
theorem eqf_A4uint8 : eqF 24 = some [14, 14, 14, 14] := by kernel_rfl
theorem eq_A4uint8 {con : FuncId → Option Con} : (ctx con).eqk 24 = some [14, 14, 14, 14] := eqf_A4uint8
def re_A4uint8 {con : FuncId → Option Con} := PLift.up (eq_rules (C := ctx con) eq_A4uint8)
def ra_A4uint8 {con : FuncId → Option Con} := PLift.up (arr_rules (C := ctx con) ty_A4uint8 ty_uint8)
def rB_A4uint8 {con : FuncId → Option Con} := PLift.up (buildA_rules (C := ctx con) ty_A4uint8 ty_uint8)
def rl_Luint8 {con : FuncId → Option Con} := PLift.up (ld_rules (C := ctx con) ty_Luint8)
def rA_Luint8 {con : FuncId → Option Con} := PLift.up (alloc_rules (C := ctx con) ty_Luint8)
def rS_Luint8 {con : FuncId → Option Con} := PLift.up (store_rules (C := ctx con) ty_Luint8)
def rR_Luint8 {con : FuncId → Option Con} := PLift.up (storeR_rules (C := ctx con) ty_Luint8)
def rv_Luint8 {con : FuncId → Option Con} := PLift.up (sl_rules (C := ctx con) Byt ty_Luint8 ty_uint8 rfl)
def ri_Luint8 {con : FuncId → Option Con} := PLift.up (idxt_rules (C := ctx con) Byt ty_Luint8 ty_uint8 rfl)
def rb_Luint8 {con : FuncId → Option Con} := PLift.up (bs_rules (C := ctx con) ty_Luint8 ty_uint8)
def rl_uint32 {con : FuncId → Option Con} := PLift.up (ld_rules (C := ctx con) ty_uint32)
def rA_uint32 {con : FuncId → Option Con} := PLift.up (alloc_rules (C := ctx con) ty_uint32)
def rS_uint32 {con : FuncId → Option Con} := PLift.up (store_rules (C := ctx con) ty_uint32)
def rR_uint32 {con : FuncId → Option Con} := PLift.up (storeR_rules (C := ctx con) ty_uint32)
def rl_api_Sum {con : FuncId → Option Con} := PLift.up (ld_rules (C := ctx con) ty_api_Sum)
def rA_api_Sum {con : FuncId → Option Con} := PLift.up (alloc_rules (C := ctx con) ty_api_Sum)
def rS_api_Sum {con : FuncId → Option Con} := PLift.up (store_rules (C := ctx con) ty_api_Sum)
def rR_api_Sum {con : FuncId → Option Con} := PLift.up (storeR_rules (C := ctx con) ty_api_Sum)
theorem eqf_api_Sum : eqF 28 = some [16, 16, 16, 16] := by kernel_rfl
theorem eq_api_Sum {con : FuncId → Option Con} : (ctx con).eqk 28 = some [16, 16, 16, 16] := eqf_api_Sum
def re_api_Sum {con : FuncId → Option Con} := PLift.up (eq_rules (C := ctx con) eq_api_Sum)
def ra_api_Sum {con : FuncId → Option Con} := PLift.up (arr_rules (C := ctx con) ty_api_Sum ty_uint32)
def rB_api_Sum {con : FuncId → Option Con} := PLift.up (buildA_rules (C := ctx con) ty_api_Sum ty_uint32)
def rl_api_Ptr {con : FuncId → Option Con} := PLift.up (ld_rules (C := ctx con) ty_api_Ptr)
def rA_api_Ptr {con : FuncId → Option Con} := PLift.up (alloc_rules (C := ctx con) ty_api_Ptr)
def rS_api_Ptr {con : FuncId → Option Con} := PLift.up (store_rules (C := ctx con) ty_api_Ptr)
def rR_api_Ptr {con : FuncId → Option Con} := PLift.up (storeR_rules (C := ctx con) ty_api_Ptr)
theorem eqf_api_Ptr : eqF 30 = some [13, 13, 16, 16, 16, 16] := by kernel_rfl
theorem eq_api_Ptr {con : FuncId → Option Con} : (ctx con).eqk 30 = some [13, 13, 16, 16, 16, 16] := eqf_api_Ptr
def re_api_Ptr {con : FuncId → Option Con} := PLift.up (eq_rules (C := ctx con) eq_api_Ptr)
def rB_api_Ptr {con : FuncId → Option Con} := PLift.up (build_rules (C := ctx con) ty_api_Ptr rfl)
def rF_api_Ptr_0 {con : FuncId → Option Con} := PLift.up (fillS_rule (C := ctx con) (fs := [(3, 0), (3, 1), (28, 2)]) 0 rfl ty_int)
def rf_api_Ptr_0 {con : FuncId → Option Con} := PLift.up (fld_rules (C := ctx con) 0 ty_api_Ptr rfl ty_int)
def rF_api_Ptr_1 {con : FuncId → Option Con} := PLift.up (fillS_rule (C := ctx con) (fs := [(3, 0), (3, 1), (28, 2)]) 1 rfl ty_int)
def rf_api_Ptr_1 {con : FuncId → Option Con} := PLift.up (fld_rules (C := ctx con) 1 ty_api_Ptr rfl ty_int)
def rF_api_Ptr_2 {con : FuncId → Option Con} := PLift.up (fillS_rule (C := ctx con) (fs := [(3, 0), (3, 1), (28, 2)]) 2 rfl ty_api_Sum)
def rf_api_Ptr_2 {con : FuncId → Option Con} := PLift.up (fld_rules (C := ctx con) 2 ty_api_Ptr rfl ty_api_Sum)
def rl_Ppalimpmade_Picks {con : FuncId → Option Con} := PLift.up (ld_rules (C := ctx con) ty_Ppalimpmade_Picks)
def rA_Ppalimpmade_Picks {con : FuncId → Option Con} := PLift.up (alloc_rules (C := ctx con) ty_Ppalimpmade_Picks)
def rS_Ppalimpmade_Picks {con : FuncId → Option Con} := PLift.up (store_rules (C := ctx con) ty_Ppalimpmade_Picks)
def rR_Ppalimpmade_Picks {con : FuncId → Option Con} := PLift.up (storeR_rules (C := ctx con) ty_Ppalimpmade_Picks)
def rl_Lapi_Ptr {con : FuncId → Option Con} := PLift.up (ld_rules (C := ctx con) ty_Lapi_Ptr)
def rA_Lapi_Ptr {con : FuncId → Option Con} := PLift.up (alloc_rules (C := ctx con) ty_Lapi_Ptr)
def rS_Lapi_Ptr {con : FuncId → Option Con} := PLift.up (store_rules (C := ctx con) ty_Lapi_Ptr)
def rR_Lapi_Ptr {con : FuncId → Option Con} := PLift.up (storeR_rules (C := ctx con) ty_Lapi_Ptr)
def rv_Lapi_Ptr {con : FuncId → Option Con} := PLift.up (sl_rules (C := ctx con) TPtr ty_Lapi_Ptr ty_api_Ptr rfl)
def ri_Lapi_Ptr {con : FuncId → Option Con} := PLift.up (idxt_rules (C := ctx con) TPtr ty_Lapi_Ptr ty_api_Ptr rfl)
def rb_Lapi_Ptr {con : FuncId → Option Con} := PLift.up (bs_rules (C := ctx con) ty_Lapi_Ptr ty_api_Ptr)
def rl_Lapi_Node {con : FuncId → Option Con} := PLift.up (ld_rules (C := ctx con) ty_Lapi_Node)
def rA_Lapi_Node {con : FuncId → Option Con} := PLift.up (alloc_rules (C := ctx con) ty_Lapi_Node)
def rS_Lapi_Node {con : FuncId → Option Con} := PLift.up (store_rules (C := ctx con) ty_Lapi_Node)
def rR_Lapi_Node {con : FuncId → Option Con} := PLift.up (storeR_rules (C := ctx con) ty_Lapi_Node)
def rv_Lapi_Node {con : FuncId → Option Con} := PLift.up (sl_rules (C := ctx con) TNode ty_Lapi_Node ty_api_Node rfl)
def ri_Lapi_Node {con : FuncId → Option Con} := PLift.up (idxt_rules (C := ctx con) TNode ty_Lapi_Node ty_api_Node rfl)
def rb_Lapi_Node {con : FuncId → Option Con} := PLift.up (bs_rules (C := ctx con) ty_Lapi_Node ty_api_Node)
def rl_Lint {con : FuncId → Option Con} := PLift.up (ld_rules (C := ctx con) ty_Lint)
def rA_Lint {con : FuncId → Option Con} := PLift.up (alloc_rules (C := ctx con) ty_Lint)
def rS_Lint {con : FuncId → Option Con} := PLift.up (store_rules (C := ctx con) ty_Lint)
def rR_Lint {con : FuncId → Option Con} := PLift.up (storeR_rules (C := ctx con) ty_Lint)
def rv_Lint {con : FuncId → Option Con} := PLift.up (sl_rules (C := ctx con) Int ty_Lint ty_int rfl)
def ri_Lint {con : FuncId → Option Con} := PLift.up (idxt_rules (C := ctx con) Int ty_Lint ty_int rfl)
def rb_Lint {con : FuncId → Option Con} := PLift.up (bs_rules (C := ctx con) ty_Lint ty_int)
def rl_LLapi_Ptr {con : FuncId → Option Con} := PLift.up (ld_rules (C := ctx con) ty_LLapi_Ptr)
def rA_LLapi_Ptr {con : FuncId → Option Con} := PLift.up (alloc_rules (C := ctx con) ty_LLapi_Ptr)
def rS_LLapi_Ptr {con : FuncId → Option Con} := PLift.up (store_rules (C := ctx con) ty_LLapi_Ptr)
def rR_LLapi_Ptr {con : FuncId → Option Con} := PLift.up (storeR_rules (C := ctx con) ty_LLapi_Ptr)
def rv_LLapi_Ptr {con : FuncId → Option Con} := PLift.up (sl_rules (C := ctx con) (List TPtr) ty_LLapi_Ptr ty_Lapi_Ptr rfl)
def ri_LLapi_Ptr {con : FuncId → Option Con} := PLift.up (idxt_rules (C := ctx con) (List TPtr) ty_LLapi_Ptr ty_Lapi_Ptr rfl)
def rb_LLapi_Ptr {con : FuncId → Option Con} := PLift.up (bs_rules (C := ctx con) ty_LLapi_Ptr ty_Lapi_Ptr)
def rl_Lstring {con : FuncId → Option Con} := PLift.up (ld_rules (C := ctx con) ty_Lstring)
def rA_Lstring {con : FuncId → Option Con} := PLift.up (alloc_rules (C := ctx con) ty_Lstring)
def rS_Lstring {con : FuncId → Option Con} := PLift.up (store_rules (C := ctx con) ty_Lstring)
def rR_Lstring {con : FuncId → Option Con} := PLift.up (storeR_rules (C := ctx con) ty_Lstring)
def rv_Lstring {con : FuncId → Option Con} := PLift.up (sl_rules (C := ctx con) (List UInt8) ty_Lstring ty_string rfl)
def ri_Lstring {con : FuncId → Option Con} := PLift.up (idxt_rules (C := ctx con) (List UInt8) ty_Lstring ty_string rfl)
def rb_Lstring {con : FuncId → Option Con} := PLift.up (bs_rules (C := ctx con) ty_Lstring ty_string)
def rl_palimpmade_Picks {con : FuncId → Option Con} := PLift.up (ld_rules (C := ctx con) ty_palimpmade_Picks)
def rA_palimpmade_Picks {con : FuncId → Option Con} := PLift.up (alloc_rules (C := ctx con) ty_palimpmade_Picks)
def rS_palimpmade_Picks {con : FuncId → Option Con} := PLift.up (store_rules (C := ctx con) ty_palimpmade_Picks)
def rR_palimpmade_Picks {con : FuncId → Option Con} := PLift.up (storeR_rules (C := ctx con) ty_palimpmade_Picks)
def rB_palimpmade_Picks {con : FuncId → Option Con} := PLift.up (build_rules (C := ctx con) ty_palimpmade_Picks rfl)
def rF_palimpmade_Picks_0 {con : FuncId → Option Con} := PLift.up (fillS_rule (C := ctx con) (fs := [(25, 0), (3, 1)]) 0 rfl ty_Luint8)
def rf_palimpmade_Picks_0 {con : FuncId → Option Con} := PLift.up (fld_rules (C := ctx con) 0 ty_palimpmade_Picks rfl ty_Luint8)
def rF_palimpmade_Picks_1 {con : FuncId → Option Con} := PLift.up (fillS_rule (C := ctx con) (fs := [(25, 0), (3, 1)]) 1 rfl ty_int)
def rf_palimpmade_Picks_1 {con : FuncId → Option Con} := PLift.up (fld_rules (C := ctx con) 1 ty_palimpmade_Picks rfl ty_int)
def rl_ptr_pointer {con : FuncId → Option Con} := PLift.up (ld_rules (C := ctx con) ty_ptr_pointer)
def rA_ptr_pointer {con : FuncId → Option Con} := PLift.up (alloc_rules (C := ctx con) ty_ptr_pointer)
def rS_ptr_pointer {con : FuncId → Option Con} := PLift.up (store_rules (C := ctx con) ty_ptr_pointer)
def rR_ptr_pointer {con : FuncId → Option Con} := PLift.up (storeR_rules (C := ctx con) ty_ptr_pointer)
theorem eqf_ptr_pointer : eqF 67 = some [13, 13, 16, 16, 16, 16] := by kernel_rfl
theorem eq_ptr_pointer {con : FuncId → Option Con} : (ctx con).eqk 67 = some [13, 13, 16, 16, 16, 16] := eqf_ptr_pointer
def re_ptr_pointer {con : FuncId → Option Con} := PLift.up (eq_rules (C := ctx con) eq_ptr_pointer)
def rB_ptr_pointer {con : FuncId → Option Con} := PLift.up (build_rules (C := ctx con) ty_ptr_pointer rfl)
def rF_ptr_pointer_0 {con : FuncId → Option Con} := PLift.up (fillS_rule (C := ctx con) (fs := [(30, 0)]) 0 rfl ty_api_Ptr)
def rf_ptr_pointer_0 {con : FuncId → Option Con} := PLift.up (fld_rules (C := ctx con) 0 ty_ptr_pointer rfl ty_api_Ptr)
def rc_int_uint8 {con : FuncId → Option Con} := PLift.up (conv_irule (C := ctx con) ty_int ty_uint8)
def rc_int_uint32 {con : FuncId → Option Con} := PLift.up (conv_irule (C := ctx con) ty_int ty_uint32)
def rc_uint8_int {con : FuncId → Option Con} := PLift.up (conv_irule (C := ctx con) ty_uint8 ty_int)
def rc_string_Luint8 {con : FuncId → Option Con} := PLift.up (conv_brule (C := ctx con) ty_string ty_Luint8 ty_uint8)
def rc_Luint8_string {con : FuncId → Option Con} := PLift.up (conv_trule (C := ctx con) ty_Luint8 ty_string ty_uint8)
def rc_uint32_int {con : FuncId → Option Con} := PLift.up (conv_irule (C := ctx con) ty_uint32 ty_int)
def vS0 {con : FuncId → Option Con} := PLift.up (And.intro ((rl_int (con := con)).down) (And.intro ((rA_int (con := con)).down) (And.intro ((rS_int (con := con)).down) (And.intro ((rR_int (con := con)).down) (And.intro ((rl_bool (con := con)).down) (And.intro ((rA_bool (con := con)).down) (And.intro ((rS_bool (con := con)).down) (And.intro ((rR_bool (con := con)).down) (And.intro ((rq_bool (con := con)).down) (And.intro ((rl_uint8 (con := con)).down) (And.intro ((rA_uint8 (con := con)).down) (And.intro ((rS_uint8 (con := con)).down) (And.intro ((rR_uint8 (con := con)).down) (And.intro ((rl_string (con := con)).down) (And.intro ((rA_string (con := con)).down) (And.intro ((rS_string (con := con)).down) (And.intro ((rR_string (con := con)).down) (And.intro ((rs_string (con := con)).down) (And.intro ((rl_api_Node (con := con)).down) ((rA_api_Node (con := con)).down))))))))))))))))))))
def vS1 {con : FuncId → Option Con} := PLift.up (And.intro ((rS_api_Node (con := con)).down) (And.intro ((rR_api_Node (con := con)).down) (And.intro ((re_api_Node (con := con)).down) (And.intro ((rB_api_Node (con := con)).down) (And.intro ((rF_api_Node_0 (con := con)).down) (And.intro ((rf_api_Node_0 (con := con)).down) (And.intro ((rF_api_Node_1 (con := con)).down) (And.intro ((rf_api_Node_1 (con := con)).down) (And.intro ((rF_api_Node_2 (con := con)).down) (And.intro ((rf_api_Node_2 (con := con)).down) (And.intro ((rF_api_Node_3 (con := con)).down) (And.intro ((rf_api_Node_3 (con := con)).down) (And.intro ((rF_api_Node_4 (con := con)).down) (And.intro ((rf_api_Node_4 (con := con)).down) (And.intro ((rl_A4uint8 (con := con)).down) (And.intro ((rA_A4uint8 (con := con)).down) (And.intro ((rS_A4uint8 (con := con)).down) (And.intro ((rR_A4uint8 (con := con)).down) (And.intro ((re_A4uint8 (con := con)).down) ((ra_A4uint8 (con := con)).down))))))))))))))))))))
def vS2 {con : FuncId → Option Con} := PLift.up (And.intro ((rB_A4uint8 (con := con)).down) (And.intro ((rl_Luint8 (con := con)).down) (And.intro ((rA_Luint8 (con := con)).down) (And.intro ((rS_Luint8 (con := con)).down) (And.intro ((rR_Luint8 (con := con)).down) (And.intro ((rv_Luint8 (con := con)).down) (And.intro ((ri_Luint8 (con := con)).down) (And.intro ((rb_Luint8 (con := con)).down) (And.intro ((rl_uint32 (con := con)).down) (And.intro ((rA_uint32 (con := con)).down) (And.intro ((rS_uint32 (con := con)).down) (And.intro ((rR_uint32 (con := con)).down) (And.intro ((rl_api_Sum (con := con)).down) (And.intro ((rA_api_Sum (con := con)).down) (And.intro ((rS_api_Sum (con := con)).down) (And.intro ((rR_api_Sum (con := con)).down) (And.intro ((re_api_Sum (con := con)).down) (And.intro ((ra_api_Sum (con := con)).down) (And.intro ((rB_api_Sum (con := con)).down) ((rl_api_Ptr (con := con)).down))))))))))))))))))))
def vS3 {con : FuncId → Option Con} := PLift.up (And.intro ((rA_api_Ptr (con := con)).down) (And.intro ((rS_api_Ptr (con := con)).down) (And.intro ((rR_api_Ptr (con := con)).down) (And.intro ((re_api_Ptr (con := con)).down) (And.intro ((rB_api_Ptr (con := con)).down) (And.intro ((rF_api_Ptr_0 (con := con)).down) (And.intro ((rf_api_Ptr_0 (con := con)).down) (And.intro ((rF_api_Ptr_1 (con := con)).down) (And.intro ((rf_api_Ptr_1 (con := con)).down) (And.intro ((rF_api_Ptr_2 (con := con)).down) (And.intro ((rf_api_Ptr_2 (con := con)).down) (And.intro ((rl_Ppalimpmade_Picks (con := con)).down) (And.intro ((rA_Ppalimpmade_Picks (con := con)).down) (And.intro ((rS_Ppalimpmade_Picks (con := con)).down) (And.intro ((rR_Ppalimpmade_Picks (con := con)).down) (And.intro ((rl_Lapi_Ptr (con := con)).down) (And.intro ((rA_Lapi_Ptr (con := con)).down) (And.intro ((rS_Lapi_Ptr (con := con)).down) (And.intro ((rR_Lapi_Ptr (con := con)).down) ((rv_Lapi_Ptr (con := con)).down))))))))))))))))))))
def vS4 {con : FuncId → Option Con} := PLift.up (And.intro ((ri_Lapi_Ptr (con := con)).down) (And.intro ((rb_Lapi_Ptr (con := con)).down) (And.intro ((rl_Lapi_Node (con := con)).down) (And.intro ((rA_Lapi_Node (con := con)).down) (And.intro ((rS_Lapi_Node (con := con)).down) (And.intro ((rR_Lapi_Node (con := con)).down) (And.intro ((rv_Lapi_Node (con := con)).down) (And.intro ((ri_Lapi_Node (con := con)).down) (And.intro ((rb_Lapi_Node (con := con)).down) (And.intro ((rl_Lint (con := con)).down) (And.intro ((rA_Lint (con := con)).down) (And.intro ((rS_Lint (con := con)).down) (And.intro ((rR_Lint (con := con)).down) (And.intro ((rv_Lint (con := con)).down) (And.intro ((ri_Lint (con := con)).down) (And.intro ((rb_Lint (con := con)).down) (And.intro ((rl_LLapi_Ptr (con := con)).down) (And.intro ((rA_LLapi_Ptr (con := con)).down) (And.intro ((rS_LLapi_Ptr (con := con)).down) ((rR_LLapi_Ptr (con := con)).down))))))))))))))))))))
def vS5 {con : FuncId → Option Con} := PLift.up (And.intro ((rv_LLapi_Ptr (con := con)).down) (And.intro ((ri_LLapi_Ptr (con := con)).down) (And.intro ((rb_LLapi_Ptr (con := con)).down) (And.intro ((rl_Lstring (con := con)).down) (And.intro ((rA_Lstring (con := con)).down) (And.intro ((rS_Lstring (con := con)).down) (And.intro ((rR_Lstring (con := con)).down) (And.intro ((rv_Lstring (con := con)).down) (And.intro ((ri_Lstring (con := con)).down) (And.intro ((rb_Lstring (con := con)).down) (And.intro ((rl_palimpmade_Picks (con := con)).down) (And.intro ((rA_palimpmade_Picks (con := con)).down) (And.intro ((rS_palimpmade_Picks (con := con)).down) (And.intro ((rR_palimpmade_Picks (con := con)).down) (And.intro ((rB_palimpmade_Picks (con := con)).down) (And.intro ((rF_palimpmade_Picks_0 (con := con)).down) (And.intro ((rf_palimpmade_Picks_0 (con := con)).down) (And.intro ((rF_palimpmade_Picks_1 (con := con)).down) (And.intro ((rf_palimpmade_Picks_1 (con := con)).down) ((rl_ptr_pointer (con := con)).down))))))))))))))))))))
def vS6 {con : FuncId → Option Con} := PLift.up (And.intro ((rA_ptr_pointer (con := con)).down) (And.intro ((rS_ptr_pointer (con := con)).down) (And.intro ((rR_ptr_pointer (con := con)).down) (And.intro ((re_ptr_pointer (con := con)).down) (And.intro ((rB_ptr_pointer (con := con)).down) (And.intro ((rF_ptr_pointer_0 (con := con)).down) (And.intro ((rf_ptr_pointer_0 (con := con)).down) (And.intro ((rc_int_uint8 (con := con)).down) (And.intro ((rc_int_uint32 (con := con)).down) (And.intro ((rc_uint8_int (con := con)).down) (And.intro ((rc_string_Luint8 (con := con)).down) (And.intro ((rc_Luint8_string (con := con)).down) ((rc_uint32_int (con := con)).down)))))))))))))
def vS {con : FuncId → Option Con} := PLift.up (And.intro ((vS0 (con := con)).down) (And.intro ((vS1 (con := con)).down) (And.intro ((vS2 (con := con)).down) (And.intro ((vS3 (con := con)).down) (And.intro ((vS4 (con := con)).down) (And.intro ((vS5 (con := con)).down) ((vS6 (con := con)).down)))))))
def vE := PLift.up (And.intro (@enc_TNode) (And.intro (@enc_TPtr) (And.intro (@enc_TPicks) (And.intro (@enc_Tpointer) (And.intro (@w_TNode) (And.intro (@w_TPtr) (And.intro (@w_TPicks) (And.intro (@w_Tpointer) (And.intro (@dc_TNode) (And.intro (@dc_TPtr) (And.intro (@dc_TPicks) (And.intro (@dc_Tpointer) (And.intro (@eta_TNode) (And.intro (@eta_TPtr) (And.intro (@eta_TPicks) (And.intro (@eta_Tpointer) (@w_int)))))))))))))))))
theorem mixed : Try.prog.follows .mixedOrders = true := by kernel_rfl
theorem own : ownKnob Try.prog.godebug = none := by kernel_rfl
theorem laid : laidOutB Try.prog = true := by kernel_rfl
end Go.Proofs.Ytcohccaggepajaa

