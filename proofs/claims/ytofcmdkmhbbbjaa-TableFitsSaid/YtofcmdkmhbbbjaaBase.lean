/-
  The seat's types.
-/
import Derived.Test.YtofcmdkmhbbbjaaEngC
import Derived.Test.YtofcmdkmhbbbjaaRows
set_option linter.unusedSimpArgs false
set_option linter.unusedVariables false
namespace Go.Proofs.Ytofcmdkmhbbbjaa
open Go Go.Eng
set_option maxRecDepth 100000
noncomputable def tyF : TypeId → Option TyD := tyOf Try.prog
noncomputable def eqF : TypeId → Option (List Nat) := eqOf Try.prog
noncomputable def ctx (con : FuncId → Option Con) : Ctx := ⟨tyF, eqF, con⟩
theorem tyf_int : tyF 3 = some ⟨.int .i64, 1, 8, [.int .i64 0]⟩ := by kernel_rfl
theorem ty_int {con : FuncId → Option Con} : (ctx con).ty 3 = some ⟨.int .i64, 1, 8, [.int .i64 0]⟩ := tyf_int
theorem tyf_bool : tyF 4 = some ⟨.bool, 1, 1, [.bool false]⟩ := by kernel_rfl
theorem ty_bool {con : FuncId → Option Con} : (ctx con).ty 4 = some ⟨.bool, 1, 1, [.bool false]⟩ := tyf_bool
theorem tyf_uint8 : tyF 5 = some ⟨.int .u8, 1, 1, [.int .u8 0]⟩ := by kernel_rfl
theorem ty_uint8 {con : FuncId → Option Con} : (ctx con).ty 5 = some ⟨.int .u8, 1, 1, [.int .u8 0]⟩ := tyf_uint8
theorem tyf_string : tyF 9 = some ⟨.str, 1, 16, [.str []]⟩ := by kernel_rfl
theorem ty_string {con : FuncId → Option Con} : (ctx con).ty 9 = some ⟨.str, 1, 16, [.str []]⟩ := tyf_string
theorem tyf_Luint8 : tyF 22 = some ⟨.slice 5, 1, 24, [.nilS]⟩ := by kernel_rfl
theorem ty_Luint8 {con : FuncId → Option Con} : (ctx con).ty 22 = some ⟨.slice 5, 1, 24, [.nilS]⟩ := tyf_Luint8
theorem tyf_Lapi_Dset : tyF 23 = some ⟨.slice 36, 1, 24, [.nilS]⟩ := by kernel_rfl
theorem ty_Lapi_Dset {con : FuncId → Option Con} : (ctx con).ty 23 = some ⟨.slice 36, 1, 24, [.nilS]⟩ := tyf_Lapi_Dset
theorem tyf_Lapi_Ptr : tyF 24 = some ⟨.slice 29, 1, 24, [.nilS]⟩ := by kernel_rfl
theorem ty_Lapi_Ptr {con : FuncId → Option Con} : (ctx con).ty 24 = some ⟨.slice 29, 1, 24, [.nilS]⟩ := tyf_Lapi_Ptr
theorem tyf_uint32 : tyF 25 = some ⟨.int .u32, 1, 4, [.int .u32 0]⟩ := by kernel_rfl
theorem ty_uint32 {con : FuncId → Option Con} : (ctx con).ty 25 = some ⟨.int .u32, 1, 4, [.int .u32 0]⟩ := tyf_uint32
theorem tyf_api_Sum : tyF 27 = some ⟨.arr 4 25, 4, 16, [.int .u32 0, .int .u32 0, .int .u32 0, .int .u32 0]⟩ := by kernel_rfl
theorem ty_api_Sum {con : FuncId → Option Con} : (ctx con).ty 27 = some ⟨.arr 4 25, 4, 16, [.int .u32 0, .int .u32 0, .int .u32 0, .int .u32 0]⟩ := tyf_api_Sum
theorem tyf_api_Ptr : tyF 29 = some ⟨.struct [(3, 0), (3, 1), (27, 2)], 6, 32, [.int .i64 0, .int .i64 0, .int .u32 0, .int .u32 0, .int .u32 0, .int .u32 0]⟩ := by kernel_rfl
theorem ty_api_Ptr {con : FuncId → Option Con} : (ctx con).ty 29 = some ⟨.struct [(3, 0), (3, 1), (27, 2)], 6, 32, [.int .i64 0, .int .i64 0, .int .u32 0, .int .u32 0, .int .u32 0, .int .u32 0]⟩ := tyf_api_Ptr
theorem tyf_api_Root : tyF 31 = some ⟨.struct [(3, 0), (3, 1), (3, 2), (29, 3), (29, 9), (29, 15), (3, 21)], 22, 128, [.int .i64 0, .int .i64 0, .int .i64 0, .int .i64 0, .int .i64 0, .int .u32 0, .int .u32 0, .int .u32 0, .int .u32 0, .int .i64 0, .int .i64 0, .int .u32 0, .int .u32 0, .int .u32 0, .int .u32 0, .int .i64 0, .int .i64 0, .int .u32 0, .int .u32 0, .int .u32 0, .int .u32 0, .int .i64 0]⟩ := by kernel_rfl
theorem ty_api_Root {con : FuncId → Option Con} : (ctx con).ty 31 = some ⟨.struct [(3, 0), (3, 1), (3, 2), (29, 3), (29, 9), (29, 15), (3, 21)], 22, 128, [.int .i64 0, .int .i64 0, .int .i64 0, .int .i64 0, .int .i64 0, .int .u32 0, .int .u32 0, .int .u32 0, .int .u32 0, .int .i64 0, .int .i64 0, .int .u32 0, .int .u32 0, .int .u32 0, .int .u32 0, .int .i64 0, .int .i64 0, .int .u32 0, .int .u32 0, .int .u32 0, .int .u32 0, .int .i64 0]⟩ := tyf_api_Root
theorem tyf_api_Set : tyF 34 = some ⟨.slice 123, 1, 24, [.nilS]⟩ := by kernel_rfl
theorem ty_api_Set {con : FuncId → Option Con} : (ctx con).ty 34 = some ⟨.slice 123, 1, 24, [.nilS]⟩ := tyf_api_Set
theorem tyf_api_Dset : tyF 36 = some ⟨.struct [(3, 0), (3, 1), (3, 2), (3, 3), (34, 4)], 5, 56, [.int .i64 0, .int .i64 0, .int .i64 0, .int .i64 0, .nilS]⟩ := by kernel_rfl
theorem ty_api_Dset {con : FuncId → Option Con} : (ctx con).ty 36 = some ⟨.struct [(3, 0), (3, 1), (3, 2), (3, 3), (34, 4)], 5, 56, [.int .i64 0, .int .i64 0, .int .i64 0, .int .i64 0, .nilS]⟩ := tyf_api_Dset
theorem tyf_Ppalimpmade_Picks : tyF 38 = some ⟨.ptr 77, 1, 8, [.nilP]⟩ := by kernel_rfl
theorem ty_Ppalimpmade_Picks {con : FuncId → Option Con} : (ctx con).ty 38 = some ⟨.ptr 77, 1, 8, [.nilP]⟩ := tyf_Ppalimpmade_Picks
theorem tyf_Lstring : tyF 44 = some ⟨.slice 9, 1, 24, [.nilS]⟩ := by kernel_rfl
theorem ty_Lstring {con : FuncId → Option Con} : (ctx con).ty 44 = some ⟨.slice 9, 1, 24, [.nilS]⟩ := tyf_Lstring
theorem tyf_Lapi_Run : tyF 52 = some ⟨.slice 69, 1, 24, [.nilS]⟩ := by kernel_rfl
theorem ty_Lapi_Run {con : FuncId → Option Con} : (ctx con).ty 52 = some ⟨.slice 69, 1, 24, [.nilS]⟩ := tyf_Lapi_Run
theorem tyf_api_Space : tyF 56 = some ⟨.struct [(52, 0), (52, 1), (52, 2), (52, 3)], 4, 96, [.nilS, .nilS, .nilS, .nilS]⟩ := by kernel_rfl
theorem ty_api_Space {con : FuncId → Option Con} : (ctx con).ty 56 = some ⟨.struct [(52, 0), (52, 1), (52, 2), (52, 3)], 4, 96, [.nilS, .nilS, .nilS, .nilS]⟩ := tyf_api_Space
theorem tyf_Lapi_Space : tyF 57 = some ⟨.slice 56, 1, 24, [.nilS]⟩ := by kernel_rfl
theorem ty_Lapi_Space {con : FuncId → Option Con} : (ctx con).ty 57 = some ⟨.slice 56, 1, 24, [.nilS]⟩ := tyf_Lapi_Space
theorem tyf_Lint : tyF 58 = some ⟨.slice 3, 1, 24, [.nilS]⟩ := by kernel_rfl
theorem ty_Lint {con : FuncId → Option Con} : (ctx con).ty 58 = some ⟨.slice 3, 1, 24, [.nilS]⟩ := tyf_Lint
theorem tyf_Lapi_Root : tyF 65 = some ⟨.slice 31, 1, 24, [.nilS]⟩ := by kernel_rfl
theorem ty_Lapi_Root {con : FuncId → Option Con} : (ctx con).ty 65 = some ⟨.slice 31, 1, 24, [.nilS]⟩ := tyf_Lapi_Root
theorem tyf_A24uint8 : tyF 67 = some ⟨.arr 24 5, 24, 24, [.int .u8 0, .int .u8 0, .int .u8 0, .int .u8 0, .int .u8 0, .int .u8 0, .int .u8 0, .int .u8 0, .int .u8 0, .int .u8 0, .int .u8 0, .int .u8 0, .int .u8 0, .int .u8 0, .int .u8 0, .int .u8 0, .int .u8 0, .int .u8 0, .int .u8 0, .int .u8 0, .int .u8 0, .int .u8 0, .int .u8 0, .int .u8 0]⟩ := by kernel_rfl
theorem ty_A24uint8 {con : FuncId → Option Con} : (ctx con).ty 67 = some ⟨.arr 24 5, 24, 24, [.int .u8 0, .int .u8 0, .int .u8 0, .int .u8 0, .int .u8 0, .int .u8 0, .int .u8 0, .int .u8 0, .int .u8 0, .int .u8 0, .int .u8 0, .int .u8 0, .int .u8 0, .int .u8 0, .int .u8 0, .int .u8 0, .int .u8 0, .int .u8 0, .int .u8 0, .int .u8 0, .int .u8 0, .int .u8 0, .int .u8 0, .int .u8 0]⟩ := tyf_A24uint8
theorem tyf_api_Run : tyF 69 = some ⟨.struct [(3, 0), (3, 1)], 2, 16, [.int .i64 0, .int .i64 0]⟩ := by kernel_rfl
theorem ty_api_Run {con : FuncId → Option Con} : (ctx con).ty 69 = some ⟨.struct [(3, 0), (3, 1)], 2, 16, [.int .i64 0, .int .i64 0]⟩ := tyf_api_Run
theorem tyf_api_Block : tyF 71 = some ⟨.struct [(3, 0), (3, 1), (9, 2)], 3, 32, [.int .i64 0, .int .i64 0, .str []]⟩ := by kernel_rfl
theorem ty_api_Block {con : FuncId → Option Con} : (ctx con).ty 71 = some ⟨.struct [(3, 0), (3, 1), (9, 2)], 3, 32, [.int .i64 0, .int .i64 0, .str []]⟩ := tyf_api_Block
theorem tyf_palimpmade_Picks : tyF 77 = some ⟨.struct [(22, 0), (3, 1)], 2, 32, [.nilS, .int .i64 0]⟩ := by kernel_rfl
theorem ty_palimpmade_Picks {con : FuncId → Option Con} : (ctx con).ty 77 = some ⟨.struct [(22, 0), (3, 1)], 2, 32, [.nilS, .int .i64 0]⟩ := tyf_palimpmade_Picks
theorem tyf_table_row : tyF 81 = some ⟨.struct [(36, 0), (29, 5)], 11, 88, [.int .i64 0, .int .i64 0, .int .i64 0, .int .i64 0, .nilS, .int .i64 0, .int .i64 0, .int .u32 0, .int .u32 0, .int .u32 0, .int .u32 0]⟩ := by kernel_rfl
theorem ty_table_row {con : FuncId → Option Con} : (ctx con).ty 81 = some ⟨.struct [(36, 0), (29, 5)], 11, 88, [.int .i64 0, .int .i64 0, .int .i64 0, .int .i64 0, .nilS, .int .i64 0, .int .i64 0, .int .u32 0, .int .u32 0, .int .u32 0, .int .u32 0]⟩ := tyf_table_row
theorem tyf_A4Lapi_Run : tyF 97 = some ⟨.arr 4 52, 4, 96, [.nilS, .nilS, .nilS, .nilS]⟩ := by kernel_rfl
theorem ty_A4Lapi_Run {con : FuncId → Option Con} : (ctx con).ty 97 = some ⟨.arr 4 52, 4, 96, [.nilS, .nilS, .nilS, .nilS]⟩ := tyf_A4Lapi_Run
theorem tyf_uint : tyF 103 = some ⟨.int .u64, 1, 8, [.int .u64 0]⟩ := by kernel_rfl
theorem ty_uint {con : FuncId → Option Con} : (ctx con).ty 103 = some ⟨.int .u64, 1, 8, [.int .u64 0]⟩ := tyf_uint
theorem tyf_ptr_pointer : tyF 108 = some ⟨.struct [(29, 0)], 6, 32, [.int .i64 0, .int .i64 0, .int .u32 0, .int .u32 0, .int .u32 0, .int .u32 0]⟩ := by kernel_rfl
theorem ty_ptr_pointer {con : FuncId → Option Con} : (ctx con).ty 108 = some ⟨.struct [(29, 0)], 6, 32, [.int .i64 0, .int .i64 0, .int .u32 0, .int .u32 0, .int .u32 0, .int .u32 0]⟩ := tyf_ptr_pointer
theorem tyf_space_taken : tyF 115 = some ⟨.struct [(56, 0)], 4, 96, [.nilS, .nilS, .nilS, .nilS]⟩ := by kernel_rfl
theorem ty_space_taken {con : FuncId → Option Con} : (ctx con).ty 115 = some ⟨.struct [(56, 0)], 4, 96, [.nilS, .nilS, .nilS, .nilS]⟩ := tyf_space_taken
theorem tyf_space_pool : tyF 117 = some ⟨.struct [(115, 0), (3, 4)], 5, 104, [.nilS, .nilS, .nilS, .nilS, .int .i64 0]⟩ := by kernel_rfl
theorem ty_space_pool {con : FuncId → Option Con} : (ctx con).ty 117 = some ⟨.struct [(115, 0), (3, 4)], 5, 104, [.nilS, .nilS, .nilS, .nilS, .int .i64 0]⟩ := tyf_space_pool
theorem tyf_api_Node : tyF 123 = some ⟨.struct [(3, 0), (3, 1), (9, 2), (9, 3), (3, 4)], 5, 56, [.int .i64 0, .int .i64 0, .str [], .str [], .int .i64 0]⟩ := by kernel_rfl
theorem ty_api_Node {con : FuncId → Option Con} : (ctx con).ty 123 = some ⟨.struct [(3, 0), (3, 1), (9, 2), (9, 3), (3, 4)], 5, 56, [.int .i64 0, .int .i64 0, .str [], .str [], .int .i64 0]⟩ := tyf_api_Node
theorem tyf_span_rows : tyF 128 = some ⟨.struct [(52, 0), (52, 1)], 2, 48, [.nilS, .nilS]⟩ := by kernel_rfl
theorem ty_span_rows {con : FuncId → Option Con} : (ctx con).ty 128 = some ⟨.struct [(52, 0), (52, 1)], 2, 48, [.nilS, .nilS]⟩ := tyf_span_rows
theorem tyf_func_bool__bool__bool : tyF 130 = some ⟨.fn, 1, 8, [.nilF]⟩ := by kernel_rfl
theorem ty_func_bool__bool__bool {con : FuncId → Option Con} : (ctx con).ty 130 = some ⟨.fn, 1, 8, [.nilF]⟩ := tyf_func_bool__bool__bool
theorem tyf_span_run : tyF 133 = some ⟨.struct [(69, 0)], 2, 16, [.int .i64 0, .int .i64 0]⟩ := by kernel_rfl
theorem ty_span_run {con : FuncId → Option Con} : (ctx con).ty 133 = some ⟨.struct [(69, 0)], 2, 16, [.int .i64 0, .int .i64 0]⟩ := tyf_span_run
theorem tyf_func_api_Run__bool : tyF 134 = some ⟨.fn, 1, 8, [.nilF]⟩ := by kernel_rfl
theorem ty_func_api_Run__bool {con : FuncId → Option Con} : (ctx con).ty 134 = some ⟨.fn, 1, 8, [.nilF]⟩ := tyf_func_api_Run__bool
theorem tyf_slices_sortedHint : tyF 143 = some ⟨.int .i64, 1, 8, [.int .i64 0]⟩ := by kernel_rfl
theorem ty_slices_sortedHint {con : FuncId → Option Con} : (ctx con).ty 143 = some ⟨.int .i64, 1, 8, [.int .i64 0]⟩ := tyf_slices_sortedHint
theorem tyf_uint64 : tyF 152 = some ⟨.int .u64, 1, 8, [.int .u64 0]⟩ := by kernel_rfl
theorem ty_uint64 {con : FuncId → Option Con} : (ctx con).ty 152 = some ⟨.int .u64, 1, 8, [.int .u64 0]⟩ := tyf_uint64
theorem tyf_LLapi_Run : tyF 153 = some ⟨.slice 52, 1, 24, [.nilS]⟩ := by kernel_rfl
theorem ty_LLapi_Run {con : FuncId → Option Con} : (ctx con).ty 153 = some ⟨.slice 52, 1, 24, [.nilS]⟩ := tyf_LLapi_Run
theorem tyf_slices_xorshift : tyF 155 = some ⟨.int .u64, 1, 8, [.int .u64 0]⟩ := by kernel_rfl
theorem ty_slices_xorshift {con : FuncId → Option Con} : (ctx con).ty 155 = some ⟨.int .u64, 1, 8, [.int .u64 0]⟩ := tyf_slices_xorshift
theorem tyf_Pint : tyF 159 = some ⟨.ptr 3, 1, 8, [.nilP]⟩ := by kernel_rfl
theorem ty_Pint {con : FuncId → Option Con} : (ctx con).ty 159 = some ⟨.ptr 3, 1, 8, [.nilP]⟩ := tyf_Pint
theorem tyf_Pslices_xorshift : tyF 161 = some ⟨.ptr 155, 1, 8, [.nilP]⟩ := by kernel_rfl
theorem ty_Pslices_xorshift {con : FuncId → Option Con} : (ctx con).ty 161 = some ⟨.ptr 155, 1, 8, [.nilP]⟩ := tyf_Pslices_xorshift
structure TNode where
  Kind : Int
  Up : Int
  Name : (List UInt8)
  Body : (List UInt8)
  Bad : Int
  deriving DecidableEq
instance cTNode : Cell TNode := Cell.iso (α := Int × Int × (List UInt8) × (List UInt8) × Int) (fun x => (x.Kind, x.Up, x.Name, x.Body, x.Bad)) (fun y => ⟨y.1, y.2.1, y.2.2.1, y.2.2.2.1, y.2.2.2.2⟩) (fun _ => rfl) (fun _ => rfl)
instance iTNode : Inhabited TNode := ⟨⟨0, 0, [], [], 0⟩⟩
theorem enc_TNode {x : TNode} : Cell.enc x = [.int .i64 x.Kind, .int .i64 x.Up, .str x.Name, .str x.Body, .int .i64 x.Bad] := rfl
theorem dec_TNode {x y : TNode} : (decide (x.Kind = y.Kind) && (decide (x.Up = y.Up) && (decide (x.Name = y.Name) && (decide (x.Body = y.Body) && (decide (x.Bad = y.Bad)))))) = decide (x = y) := by
  first | (cases x; cases y; simp [← UInt32.toNat_inj, Int.ofNat_inj, Prod.ext_iff, and_assoc]; done) | (cases x; cases y; simp only [true_and]; simp; done) | (rcases x with ⟨_, _, _, _, _⟩; rcases y with ⟨_, _, _, _, _⟩; simp [← UInt32.toNat_inj, Int.ofNat_inj, Prod.ext_iff, and_assoc])
theorem dc_TNode {cs : List TV} : (Cell.dec cs : Option TNode) = (Cell.dec (α := Int × Int × (List UInt8) × (List UInt8) × Int) cs).map fun y => ⟨y.1, y.2.1, y.2.2.1, y.2.2.2.1, y.2.2.2.2⟩ := rfl
theorem eta_TNode {x : TNode} : (⟨x.Kind, x.Up, x.Name, x.Body, x.Bad⟩ : TNode) = x := rfl
theorem w_TNode : Cell.width TNode = 5 := rfl
structure TDset where
  ID : Int
  Kind : Int
  Origin : Int
  Quota : Int
  Files : (List TNode)
  deriving DecidableEq
instance cTDset : Cell TDset := Cell.iso (α := Int × Int × Int × Int × (List TNode)) (fun x => (x.ID, x.Kind, x.Origin, x.Quota, x.Files)) (fun y => ⟨y.1, y.2.1, y.2.2.1, y.2.2.2.1, y.2.2.2.2⟩) (fun _ => rfl) (fun _ => rfl)
instance iTDset : Inhabited TDset := ⟨⟨0, 0, 0, 0, []⟩⟩
theorem enc_TDset {x : TDset} : Cell.enc x = [.int .i64 x.ID, .int .i64 x.Kind, .int .i64 x.Origin, .int .i64 x.Quota, sl x.Files] := rfl
theorem dc_TDset {cs : List TV} : (Cell.dec cs : Option TDset) = (Cell.dec (α := Int × Int × Int × Int × (List TNode)) cs).map fun y => ⟨y.1, y.2.1, y.2.2.1, y.2.2.2.1, y.2.2.2.2⟩ := rfl
theorem eta_TDset {x : TDset} : (⟨x.ID, x.Kind, x.Origin, x.Quota, x.Files⟩ : TDset) = x := rfl
theorem w_TDset : Cell.width TDset = 5 := rfl
structure TPtr where
  Addr : Int
  Birth : Int
  Sum : (UInt32 × UInt32 × UInt32 × UInt32)
  deriving DecidableEq
instance cTPtr : Cell TPtr := Cell.iso (α := Int × Int × (UInt32 × UInt32 × UInt32 × UInt32)) (fun x => (x.Addr, x.Birth, x.Sum)) (fun y => ⟨y.1, y.2.1, y.2.2⟩) (fun _ => rfl) (fun _ => rfl)
instance iTPtr : Inhabited TPtr := ⟨⟨0, 0, (0, 0, 0, 0)⟩⟩
theorem enc_TPtr {x : TPtr} : Cell.enc x = [.int .i64 x.Addr, .int .i64 x.Birth, .int .u32 (x.Sum.1.toNat : Int), .int .u32 (x.Sum.2.1.toNat : Int), .int .u32 (x.Sum.2.2.1.toNat : Int), .int .u32 (x.Sum.2.2.2.toNat : Int)] := rfl
theorem dec_TPtr {x y : TPtr} : (decide (x.Addr = y.Addr) && (decide (x.Birth = y.Birth) && (decide ((x.Sum.1.toNat : Int) = (y.Sum.1.toNat : Int)) && (decide ((x.Sum.2.1.toNat : Int) = (y.Sum.2.1.toNat : Int)) && (decide ((x.Sum.2.2.1.toNat : Int) = (y.Sum.2.2.1.toNat : Int)) && (decide ((x.Sum.2.2.2.toNat : Int) = (y.Sum.2.2.2.toNat : Int)))))))) = decide (x = y) := by
  first | (cases x; cases y; simp [← UInt32.toNat_inj, Int.ofNat_inj, Prod.ext_iff, and_assoc]; done) | (cases x; cases y; simp only [dec_TNode]; simp; done) | (rcases x with ⟨_, _, _⟩; rcases y with ⟨_, _, _⟩; simp [← UInt32.toNat_inj, Int.ofNat_inj, Prod.ext_iff, and_assoc])
theorem dc_TPtr {cs : List TV} : (Cell.dec cs : Option TPtr) = (Cell.dec (α := Int × Int × (UInt32 × UInt32 × UInt32 × UInt32)) cs).map fun y => ⟨y.1, y.2.1, y.2.2⟩ := rfl
theorem eta_TPtr {x : TPtr} : (⟨x.Addr, x.Birth, (x.Sum.1, x.Sum.2.1, x.Sum.2.2.1, x.Sum.2.2.2)⟩ : TPtr) = x := rfl
theorem w_TPtr : Cell.width TPtr = 6 := rfl
structure TRoot where
  Txg : Int
  Next : Int
  Guid : Int
  Table : TPtr
  Space : TPtr
  Kept : TPtr
  KeptTxg : Int
  deriving DecidableEq
instance cTRoot : Cell TRoot := Cell.iso (α := Int × Int × Int × TPtr × TPtr × TPtr × Int) (fun x => (x.Txg, x.Next, x.Guid, x.Table, x.Space, x.Kept, x.KeptTxg)) (fun y => ⟨y.1, y.2.1, y.2.2.1, y.2.2.2.1, y.2.2.2.2.1, y.2.2.2.2.2.1, y.2.2.2.2.2.2⟩) (fun _ => rfl) (fun _ => rfl)
instance iTRoot : Inhabited TRoot := ⟨⟨0, 0, 0, ⟨0, 0, (0, 0, 0, 0)⟩, ⟨0, 0, (0, 0, 0, 0)⟩, ⟨0, 0, (0, 0, 0, 0)⟩, 0⟩⟩
theorem enc_TRoot {x : TRoot} : Cell.enc x = [.int .i64 x.Txg, .int .i64 x.Next, .int .i64 x.Guid, .int .i64 x.Table.Addr, .int .i64 x.Table.Birth, .int .u32 (x.Table.Sum.1.toNat : Int), .int .u32 (x.Table.Sum.2.1.toNat : Int), .int .u32 (x.Table.Sum.2.2.1.toNat : Int), .int .u32 (x.Table.Sum.2.2.2.toNat : Int), .int .i64 x.Space.Addr, .int .i64 x.Space.Birth, .int .u32 (x.Space.Sum.1.toNat : Int), .int .u32 (x.Space.Sum.2.1.toNat : Int), .int .u32 (x.Space.Sum.2.2.1.toNat : Int), .int .u32 (x.Space.Sum.2.2.2.toNat : Int), .int .i64 x.Kept.Addr, .int .i64 x.Kept.Birth, .int .u32 (x.Kept.Sum.1.toNat : Int), .int .u32 (x.Kept.Sum.2.1.toNat : Int), .int .u32 (x.Kept.Sum.2.2.1.toNat : Int), .int .u32 (x.Kept.Sum.2.2.2.toNat : Int), .int .i64 x.KeptTxg] := rfl
theorem dec_TRoot {x y : TRoot} : (decide (x.Txg = y.Txg) && (decide (x.Next = y.Next) && (decide (x.Guid = y.Guid) && (decide (x.Table.Addr = y.Table.Addr) && (decide (x.Table.Birth = y.Table.Birth) && (decide ((x.Table.Sum.1.toNat : Int) = (y.Table.Sum.1.toNat : Int)) && (decide ((x.Table.Sum.2.1.toNat : Int) = (y.Table.Sum.2.1.toNat : Int)) && (decide ((x.Table.Sum.2.2.1.toNat : Int) = (y.Table.Sum.2.2.1.toNat : Int)) && (decide ((x.Table.Sum.2.2.2.toNat : Int) = (y.Table.Sum.2.2.2.toNat : Int)) && (decide (x.Space.Addr = y.Space.Addr) && (decide (x.Space.Birth = y.Space.Birth) && (decide ((x.Space.Sum.1.toNat : Int) = (y.Space.Sum.1.toNat : Int)) && (decide ((x.Space.Sum.2.1.toNat : Int) = (y.Space.Sum.2.1.toNat : Int)) && (decide ((x.Space.Sum.2.2.1.toNat : Int) = (y.Space.Sum.2.2.1.toNat : Int)) && (decide ((x.Space.Sum.2.2.2.toNat : Int) = (y.Space.Sum.2.2.2.toNat : Int)) && (decide (x.Kept.Addr = y.Kept.Addr) && (decide (x.Kept.Birth = y.Kept.Birth) && (decide ((x.Kept.Sum.1.toNat : Int) = (y.Kept.Sum.1.toNat : Int)) && (decide ((x.Kept.Sum.2.1.toNat : Int) = (y.Kept.Sum.2.1.toNat : Int)) && (decide ((x.Kept.Sum.2.2.1.toNat : Int) = (y.Kept.Sum.2.2.1.toNat : Int)) && (decide ((x.Kept.Sum.2.2.2.toNat : Int) = (y.Kept.Sum.2.2.2.toNat : Int)) && (decide (x.KeptTxg = y.KeptTxg))))))))))))))))))))))) = decide (x = y) := by
  first | (cases x; cases y; simp [← UInt32.toNat_inj, Int.ofNat_inj, Prod.ext_iff, and_assoc]; done) | (cases x; cases y; simp only [dec_TNode, dec_TPtr]; simp; done) | (rcases x with ⟨_, _, _, ⟨_, _, _⟩, ⟨_, _, _⟩, ⟨_, _, _⟩, _⟩; rcases y with ⟨_, _, _, ⟨_, _, _⟩, ⟨_, _, _⟩, ⟨_, _, _⟩, _⟩; simp [← UInt32.toNat_inj, Int.ofNat_inj, Prod.ext_iff, and_assoc])
theorem dc_TRoot {cs : List TV} : (Cell.dec cs : Option TRoot) = (Cell.dec (α := Int × Int × Int × TPtr × TPtr × TPtr × Int) cs).map fun y => ⟨y.1, y.2.1, y.2.2.1, y.2.2.2.1, y.2.2.2.2.1, y.2.2.2.2.2.1, y.2.2.2.2.2.2⟩ := rfl
theorem eta_TRoot {x : TRoot} : (⟨x.Txg, x.Next, x.Guid, ⟨x.Table.Addr, x.Table.Birth, (x.Table.Sum.1, x.Table.Sum.2.1, x.Table.Sum.2.2.1, x.Table.Sum.2.2.2)⟩, ⟨x.Space.Addr, x.Space.Birth, (x.Space.Sum.1, x.Space.Sum.2.1, x.Space.Sum.2.2.1, x.Space.Sum.2.2.2)⟩, ⟨x.Kept.Addr, x.Kept.Birth, (x.Kept.Sum.1, x.Kept.Sum.2.1, x.Kept.Sum.2.2.1, x.Kept.Sum.2.2.2)⟩, x.KeptTxg⟩ : TRoot) = x := rfl
theorem w_TRoot : Cell.width TRoot = 22 := rfl
structure TRun where
  From : Int
  To : Int
  deriving DecidableEq
instance cTRun : Cell TRun := Cell.iso (α := Int × Int) (fun x => (x.From, x.To)) (fun y => ⟨y.1, y.2⟩) (fun _ => rfl) (fun _ => rfl)
instance iTRun : Inhabited TRun := ⟨⟨0, 0⟩⟩
theorem enc_TRun {x : TRun} : Cell.enc x = [.int .i64 x.From, .int .i64 x.To] := rfl
theorem dc_TRun {cs : List TV} : (Cell.dec cs : Option TRun) = (Cell.dec (α := Int × Int) cs).map fun y => ⟨y.1, y.2⟩ := rfl
theorem eta_TRun {x : TRun} : (⟨x.From, x.To⟩ : TRun) = x := rfl
theorem w_TRun : Cell.width TRun = 2 := rfl
structure TSpace where
  Held : (List TRun)
  One : (List TRun)
  Two : (List TRun)
  Kept : (List TRun)
  deriving DecidableEq
instance cTSpace : Cell TSpace := Cell.iso (α := (List TRun) × (List TRun) × (List TRun) × (List TRun)) (fun x => (x.Held, x.One, x.Two, x.Kept)) (fun y => ⟨y.1, y.2.1, y.2.2.1, y.2.2.2⟩) (fun _ => rfl) (fun _ => rfl)
instance iTSpace : Inhabited TSpace := ⟨⟨[], [], [], []⟩⟩
theorem enc_TSpace {x : TSpace} : Cell.enc x = [sl x.Held, sl x.One, sl x.Two, sl x.Kept] := rfl
theorem dc_TSpace {cs : List TV} : (Cell.dec cs : Option TSpace) = (Cell.dec (α := (List TRun) × (List TRun) × (List TRun) × (List TRun)) cs).map fun y => ⟨y.1, y.2.1, y.2.2.1, y.2.2.2⟩ := rfl
theorem eta_TSpace {x : TSpace} : (⟨x.Held, x.One, x.Two, x.Kept⟩ : TSpace) = x := rfl
theorem w_TSpace : Cell.width TSpace = 4 := rfl
structure TBlock where
  Kind : Int
  Birth : Int
  Load : (List UInt8)
  deriving DecidableEq
instance cTBlock : Cell TBlock := Cell.iso (α := Int × Int × (List UInt8)) (fun x => (x.Kind, x.Birth, x.Load)) (fun y => ⟨y.1, y.2.1, y.2.2⟩) (fun _ => rfl) (fun _ => rfl)
instance iTBlock : Inhabited TBlock := ⟨⟨0, 0, []⟩⟩
theorem enc_TBlock {x : TBlock} : Cell.enc x = [.int .i64 x.Kind, .int .i64 x.Birth, .str x.Load] := rfl
theorem dc_TBlock {cs : List TV} : (Cell.dec cs : Option TBlock) = (Cell.dec (α := Int × Int × (List UInt8)) cs).map fun y => ⟨y.1, y.2.1, y.2.2⟩ := rfl
theorem eta_TBlock {x : TBlock} : (⟨x.Kind, x.Birth, x.Load⟩ : TBlock) = x := rfl
theorem w_TBlock : Cell.width TBlock = 3 := rfl
structure TPicks where
  l : (List Byt)
  n : Int
  deriving DecidableEq
instance cTPicks : Cell TPicks := Cell.iso (α := (List Byt) × Int) (fun x => (x.l, x.n)) (fun y => ⟨y.1, y.2⟩) (fun _ => rfl) (fun _ => rfl)
instance iTPicks : Inhabited TPicks := ⟨⟨[], 0⟩⟩
theorem enc_TPicks {x : TPicks} : Cell.enc x = [sl x.l, .int .i64 x.n] := rfl
theorem dc_TPicks {cs : List TV} : (Cell.dec cs : Option TPicks) = (Cell.dec (α := (List Byt) × Int) cs).map fun y => ⟨y.1, y.2⟩ := rfl
theorem eta_TPicks {x : TPicks} : (⟨x.l, x.n⟩ : TPicks) = x := rfl
theorem w_TPicks : Cell.width TPicks = 2 := rfl
structure Trow where
  Dset : TDset
  p : TPtr
  deriving DecidableEq
instance cTrow : Cell Trow := Cell.iso (α := TDset × TPtr) (fun x => (x.Dset, x.p)) (fun y => ⟨y.1, y.2⟩) (fun _ => rfl) (fun _ => rfl)
instance iTrow : Inhabited Trow := ⟨⟨⟨0, 0, 0, 0, []⟩, ⟨0, 0, (0, 0, 0, 0)⟩⟩⟩
theorem enc_Trow {x : Trow} : Cell.enc x = [.int .i64 x.Dset.ID, .int .i64 x.Dset.Kind, .int .i64 x.Dset.Origin, .int .i64 x.Dset.Quota, sl x.Dset.Files, .int .i64 x.p.Addr, .int .i64 x.p.Birth, .int .u32 (x.p.Sum.1.toNat : Int), .int .u32 (x.p.Sum.2.1.toNat : Int), .int .u32 (x.p.Sum.2.2.1.toNat : Int), .int .u32 (x.p.Sum.2.2.2.toNat : Int)] := rfl
theorem dc_Trow {cs : List TV} : (Cell.dec cs : Option Trow) = (Cell.dec (α := TDset × TPtr) cs).map fun y => ⟨y.1, y.2⟩ := rfl
theorem eta_Trow {x : Trow} : (⟨⟨x.Dset.ID, x.Dset.Kind, x.Dset.Origin, x.Dset.Quota, x.Dset.Files⟩, ⟨x.p.Addr, x.p.Birth, (x.p.Sum.1, x.p.Sum.2.1, x.p.Sum.2.2.1, x.p.Sum.2.2.2)⟩⟩ : Trow) = x := rfl
theorem w_Trow : Cell.width Trow = 11 := rfl
structure Tpointer where
  Ptr : TPtr
  deriving DecidableEq
instance cTpointer : Cell Tpointer := Cell.iso (α := TPtr) (fun x => (x.Ptr)) (fun y => ⟨y⟩) (fun _ => rfl) (fun _ => rfl)
instance iTpointer : Inhabited Tpointer := ⟨⟨⟨0, 0, (0, 0, 0, 0)⟩⟩⟩
theorem enc_Tpointer {x : Tpointer} : Cell.enc x = [.int .i64 x.Ptr.Addr, .int .i64 x.Ptr.Birth, .int .u32 (x.Ptr.Sum.1.toNat : Int), .int .u32 (x.Ptr.Sum.2.1.toNat : Int), .int .u32 (x.Ptr.Sum.2.2.1.toNat : Int), .int .u32 (x.Ptr.Sum.2.2.2.toNat : Int)] := rfl
theorem dc_Tpointer {cs : List TV} : (Cell.dec cs : Option Tpointer) = (Cell.dec (α := TPtr) cs).map fun y => ⟨y⟩ := rfl
theorem eta_Tpointer {x : Tpointer} : (⟨⟨x.Ptr.Addr, x.Ptr.Birth, (x.Ptr.Sum.1, x.Ptr.Sum.2.1, x.Ptr.Sum.2.2.1, x.Ptr.Sum.2.2.2)⟩⟩ : Tpointer) = x := rfl
theorem w_Tpointer : Cell.width Tpointer = 6 := rfl
structure Ttaken where
  Space : TSpace
  deriving DecidableEq
instance cTtaken : Cell Ttaken := Cell.iso (α := TSpace) (fun x => (x.Space)) (fun y => ⟨y⟩) (fun _ => rfl) (fun _ => rfl)
instance iTtaken : Inhabited Ttaken := ⟨⟨⟨[], [], [], []⟩⟩⟩
theorem enc_Ttaken {x : Ttaken} : Cell.enc x = [sl x.Space.Held, sl x.Space.One, sl x.Space.Two, sl x.Space.Kept] := rfl
theorem dc_Ttaken {cs : List TV} : (Cell.dec cs : Option Ttaken) = (Cell.dec (α := TSpace) cs).map fun y => ⟨y⟩ := rfl
theorem eta_Ttaken {x : Ttaken} : (⟨⟨x.Space.Held, x.Space.One, x.Space.Two, x.Space.Kept⟩⟩ : Ttaken) = x := rfl
theorem w_Ttaken : Cell.width Ttaken = 4 := rfl
structure Tpool where
  taken : Ttaken
  data : Int
  deriving DecidableEq
instance cTpool : Cell Tpool := Cell.iso (α := Ttaken × Int) (fun x => (x.taken, x.data)) (fun y => ⟨y.1, y.2⟩) (fun _ => rfl) (fun _ => rfl)
instance iTpool : Inhabited Tpool := ⟨⟨⟨⟨[], [], [], []⟩⟩, 0⟩⟩
theorem enc_Tpool {x : Tpool} : Cell.enc x = [sl x.taken.Space.Held, sl x.taken.Space.One, sl x.taken.Space.Two, sl x.taken.Space.Kept, .int .i64 x.data] := rfl
theorem dc_Tpool {cs : List TV} : (Cell.dec cs : Option Tpool) = (Cell.dec (α := Ttaken × Int) cs).map fun y => ⟨y.1, y.2⟩ := rfl
theorem eta_Tpool {x : Tpool} : (⟨⟨⟨x.taken.Space.Held, x.taken.Space.One, x.taken.Space.Two, x.taken.Space.Kept⟩⟩, x.data⟩ : Tpool) = x := rfl
theorem w_Tpool : Cell.width Tpool = 5 := rfl
structure Trows where
  l : (List TRun)
  m : (List TRun)
  deriving DecidableEq
instance cTrows : Cell Trows := Cell.iso (α := (List TRun) × (List TRun)) (fun x => (x.l, x.m)) (fun y => ⟨y.1, y.2⟩) (fun _ => rfl) (fun _ => rfl)
instance iTrows : Inhabited Trows := ⟨⟨[], []⟩⟩
theorem enc_Trows {x : Trows} : Cell.enc x = [sl x.l, sl x.m] := rfl
theorem dc_Trows {cs : List TV} : (Cell.dec cs : Option Trows) = (Cell.dec (α := (List TRun) × (List TRun)) cs).map fun y => ⟨y.1, y.2⟩ := rfl
theorem eta_Trows {x : Trows} : (⟨x.l, x.m⟩ : Trows) = x := rfl
theorem w_Trows : Cell.width Trows = 2 := rfl
structure Trun where
  Run : TRun
  deriving DecidableEq
instance cTrun : Cell Trun := Cell.iso (α := TRun) (fun x => (x.Run)) (fun y => ⟨y⟩) (fun _ => rfl) (fun _ => rfl)
instance iTrun : Inhabited Trun := ⟨⟨⟨0, 0⟩⟩⟩
theorem enc_Trun {x : Trun} : Cell.enc x = [.int .i64 x.Run.From, .int .i64 x.Run.To] := rfl
theorem dc_Trun {cs : List TV} : (Cell.dec cs : Option Trun) = (Cell.dec (α := TRun) cs).map fun y => ⟨y⟩ := rfl
theorem eta_Trun {x : Trun} : (⟨⟨x.Run.From, x.Run.To⟩⟩ : Trun) = x := rfl
theorem w_Trun : Cell.width Trun = 2 := rfl
def rl_int {con : FuncId → Option Con} := PLift.up (ld_rules (C := ctx con) ty_int)
def rA_int {con : FuncId → Option Con} := PLift.up (alloc_rules (C := ctx con) ty_int)
def rS_int {con : FuncId → Option Con} := PLift.up (store_rules (C := ctx con) ty_int)
def rR_int {con : FuncId → Option Con} := PLift.up (storeR_rules (C := ctx con) ty_int)
def rl_bool {con : FuncId → Option Con} := PLift.up (ld_rules (C := ctx con) ty_bool)
def rA_bool {con : FuncId → Option Con} := PLift.up (alloc_rules (C := ctx con) ty_bool)
def rS_bool {con : FuncId → Option Con} := PLift.up (store_rules (C := ctx con) ty_bool)
def rR_bool {con : FuncId → Option Con} := PLift.up (storeR_rules (C := ctx con) ty_bool)
def rq_bool {con : FuncId → Option Con} := PLift.up (bool_rules (C := ctx con) ty_bool)
def rl_uint8 {con : FuncId → Option Con} := PLift.up (ld_rules (C := ctx con) ty_uint8)
def rA_uint8 {con : FuncId → Option Con} := PLift.up (alloc_rules (C := ctx con) ty_uint8)
def rS_uint8 {con : FuncId → Option Con} := PLift.up (store_rules (C := ctx con) ty_uint8)
def rR_uint8 {con : FuncId → Option Con} := PLift.up (storeR_rules (C := ctx con) ty_uint8)
def rl_string {con : FuncId → Option Con} := PLift.up (ld_rules (C := ctx con) ty_string)
def rA_string {con : FuncId → Option Con} := PLift.up (alloc_rules (C := ctx con) ty_string)
def rS_string {con : FuncId → Option Con} := PLift.up (store_rules (C := ctx con) ty_string)
def rR_string {con : FuncId → Option Con} := PLift.up (storeR_rules (C := ctx con) ty_string)
def rs_string {con : FuncId → Option Con} := PLift.up (str_rules (C := ctx con) ty_string)
def rl_Luint8 {con : FuncId → Option Con} := PLift.up (ld_rules (C := ctx con) ty_Luint8)
def rA_Luint8 {con : FuncId → Option Con} := PLift.up (alloc_rules (C := ctx con) ty_Luint8)
def rS_Luint8 {con : FuncId → Option Con} := PLift.up (store_rules (C := ctx con) ty_Luint8)
def rR_Luint8 {con : FuncId → Option Con} := PLift.up (storeR_rules (C := ctx con) ty_Luint8)
def rv_Luint8 {con : FuncId → Option Con} := PLift.up (sl_rules (C := ctx con) Byt ty_Luint8 ty_uint8 rfl)
def ri_Luint8 {con : FuncId → Option Con} := PLift.up (idxt_rules (C := ctx con) Byt ty_Luint8 ty_uint8 rfl)
def rb_Luint8 {con : FuncId → Option Con} := PLift.up (bs_rules (C := ctx con) ty_Luint8 ty_uint8)
def rl_Lapi_Dset {con : FuncId → Option Con} := PLift.up (ld_rules (C := ctx con) ty_Lapi_Dset)
def rA_Lapi_Dset {con : FuncId → Option Con} := PLift.up (alloc_rules (C := ctx con) ty_Lapi_Dset)
def rS_Lapi_Dset {con : FuncId → Option Con} := PLift.up (store_rules (C := ctx con) ty_Lapi_Dset)
def rR_Lapi_Dset {con : FuncId → Option Con} := PLift.up (storeR_rules (C := ctx con) ty_Lapi_Dset)
def rv_Lapi_Dset {con : FuncId → Option Con} := PLift.up (sl_rules (C := ctx con) TDset ty_Lapi_Dset ty_api_Dset rfl)
def ri_Lapi_Dset {con : FuncId → Option Con} := PLift.up (idxt_rules (C := ctx con) TDset ty_Lapi_Dset ty_api_Dset rfl)
def rb_Lapi_Dset {con : FuncId → Option Con} := PLift.up (bs_rules (C := ctx con) ty_Lapi_Dset ty_api_Dset)
def rl_Lapi_Ptr {con : FuncId → Option Con} := PLift.up (ld_rules (C := ctx con) ty_Lapi_Ptr)
def rA_Lapi_Ptr {con : FuncId → Option Con} := PLift.up (alloc_rules (C := ctx con) ty_Lapi_Ptr)
def rS_Lapi_Ptr {con : FuncId → Option Con} := PLift.up (store_rules (C := ctx con) ty_Lapi_Ptr)
def rR_Lapi_Ptr {con : FuncId → Option Con} := PLift.up (storeR_rules (C := ctx con) ty_Lapi_Ptr)
def rv_Lapi_Ptr {con : FuncId → Option Con} := PLift.up (sl_rules (C := ctx con) TPtr ty_Lapi_Ptr ty_api_Ptr rfl)
def ri_Lapi_Ptr {con : FuncId → Option Con} := PLift.up (idxt_rules (C := ctx con) TPtr ty_Lapi_Ptr ty_api_Ptr rfl)
def rb_Lapi_Ptr {con : FuncId → Option Con} := PLift.up (bs_rules (C := ctx con) ty_Lapi_Ptr ty_api_Ptr)
def rl_uint32 {con : FuncId → Option Con} := PLift.up (ld_rules (C := ctx con) ty_uint32)
def rA_uint32 {con : FuncId → Option Con} := PLift.up (alloc_rules (C := ctx con) ty_uint32)
def rS_uint32 {con : FuncId → Option Con} := PLift.up (store_rules (C := ctx con) ty_uint32)
def rR_uint32 {con : FuncId → Option Con} := PLift.up (storeR_rules (C := ctx con) ty_uint32)
def rl_api_Sum {con : FuncId → Option Con} := PLift.up (ld_rules (C := ctx con) ty_api_Sum)
def rA_api_Sum {con : FuncId → Option Con} := PLift.up (alloc_rules (C := ctx con) ty_api_Sum)
def rS_api_Sum {con : FuncId → Option Con} := PLift.up (store_rules (C := ctx con) ty_api_Sum)
def rR_api_Sum {con : FuncId → Option Con} := PLift.up (storeR_rules (C := ctx con) ty_api_Sum)
theorem eqf_api_Sum : eqF 27 = some [16, 16, 16, 16] := by kernel_rfl
theorem eq_api_Sum {con : FuncId → Option Con} : (ctx con).eqk 27 = some [16, 16, 16, 16] := eqf_api_Sum
def re_api_Sum {con : FuncId → Option Con} := PLift.up (eq_rules (C := ctx con) eq_api_Sum)
def ra_api_Sum {con : FuncId → Option Con} := PLift.up (arr_rules (C := ctx con) ty_api_Sum ty_uint32)
def rB_api_Sum {con : FuncId → Option Con} := PLift.up (buildA_rules (C := ctx con) ty_api_Sum ty_uint32)
def rl_api_Ptr {con : FuncId → Option Con} := PLift.up (ld_rules (C := ctx con) ty_api_Ptr)
def rA_api_Ptr {con : FuncId → Option Con} := PLift.up (alloc_rules (C := ctx con) ty_api_Ptr)
def rS_api_Ptr {con : FuncId → Option Con} := PLift.up (store_rules (C := ctx con) ty_api_Ptr)
def rR_api_Ptr {con : FuncId → Option Con} := PLift.up (storeR_rules (C := ctx con) ty_api_Ptr)
theorem eqf_api_Ptr : eqF 29 = some [13, 13, 16, 16, 16, 16] := by kernel_rfl
theorem eq_api_Ptr {con : FuncId → Option Con} : (ctx con).eqk 29 = some [13, 13, 16, 16, 16, 16] := eqf_api_Ptr
def re_api_Ptr {con : FuncId → Option Con} := PLift.up (eq_rules (C := ctx con) eq_api_Ptr)
def rB_api_Ptr {con : FuncId → Option Con} := PLift.up (build_rules (C := ctx con) ty_api_Ptr rfl)
def rF_api_Ptr_0 {con : FuncId → Option Con} := PLift.up (fillS_rule (C := ctx con) (fs := [(3, 0), (3, 1), (27, 2)]) 0 rfl ty_int)
def rf_api_Ptr_0 {con : FuncId → Option Con} := PLift.up (fld_rules (C := ctx con) 0 ty_api_Ptr rfl ty_int)
def rF_api_Ptr_1 {con : FuncId → Option Con} := PLift.up (fillS_rule (C := ctx con) (fs := [(3, 0), (3, 1), (27, 2)]) 1 rfl ty_int)
def rf_api_Ptr_1 {con : FuncId → Option Con} := PLift.up (fld_rules (C := ctx con) 1 ty_api_Ptr rfl ty_int)
def rF_api_Ptr_2 {con : FuncId → Option Con} := PLift.up (fillS_rule (C := ctx con) (fs := [(3, 0), (3, 1), (27, 2)]) 2 rfl ty_api_Sum)
def rf_api_Ptr_2 {con : FuncId → Option Con} := PLift.up (fld_rules (C := ctx con) 2 ty_api_Ptr rfl ty_api_Sum)
def rl_api_Root {con : FuncId → Option Con} := PLift.up (ld_rules (C := ctx con) ty_api_Root)
def rA_api_Root {con : FuncId → Option Con} := PLift.up (alloc_rules (C := ctx con) ty_api_Root)
def rS_api_Root {con : FuncId → Option Con} := PLift.up (store_rules (C := ctx con) ty_api_Root)
def rR_api_Root {con : FuncId → Option Con} := PLift.up (storeR_rules (C := ctx con) ty_api_Root)
theorem eqf_api_Root : eqF 31 = some [13, 13, 13, 13, 13, 16, 16, 16, 16, 13, 13, 16, 16, 16, 16, 13, 13, 16, 16, 16, 16, 13] := by kernel_rfl
theorem eq_api_Root {con : FuncId → Option Con} : (ctx con).eqk 31 = some [13, 13, 13, 13, 13, 16, 16, 16, 16, 13, 13, 16, 16, 16, 16, 13, 13, 16, 16, 16, 16, 13] := eqf_api_Root
def re_api_Root {con : FuncId → Option Con} := PLift.up (eq_rules (C := ctx con) eq_api_Root)
def rB_api_Root {con : FuncId → Option Con} := PLift.up (build_rules (C := ctx con) ty_api_Root rfl)
def rF_api_Root_0 {con : FuncId → Option Con} := PLift.up (fillS_rule (C := ctx con) (fs := [(3, 0), (3, 1), (3, 2), (29, 3), (29, 9), (29, 15), (3, 21)]) 0 rfl ty_int)
def rf_api_Root_0 {con : FuncId → Option Con} := PLift.up (fld_rules (C := ctx con) 0 ty_api_Root rfl ty_int)
def rF_api_Root_1 {con : FuncId → Option Con} := PLift.up (fillS_rule (C := ctx con) (fs := [(3, 0), (3, 1), (3, 2), (29, 3), (29, 9), (29, 15), (3, 21)]) 1 rfl ty_int)
def rf_api_Root_1 {con : FuncId → Option Con} := PLift.up (fld_rules (C := ctx con) 1 ty_api_Root rfl ty_int)
def rF_api_Root_2 {con : FuncId → Option Con} := PLift.up (fillS_rule (C := ctx con) (fs := [(3, 0), (3, 1), (3, 2), (29, 3), (29, 9), (29, 15), (3, 21)]) 2 rfl ty_int)
def rf_api_Root_2 {con : FuncId → Option Con} := PLift.up (fld_rules (C := ctx con) 2 ty_api_Root rfl ty_int)
def rF_api_Root_3 {con : FuncId → Option Con} := PLift.up (fillS_rule (C := ctx con) (fs := [(3, 0), (3, 1), (3, 2), (29, 3), (29, 9), (29, 15), (3, 21)]) 3 rfl ty_api_Ptr)
def rf_api_Root_3 {con : FuncId → Option Con} := PLift.up (fld_rules (C := ctx con) 3 ty_api_Root rfl ty_api_Ptr)
def rF_api_Root_4 {con : FuncId → Option Con} := PLift.up (fillS_rule (C := ctx con) (fs := [(3, 0), (3, 1), (3, 2), (29, 3), (29, 9), (29, 15), (3, 21)]) 4 rfl ty_api_Ptr)
def rf_api_Root_4 {con : FuncId → Option Con} := PLift.up (fld_rules (C := ctx con) 4 ty_api_Root rfl ty_api_Ptr)
def rF_api_Root_5 {con : FuncId → Option Con} := PLift.up (fillS_rule (C := ctx con) (fs := [(3, 0), (3, 1), (3, 2), (29, 3), (29, 9), (29, 15), (3, 21)]) 5 rfl ty_api_Ptr)
def rf_api_Root_5 {con : FuncId → Option Con} := PLift.up (fld_rules (C := ctx con) 5 ty_api_Root rfl ty_api_Ptr)
def rF_api_Root_6 {con : FuncId → Option Con} := PLift.up (fillS_rule (C := ctx con) (fs := [(3, 0), (3, 1), (3, 2), (29, 3), (29, 9), (29, 15), (3, 21)]) 6 rfl ty_int)
def rf_api_Root_6 {con : FuncId → Option Con} := PLift.up (fld_rules (C := ctx con) 6 ty_api_Root rfl ty_int)
def rl_api_Set {con : FuncId → Option Con} := PLift.up (ld_rules (C := ctx con) ty_api_Set)
def rA_api_Set {con : FuncId → Option Con} := PLift.up (alloc_rules (C := ctx con) ty_api_Set)
def rS_api_Set {con : FuncId → Option Con} := PLift.up (store_rules (C := ctx con) ty_api_Set)
def rR_api_Set {con : FuncId → Option Con} := PLift.up (storeR_rules (C := ctx con) ty_api_Set)
def rv_api_Set {con : FuncId → Option Con} := PLift.up (sl_rules (C := ctx con) TNode ty_api_Set ty_api_Node rfl)
def ri_api_Set {con : FuncId → Option Con} := PLift.up (idxt_rules (C := ctx con) TNode ty_api_Set ty_api_Node rfl)
def rb_api_Set {con : FuncId → Option Con} := PLift.up (bs_rules (C := ctx con) ty_api_Set ty_api_Node)
def rl_api_Dset {con : FuncId → Option Con} := PLift.up (ld_rules (C := ctx con) ty_api_Dset)
def rA_api_Dset {con : FuncId → Option Con} := PLift.up (alloc_rules (C := ctx con) ty_api_Dset)
def rS_api_Dset {con : FuncId → Option Con} := PLift.up (store_rules (C := ctx con) ty_api_Dset)
def rR_api_Dset {con : FuncId → Option Con} := PLift.up (storeR_rules (C := ctx con) ty_api_Dset)
def rB_api_Dset {con : FuncId → Option Con} := PLift.up (build_rules (C := ctx con) ty_api_Dset rfl)
def rF_api_Dset_0 {con : FuncId → Option Con} := PLift.up (fillS_rule (C := ctx con) (fs := [(3, 0), (3, 1), (3, 2), (3, 3), (34, 4)]) 0 rfl ty_int)
def rf_api_Dset_0 {con : FuncId → Option Con} := PLift.up (fld_rules (C := ctx con) 0 ty_api_Dset rfl ty_int)
def rF_api_Dset_1 {con : FuncId → Option Con} := PLift.up (fillS_rule (C := ctx con) (fs := [(3, 0), (3, 1), (3, 2), (3, 3), (34, 4)]) 1 rfl ty_int)
def rf_api_Dset_1 {con : FuncId → Option Con} := PLift.up (fld_rules (C := ctx con) 1 ty_api_Dset rfl ty_int)
def rF_api_Dset_2 {con : FuncId → Option Con} := PLift.up (fillS_rule (C := ctx con) (fs := [(3, 0), (3, 1), (3, 2), (3, 3), (34, 4)]) 2 rfl ty_int)
def rf_api_Dset_2 {con : FuncId → Option Con} := PLift.up (fld_rules (C := ctx con) 2 ty_api_Dset rfl ty_int)
def rF_api_Dset_3 {con : FuncId → Option Con} := PLift.up (fillS_rule (C := ctx con) (fs := [(3, 0), (3, 1), (3, 2), (3, 3), (34, 4)]) 3 rfl ty_int)
def rf_api_Dset_3 {con : FuncId → Option Con} := PLift.up (fld_rules (C := ctx con) 3 ty_api_Dset rfl ty_int)
def rF_api_Dset_4 {con : FuncId → Option Con} := PLift.up (fillS_rule (C := ctx con) (fs := [(3, 0), (3, 1), (3, 2), (3, 3), (34, 4)]) 4 rfl ty_api_Set)
def rf_api_Dset_4 {con : FuncId → Option Con} := PLift.up (fld_rules (C := ctx con) 4 ty_api_Dset rfl ty_api_Set)
def rl_Ppalimpmade_Picks {con : FuncId → Option Con} := PLift.up (ld_rules (C := ctx con) ty_Ppalimpmade_Picks)
def rA_Ppalimpmade_Picks {con : FuncId → Option Con} := PLift.up (alloc_rules (C := ctx con) ty_Ppalimpmade_Picks)
def rS_Ppalimpmade_Picks {con : FuncId → Option Con} := PLift.up (store_rules (C := ctx con) ty_Ppalimpmade_Picks)
def rR_Ppalimpmade_Picks {con : FuncId → Option Con} := PLift.up (storeR_rules (C := ctx con) ty_Ppalimpmade_Picks)
def rl_Lstring {con : FuncId → Option Con} := PLift.up (ld_rules (C := ctx con) ty_Lstring)
def rA_Lstring {con : FuncId → Option Con} := PLift.up (alloc_rules (C := ctx con) ty_Lstring)
def rS_Lstring {con : FuncId → Option Con} := PLift.up (store_rules (C := ctx con) ty_Lstring)
def rR_Lstring {con : FuncId → Option Con} := PLift.up (storeR_rules (C := ctx con) ty_Lstring)
def rv_Lstring {con : FuncId → Option Con} := PLift.up (sl_rules (C := ctx con) (List UInt8) ty_Lstring ty_string rfl)
def ri_Lstring {con : FuncId → Option Con} := PLift.up (idxt_rules (C := ctx con) (List UInt8) ty_Lstring ty_string rfl)
def rb_Lstring {con : FuncId → Option Con} := PLift.up (bs_rules (C := ctx con) ty_Lstring ty_string)
def rl_Lapi_Run {con : FuncId → Option Con} := PLift.up (ld_rules (C := ctx con) ty_Lapi_Run)
def rA_Lapi_Run {con : FuncId → Option Con} := PLift.up (alloc_rules (C := ctx con) ty_Lapi_Run)
def rS_Lapi_Run {con : FuncId → Option Con} := PLift.up (store_rules (C := ctx con) ty_Lapi_Run)
def rR_Lapi_Run {con : FuncId → Option Con} := PLift.up (storeR_rules (C := ctx con) ty_Lapi_Run)
def rv_Lapi_Run {con : FuncId → Option Con} := PLift.up (sl_rules (C := ctx con) TRun ty_Lapi_Run ty_api_Run rfl)
def ri_Lapi_Run {con : FuncId → Option Con} := PLift.up (idxt_rules (C := ctx con) TRun ty_Lapi_Run ty_api_Run rfl)
def rb_Lapi_Run {con : FuncId → Option Con} := PLift.up (bs_rules (C := ctx con) ty_Lapi_Run ty_api_Run)
def rl_api_Space {con : FuncId → Option Con} := PLift.up (ld_rules (C := ctx con) ty_api_Space)
def rA_api_Space {con : FuncId → Option Con} := PLift.up (alloc_rules (C := ctx con) ty_api_Space)
def rS_api_Space {con : FuncId → Option Con} := PLift.up (store_rules (C := ctx con) ty_api_Space)
def rR_api_Space {con : FuncId → Option Con} := PLift.up (storeR_rules (C := ctx con) ty_api_Space)
def rB_api_Space {con : FuncId → Option Con} := PLift.up (build_rules (C := ctx con) ty_api_Space rfl)
def rF_api_Space_0 {con : FuncId → Option Con} := PLift.up (fillS_rule (C := ctx con) (fs := [(52, 0), (52, 1), (52, 2), (52, 3)]) 0 rfl ty_Lapi_Run)
def rf_api_Space_0 {con : FuncId → Option Con} := PLift.up (fld_rules (C := ctx con) 0 ty_api_Space rfl ty_Lapi_Run)
def rF_api_Space_1 {con : FuncId → Option Con} := PLift.up (fillS_rule (C := ctx con) (fs := [(52, 0), (52, 1), (52, 2), (52, 3)]) 1 rfl ty_Lapi_Run)
def rf_api_Space_1 {con : FuncId → Option Con} := PLift.up (fld_rules (C := ctx con) 1 ty_api_Space rfl ty_Lapi_Run)
def rF_api_Space_2 {con : FuncId → Option Con} := PLift.up (fillS_rule (C := ctx con) (fs := [(52, 0), (52, 1), (52, 2), (52, 3)]) 2 rfl ty_Lapi_Run)
def rf_api_Space_2 {con : FuncId → Option Con} := PLift.up (fld_rules (C := ctx con) 2 ty_api_Space rfl ty_Lapi_Run)
def rF_api_Space_3 {con : FuncId → Option Con} := PLift.up (fillS_rule (C := ctx con) (fs := [(52, 0), (52, 1), (52, 2), (52, 3)]) 3 rfl ty_Lapi_Run)
def rf_api_Space_3 {con : FuncId → Option Con} := PLift.up (fld_rules (C := ctx con) 3 ty_api_Space rfl ty_Lapi_Run)
def rl_Lapi_Space {con : FuncId → Option Con} := PLift.up (ld_rules (C := ctx con) ty_Lapi_Space)
def rA_Lapi_Space {con : FuncId → Option Con} := PLift.up (alloc_rules (C := ctx con) ty_Lapi_Space)
def rS_Lapi_Space {con : FuncId → Option Con} := PLift.up (store_rules (C := ctx con) ty_Lapi_Space)
def rR_Lapi_Space {con : FuncId → Option Con} := PLift.up (storeR_rules (C := ctx con) ty_Lapi_Space)
def rv_Lapi_Space {con : FuncId → Option Con} := PLift.up (sl_rules (C := ctx con) TSpace ty_Lapi_Space ty_api_Space rfl)
def ri_Lapi_Space {con : FuncId → Option Con} := PLift.up (idxt_rules (C := ctx con) TSpace ty_Lapi_Space ty_api_Space rfl)
def rb_Lapi_Space {con : FuncId → Option Con} := PLift.up (bs_rules (C := ctx con) ty_Lapi_Space ty_api_Space)
def rl_Lint {con : FuncId → Option Con} := PLift.up (ld_rules (C := ctx con) ty_Lint)
def rA_Lint {con : FuncId → Option Con} := PLift.up (alloc_rules (C := ctx con) ty_Lint)
def rS_Lint {con : FuncId → Option Con} := PLift.up (store_rules (C := ctx con) ty_Lint)
def rR_Lint {con : FuncId → Option Con} := PLift.up (storeR_rules (C := ctx con) ty_Lint)
def rv_Lint {con : FuncId → Option Con} := PLift.up (sl_rules (C := ctx con) Int ty_Lint ty_int rfl)
def ri_Lint {con : FuncId → Option Con} := PLift.up (idxt_rules (C := ctx con) Int ty_Lint ty_int rfl)
def rb_Lint {con : FuncId → Option Con} := PLift.up (bs_rules (C := ctx con) ty_Lint ty_int)
def rl_Lapi_Root {con : FuncId → Option Con} := PLift.up (ld_rules (C := ctx con) ty_Lapi_Root)
def rA_Lapi_Root {con : FuncId → Option Con} := PLift.up (alloc_rules (C := ctx con) ty_Lapi_Root)
def rS_Lapi_Root {con : FuncId → Option Con} := PLift.up (store_rules (C := ctx con) ty_Lapi_Root)
def rR_Lapi_Root {con : FuncId → Option Con} := PLift.up (storeR_rules (C := ctx con) ty_Lapi_Root)
def rv_Lapi_Root {con : FuncId → Option Con} := PLift.up (sl_rules (C := ctx con) TRoot ty_Lapi_Root ty_api_Root rfl)
def ri_Lapi_Root {con : FuncId → Option Con} := PLift.up (idxt_rules (C := ctx con) TRoot ty_Lapi_Root ty_api_Root rfl)
def rb_Lapi_Root {con : FuncId → Option Con} := PLift.up (bs_rules (C := ctx con) ty_Lapi_Root ty_api_Root)
def rl_A24uint8 {con : FuncId → Option Con} := PLift.up (ld_rules (C := ctx con) ty_A24uint8)
def rA_A24uint8 {con : FuncId → Option Con} := PLift.up (alloc_rules (C := ctx con) ty_A24uint8)
def rS_A24uint8 {con : FuncId → Option Con} := PLift.up (store_rules (C := ctx con) ty_A24uint8)
def rR_A24uint8 {con : FuncId → Option Con} := PLift.up (storeR_rules (C := ctx con) ty_A24uint8)
theorem eqf_A24uint8 : eqF 67 = some [14, 14, 14, 14, 14, 14, 14, 14, 14, 14, 14, 14, 14, 14, 14, 14, 14, 14, 14, 14, 14, 14, 14, 14] := by kernel_rfl
theorem eq_A24uint8 {con : FuncId → Option Con} : (ctx con).eqk 67 = some [14, 14, 14, 14, 14, 14, 14, 14, 14, 14, 14, 14, 14, 14, 14, 14, 14, 14, 14, 14, 14, 14, 14, 14] := eqf_A24uint8
def re_A24uint8 {con : FuncId → Option Con} := PLift.up (eq_rules (C := ctx con) eq_A24uint8)
def ra_A24uint8 {con : FuncId → Option Con} := PLift.up (arr_rules (C := ctx con) ty_A24uint8 ty_uint8)
def rB_A24uint8 {con : FuncId → Option Con} := PLift.up (buildA_rules (C := ctx con) ty_A24uint8 ty_uint8)
def rl_api_Run {con : FuncId → Option Con} := PLift.up (ld_rules (C := ctx con) ty_api_Run)
def rA_api_Run {con : FuncId → Option Con} := PLift.up (alloc_rules (C := ctx con) ty_api_Run)
def rS_api_Run {con : FuncId → Option Con} := PLift.up (store_rules (C := ctx con) ty_api_Run)
def rR_api_Run {con : FuncId → Option Con} := PLift.up (storeR_rules (C := ctx con) ty_api_Run)
theorem eqf_api_Run : eqF 69 = some [13, 13] := by kernel_rfl
theorem eq_api_Run {con : FuncId → Option Con} : (ctx con).eqk 69 = some [13, 13] := eqf_api_Run
def re_api_Run {con : FuncId → Option Con} := PLift.up (eq_rules (C := ctx con) eq_api_Run)
def rB_api_Run {con : FuncId → Option Con} := PLift.up (build_rules (C := ctx con) ty_api_Run rfl)
def rF_api_Run_0 {con : FuncId → Option Con} := PLift.up (fillS_rule (C := ctx con) (fs := [(3, 0), (3, 1)]) 0 rfl ty_int)
def rf_api_Run_0 {con : FuncId → Option Con} := PLift.up (fld_rules (C := ctx con) 0 ty_api_Run rfl ty_int)
def rF_api_Run_1 {con : FuncId → Option Con} := PLift.up (fillS_rule (C := ctx con) (fs := [(3, 0), (3, 1)]) 1 rfl ty_int)
def rf_api_Run_1 {con : FuncId → Option Con} := PLift.up (fld_rules (C := ctx con) 1 ty_api_Run rfl ty_int)
def rl_api_Block {con : FuncId → Option Con} := PLift.up (ld_rules (C := ctx con) ty_api_Block)
def rA_api_Block {con : FuncId → Option Con} := PLift.up (alloc_rules (C := ctx con) ty_api_Block)
def rS_api_Block {con : FuncId → Option Con} := PLift.up (store_rules (C := ctx con) ty_api_Block)
def rR_api_Block {con : FuncId → Option Con} := PLift.up (storeR_rules (C := ctx con) ty_api_Block)
theorem eqf_api_Block : eqF 71 = some [13, 13, 3] := by kernel_rfl
theorem eq_api_Block {con : FuncId → Option Con} : (ctx con).eqk 71 = some [13, 13, 3] := eqf_api_Block
def re_api_Block {con : FuncId → Option Con} := PLift.up (eq_rules (C := ctx con) eq_api_Block)
def rB_api_Block {con : FuncId → Option Con} := PLift.up (build_rules (C := ctx con) ty_api_Block rfl)
def rF_api_Block_0 {con : FuncId → Option Con} := PLift.up (fillS_rule (C := ctx con) (fs := [(3, 0), (3, 1), (9, 2)]) 0 rfl ty_int)
def rf_api_Block_0 {con : FuncId → Option Con} := PLift.up (fld_rules (C := ctx con) 0 ty_api_Block rfl ty_int)
def rF_api_Block_1 {con : FuncId → Option Con} := PLift.up (fillS_rule (C := ctx con) (fs := [(3, 0), (3, 1), (9, 2)]) 1 rfl ty_int)
def rf_api_Block_1 {con : FuncId → Option Con} := PLift.up (fld_rules (C := ctx con) 1 ty_api_Block rfl ty_int)
def rF_api_Block_2 {con : FuncId → Option Con} := PLift.up (fillS_rule (C := ctx con) (fs := [(3, 0), (3, 1), (9, 2)]) 2 rfl ty_string)
def rf_api_Block_2 {con : FuncId → Option Con} := PLift.up (fld_rules (C := ctx con) 2 ty_api_Block rfl ty_string)
def rl_palimpmade_Picks {con : FuncId → Option Con} := PLift.up (ld_rules (C := ctx con) ty_palimpmade_Picks)
def rA_palimpmade_Picks {con : FuncId → Option Con} := PLift.up (alloc_rules (C := ctx con) ty_palimpmade_Picks)
def rS_palimpmade_Picks {con : FuncId → Option Con} := PLift.up (store_rules (C := ctx con) ty_palimpmade_Picks)
def rR_palimpmade_Picks {con : FuncId → Option Con} := PLift.up (storeR_rules (C := ctx con) ty_palimpmade_Picks)
def rB_palimpmade_Picks {con : FuncId → Option Con} := PLift.up (build_rules (C := ctx con) ty_palimpmade_Picks rfl)
def rF_palimpmade_Picks_0 {con : FuncId → Option Con} := PLift.up (fillS_rule (C := ctx con) (fs := [(22, 0), (3, 1)]) 0 rfl ty_Luint8)
def rf_palimpmade_Picks_0 {con : FuncId → Option Con} := PLift.up (fld_rules (C := ctx con) 0 ty_palimpmade_Picks rfl ty_Luint8)
def rF_palimpmade_Picks_1 {con : FuncId → Option Con} := PLift.up (fillS_rule (C := ctx con) (fs := [(22, 0), (3, 1)]) 1 rfl ty_int)
def rf_palimpmade_Picks_1 {con : FuncId → Option Con} := PLift.up (fld_rules (C := ctx con) 1 ty_palimpmade_Picks rfl ty_int)
def rl_table_row {con : FuncId → Option Con} := PLift.up (ld_rules (C := ctx con) ty_table_row)
def rA_table_row {con : FuncId → Option Con} := PLift.up (alloc_rules (C := ctx con) ty_table_row)
def rS_table_row {con : FuncId → Option Con} := PLift.up (store_rules (C := ctx con) ty_table_row)
def rR_table_row {con : FuncId → Option Con} := PLift.up (storeR_rules (C := ctx con) ty_table_row)
def rB_table_row {con : FuncId → Option Con} := PLift.up (build_rules (C := ctx con) ty_table_row rfl)
def rF_table_row_0 {con : FuncId → Option Con} := PLift.up (fillS_rule (C := ctx con) (fs := [(36, 0), (29, 5)]) 0 rfl ty_api_Dset)
def rf_table_row_0 {con : FuncId → Option Con} := PLift.up (fld_rules (C := ctx con) 0 ty_table_row rfl ty_api_Dset)
def rF_table_row_1 {con : FuncId → Option Con} := PLift.up (fillS_rule (C := ctx con) (fs := [(36, 0), (29, 5)]) 1 rfl ty_api_Ptr)
def rf_table_row_1 {con : FuncId → Option Con} := PLift.up (fld_rules (C := ctx con) 1 ty_table_row rfl ty_api_Ptr)
def rl_A4Lapi_Run {con : FuncId → Option Con} := PLift.up (ld_rules (C := ctx con) ty_A4Lapi_Run)
def rA_A4Lapi_Run {con : FuncId → Option Con} := PLift.up (alloc_rules (C := ctx con) ty_A4Lapi_Run)
def rS_A4Lapi_Run {con : FuncId → Option Con} := PLift.up (store_rules (C := ctx con) ty_A4Lapi_Run)
def rR_A4Lapi_Run {con : FuncId → Option Con} := PLift.up (storeR_rules (C := ctx con) ty_A4Lapi_Run)
def ra_A4Lapi_Run {con : FuncId → Option Con} := PLift.up (arr_rules (C := ctx con) ty_A4Lapi_Run ty_Lapi_Run)
def rB_A4Lapi_Run {con : FuncId → Option Con} := PLift.up (buildA_rules (C := ctx con) ty_A4Lapi_Run ty_Lapi_Run)
def rl_uint {con : FuncId → Option Con} := PLift.up (ld_rules (C := ctx con) ty_uint)
def rA_uint {con : FuncId → Option Con} := PLift.up (alloc_rules (C := ctx con) ty_uint)
def rS_uint {con : FuncId → Option Con} := PLift.up (store_rules (C := ctx con) ty_uint)
def rR_uint {con : FuncId → Option Con} := PLift.up (storeR_rules (C := ctx con) ty_uint)
def rl_ptr_pointer {con : FuncId → Option Con} := PLift.up (ld_rules (C := ctx con) ty_ptr_pointer)
def rA_ptr_pointer {con : FuncId → Option Con} := PLift.up (alloc_rules (C := ctx con) ty_ptr_pointer)
def rS_ptr_pointer {con : FuncId → Option Con} := PLift.up (store_rules (C := ctx con) ty_ptr_pointer)
def rR_ptr_pointer {con : FuncId → Option Con} := PLift.up (storeR_rules (C := ctx con) ty_ptr_pointer)
theorem eqf_ptr_pointer : eqF 108 = some [13, 13, 16, 16, 16, 16] := by kernel_rfl
theorem eq_ptr_pointer {con : FuncId → Option Con} : (ctx con).eqk 108 = some [13, 13, 16, 16, 16, 16] := eqf_ptr_pointer
def re_ptr_pointer {con : FuncId → Option Con} := PLift.up (eq_rules (C := ctx con) eq_ptr_pointer)
def rB_ptr_pointer {con : FuncId → Option Con} := PLift.up (build_rules (C := ctx con) ty_ptr_pointer rfl)
def rF_ptr_pointer_0 {con : FuncId → Option Con} := PLift.up (fillS_rule (C := ctx con) (fs := [(29, 0)]) 0 rfl ty_api_Ptr)
def rf_ptr_pointer_0 {con : FuncId → Option Con} := PLift.up (fld_rules (C := ctx con) 0 ty_ptr_pointer rfl ty_api_Ptr)
def rl_space_taken {con : FuncId → Option Con} := PLift.up (ld_rules (C := ctx con) ty_space_taken)
def rA_space_taken {con : FuncId → Option Con} := PLift.up (alloc_rules (C := ctx con) ty_space_taken)
def rS_space_taken {con : FuncId → Option Con} := PLift.up (store_rules (C := ctx con) ty_space_taken)
def rR_space_taken {con : FuncId → Option Con} := PLift.up (storeR_rules (C := ctx con) ty_space_taken)
def rB_space_taken {con : FuncId → Option Con} := PLift.up (build_rules (C := ctx con) ty_space_taken rfl)
def rF_space_taken_0 {con : FuncId → Option Con} := PLift.up (fillS_rule (C := ctx con) (fs := [(56, 0)]) 0 rfl ty_api_Space)
def rf_space_taken_0 {con : FuncId → Option Con} := PLift.up (fld_rules (C := ctx con) 0 ty_space_taken rfl ty_api_Space)
def rl_space_pool {con : FuncId → Option Con} := PLift.up (ld_rules (C := ctx con) ty_space_pool)
def rA_space_pool {con : FuncId → Option Con} := PLift.up (alloc_rules (C := ctx con) ty_space_pool)
def rS_space_pool {con : FuncId → Option Con} := PLift.up (store_rules (C := ctx con) ty_space_pool)
def rR_space_pool {con : FuncId → Option Con} := PLift.up (storeR_rules (C := ctx con) ty_space_pool)
def rB_space_pool {con : FuncId → Option Con} := PLift.up (build_rules (C := ctx con) ty_space_pool rfl)
def rF_space_pool_0 {con : FuncId → Option Con} := PLift.up (fillS_rule (C := ctx con) (fs := [(115, 0), (3, 4)]) 0 rfl ty_space_taken)
def rf_space_pool_0 {con : FuncId → Option Con} := PLift.up (fld_rules (C := ctx con) 0 ty_space_pool rfl ty_space_taken)
def rF_space_pool_1 {con : FuncId → Option Con} := PLift.up (fillS_rule (C := ctx con) (fs := [(115, 0), (3, 4)]) 1 rfl ty_int)
def rf_space_pool_1 {con : FuncId → Option Con} := PLift.up (fld_rules (C := ctx con) 1 ty_space_pool rfl ty_int)
def rl_api_Node {con : FuncId → Option Con} := PLift.up (ld_rules (C := ctx con) ty_api_Node)
def rA_api_Node {con : FuncId → Option Con} := PLift.up (alloc_rules (C := ctx con) ty_api_Node)
def rS_api_Node {con : FuncId → Option Con} := PLift.up (store_rules (C := ctx con) ty_api_Node)
def rR_api_Node {con : FuncId → Option Con} := PLift.up (storeR_rules (C := ctx con) ty_api_Node)
theorem eqf_api_Node : eqF 123 = some [13, 13, 3, 3, 13] := by kernel_rfl
theorem eq_api_Node {con : FuncId → Option Con} : (ctx con).eqk 123 = some [13, 13, 3, 3, 13] := eqf_api_Node
def re_api_Node {con : FuncId → Option Con} := PLift.up (eq_rules (C := ctx con) eq_api_Node)
def rB_api_Node {con : FuncId → Option Con} := PLift.up (build_rules (C := ctx con) ty_api_Node rfl)
def rF_api_Node_0 {con : FuncId → Option Con} := PLift.up (fillS_rule (C := ctx con) (fs := [(3, 0), (3, 1), (9, 2), (9, 3), (3, 4)]) 0 rfl ty_int)
def rf_api_Node_0 {con : FuncId → Option Con} := PLift.up (fld_rules (C := ctx con) 0 ty_api_Node rfl ty_int)
def rF_api_Node_1 {con : FuncId → Option Con} := PLift.up (fillS_rule (C := ctx con) (fs := [(3, 0), (3, 1), (9, 2), (9, 3), (3, 4)]) 1 rfl ty_int)
def rf_api_Node_1 {con : FuncId → Option Con} := PLift.up (fld_rules (C := ctx con) 1 ty_api_Node rfl ty_int)
def rF_api_Node_2 {con : FuncId → Option Con} := PLift.up (fillS_rule (C := ctx con) (fs := [(3, 0), (3, 1), (9, 2), (9, 3), (3, 4)]) 2 rfl ty_string)
def rf_api_Node_2 {con : FuncId → Option Con} := PLift.up (fld_rules (C := ctx con) 2 ty_api_Node rfl ty_string)
def rF_api_Node_3 {con : FuncId → Option Con} := PLift.up (fillS_rule (C := ctx con) (fs := [(3, 0), (3, 1), (9, 2), (9, 3), (3, 4)]) 3 rfl ty_string)
def rf_api_Node_3 {con : FuncId → Option Con} := PLift.up (fld_rules (C := ctx con) 3 ty_api_Node rfl ty_string)
def rF_api_Node_4 {con : FuncId → Option Con} := PLift.up (fillS_rule (C := ctx con) (fs := [(3, 0), (3, 1), (9, 2), (9, 3), (3, 4)]) 4 rfl ty_int)
def rf_api_Node_4 {con : FuncId → Option Con} := PLift.up (fld_rules (C := ctx con) 4 ty_api_Node rfl ty_int)
def rl_span_rows {con : FuncId → Option Con} := PLift.up (ld_rules (C := ctx con) ty_span_rows)
def rA_span_rows {con : FuncId → Option Con} := PLift.up (alloc_rules (C := ctx con) ty_span_rows)
def rS_span_rows {con : FuncId → Option Con} := PLift.up (store_rules (C := ctx con) ty_span_rows)
def rR_span_rows {con : FuncId → Option Con} := PLift.up (storeR_rules (C := ctx con) ty_span_rows)
def rB_span_rows {con : FuncId → Option Con} := PLift.up (build_rules (C := ctx con) ty_span_rows rfl)
def rF_span_rows_0 {con : FuncId → Option Con} := PLift.up (fillS_rule (C := ctx con) (fs := [(52, 0), (52, 1)]) 0 rfl ty_Lapi_Run)
def rf_span_rows_0 {con : FuncId → Option Con} := PLift.up (fld_rules (C := ctx con) 0 ty_span_rows rfl ty_Lapi_Run)
def rF_span_rows_1 {con : FuncId → Option Con} := PLift.up (fillS_rule (C := ctx con) (fs := [(52, 0), (52, 1)]) 1 rfl ty_Lapi_Run)
def rf_span_rows_1 {con : FuncId → Option Con} := PLift.up (fld_rules (C := ctx con) 1 ty_span_rows rfl ty_Lapi_Run)
def rl_func_bool__bool__bool {con : FuncId → Option Con} := PLift.up (ld_rules (C := ctx con) ty_func_bool__bool__bool)
def rA_func_bool__bool__bool {con : FuncId → Option Con} := PLift.up (alloc_rules (C := ctx con) ty_func_bool__bool__bool)
def rS_func_bool__bool__bool {con : FuncId → Option Con} := PLift.up (store_rules (C := ctx con) ty_func_bool__bool__bool)
def rR_func_bool__bool__bool {con : FuncId → Option Con} := PLift.up (storeR_rules (C := ctx con) ty_func_bool__bool__bool)
def rl_span_run {con : FuncId → Option Con} := PLift.up (ld_rules (C := ctx con) ty_span_run)
def rA_span_run {con : FuncId → Option Con} := PLift.up (alloc_rules (C := ctx con) ty_span_run)
def rS_span_run {con : FuncId → Option Con} := PLift.up (store_rules (C := ctx con) ty_span_run)
def rR_span_run {con : FuncId → Option Con} := PLift.up (storeR_rules (C := ctx con) ty_span_run)
theorem eqf_span_run : eqF 133 = some [13, 13] := by kernel_rfl
theorem eq_span_run {con : FuncId → Option Con} : (ctx con).eqk 133 = some [13, 13] := eqf_span_run
def re_span_run {con : FuncId → Option Con} := PLift.up (eq_rules (C := ctx con) eq_span_run)
def rB_span_run {con : FuncId → Option Con} := PLift.up (build_rules (C := ctx con) ty_span_run rfl)
def rF_span_run_0 {con : FuncId → Option Con} := PLift.up (fillS_rule (C := ctx con) (fs := [(69, 0)]) 0 rfl ty_api_Run)
def rf_span_run_0 {con : FuncId → Option Con} := PLift.up (fld_rules (C := ctx con) 0 ty_span_run rfl ty_api_Run)
def rl_func_api_Run__bool {con : FuncId → Option Con} := PLift.up (ld_rules (C := ctx con) ty_func_api_Run__bool)
def rA_func_api_Run__bool {con : FuncId → Option Con} := PLift.up (alloc_rules (C := ctx con) ty_func_api_Run__bool)
def rS_func_api_Run__bool {con : FuncId → Option Con} := PLift.up (store_rules (C := ctx con) ty_func_api_Run__bool)
def rR_func_api_Run__bool {con : FuncId → Option Con} := PLift.up (storeR_rules (C := ctx con) ty_func_api_Run__bool)
def rl_slices_sortedHint {con : FuncId → Option Con} := PLift.up (ld_rules (C := ctx con) ty_slices_sortedHint)
def rA_slices_sortedHint {con : FuncId → Option Con} := PLift.up (alloc_rules (C := ctx con) ty_slices_sortedHint)
def rS_slices_sortedHint {con : FuncId → Option Con} := PLift.up (store_rules (C := ctx con) ty_slices_sortedHint)
def rR_slices_sortedHint {con : FuncId → Option Con} := PLift.up (storeR_rules (C := ctx con) ty_slices_sortedHint)
def rl_uint64 {con : FuncId → Option Con} := PLift.up (ld_rules (C := ctx con) ty_uint64)
def rA_uint64 {con : FuncId → Option Con} := PLift.up (alloc_rules (C := ctx con) ty_uint64)
def rS_uint64 {con : FuncId → Option Con} := PLift.up (store_rules (C := ctx con) ty_uint64)
def rR_uint64 {con : FuncId → Option Con} := PLift.up (storeR_rules (C := ctx con) ty_uint64)
def rl_LLapi_Run {con : FuncId → Option Con} := PLift.up (ld_rules (C := ctx con) ty_LLapi_Run)
def rA_LLapi_Run {con : FuncId → Option Con} := PLift.up (alloc_rules (C := ctx con) ty_LLapi_Run)
def rS_LLapi_Run {con : FuncId → Option Con} := PLift.up (store_rules (C := ctx con) ty_LLapi_Run)
def rR_LLapi_Run {con : FuncId → Option Con} := PLift.up (storeR_rules (C := ctx con) ty_LLapi_Run)
def rv_LLapi_Run {con : FuncId → Option Con} := PLift.up (sl_rules (C := ctx con) (List TRun) ty_LLapi_Run ty_Lapi_Run rfl)
def ri_LLapi_Run {con : FuncId → Option Con} := PLift.up (idxt_rules (C := ctx con) (List TRun) ty_LLapi_Run ty_Lapi_Run rfl)
def rb_LLapi_Run {con : FuncId → Option Con} := PLift.up (bs_rules (C := ctx con) ty_LLapi_Run ty_Lapi_Run)
def rl_slices_xorshift {con : FuncId → Option Con} := PLift.up (ld_rules (C := ctx con) ty_slices_xorshift)
def rA_slices_xorshift {con : FuncId → Option Con} := PLift.up (alloc_rules (C := ctx con) ty_slices_xorshift)
def rS_slices_xorshift {con : FuncId → Option Con} := PLift.up (store_rules (C := ctx con) ty_slices_xorshift)
def rR_slices_xorshift {con : FuncId → Option Con} := PLift.up (storeR_rules (C := ctx con) ty_slices_xorshift)
def rl_Pint {con : FuncId → Option Con} := PLift.up (ld_rules (C := ctx con) ty_Pint)
def rA_Pint {con : FuncId → Option Con} := PLift.up (alloc_rules (C := ctx con) ty_Pint)
def rS_Pint {con : FuncId → Option Con} := PLift.up (store_rules (C := ctx con) ty_Pint)
def rR_Pint {con : FuncId → Option Con} := PLift.up (storeR_rules (C := ctx con) ty_Pint)
def rl_Pslices_xorshift {con : FuncId → Option Con} := PLift.up (ld_rules (C := ctx con) ty_Pslices_xorshift)
def rA_Pslices_xorshift {con : FuncId → Option Con} := PLift.up (alloc_rules (C := ctx con) ty_Pslices_xorshift)
def rS_Pslices_xorshift {con : FuncId → Option Con} := PLift.up (store_rules (C := ctx con) ty_Pslices_xorshift)
def rR_Pslices_xorshift {con : FuncId → Option Con} := PLift.up (storeR_rules (C := ctx con) ty_Pslices_xorshift)
def rc_int_uint8 {con : FuncId → Option Con} := PLift.up (conv_irule (C := ctx con) ty_int ty_uint8)
def rc_int_uint32 {con : FuncId → Option Con} := PLift.up (conv_irule (C := ctx con) ty_int ty_uint32)
def rc_int_uint {con : FuncId → Option Con} := PLift.up (conv_irule (C := ctx con) ty_int ty_uint)
def rc_int_slices_xorshift {con : FuncId → Option Con} := PLift.up (conv_irule (C := ctx con) ty_int ty_slices_xorshift)
def rc_uint8_int {con : FuncId → Option Con} := PLift.up (conv_irule (C := ctx con) ty_uint8 ty_int)
def rc_string_Luint8 {con : FuncId → Option Con} := PLift.up (conv_brule (C := ctx con) ty_string ty_Luint8 ty_uint8)
def rc_Luint8_string {con : FuncId → Option Con} := PLift.up (conv_trule (C := ctx con) ty_Luint8 ty_string ty_uint8)
def rc_uint32_int {con : FuncId → Option Con} := PLift.up (conv_irule (C := ctx con) ty_uint32 ty_int)
def rc_uint32_uint8 {con : FuncId → Option Con} := PLift.up (conv_irule (C := ctx con) ty_uint32 ty_uint8)
def rc_uint_int {con : FuncId → Option Con} := PLift.up (conv_irule (C := ctx con) ty_uint ty_int)
def rc_uint_uint32 {con : FuncId → Option Con} := PLift.up (conv_irule (C := ctx con) ty_uint ty_uint32)
def rc_uint64_uint8 {con : FuncId → Option Con} := PLift.up (conv_irule (C := ctx con) ty_uint64 ty_uint8)
def vS0 {con : FuncId → Option Con} := PLift.up (And.intro ((rl_int (con := con)).down) (And.intro ((rA_int (con := con)).down) (And.intro ((rS_int (con := con)).down) (And.intro ((rR_int (con := con)).down) (And.intro ((rl_bool (con := con)).down) (And.intro ((rA_bool (con := con)).down) (And.intro ((rS_bool (con := con)).down) (And.intro ((rR_bool (con := con)).down) (And.intro ((rq_bool (con := con)).down) (And.intro ((rl_uint8 (con := con)).down) (And.intro ((rA_uint8 (con := con)).down) (And.intro ((rS_uint8 (con := con)).down) (And.intro ((rR_uint8 (con := con)).down) (And.intro ((rl_string (con := con)).down) (And.intro ((rA_string (con := con)).down) (And.intro ((rS_string (con := con)).down) (And.intro ((rR_string (con := con)).down) (And.intro ((rs_string (con := con)).down) (And.intro ((rl_Luint8 (con := con)).down) ((rA_Luint8 (con := con)).down))))))))))))))))))))
def vS1 {con : FuncId → Option Con} := PLift.up (And.intro ((rS_Luint8 (con := con)).down) (And.intro ((rR_Luint8 (con := con)).down) (And.intro ((rv_Luint8 (con := con)).down) (And.intro ((ri_Luint8 (con := con)).down) (And.intro ((rb_Luint8 (con := con)).down) (And.intro ((rl_Lapi_Dset (con := con)).down) (And.intro ((rA_Lapi_Dset (con := con)).down) (And.intro ((rS_Lapi_Dset (con := con)).down) (And.intro ((rR_Lapi_Dset (con := con)).down) (And.intro ((rv_Lapi_Dset (con := con)).down) (And.intro ((ri_Lapi_Dset (con := con)).down) (And.intro ((rb_Lapi_Dset (con := con)).down) (And.intro ((rl_Lapi_Ptr (con := con)).down) (And.intro ((rA_Lapi_Ptr (con := con)).down) (And.intro ((rS_Lapi_Ptr (con := con)).down) (And.intro ((rR_Lapi_Ptr (con := con)).down) (And.intro ((rv_Lapi_Ptr (con := con)).down) (And.intro ((ri_Lapi_Ptr (con := con)).down) (And.intro ((rb_Lapi_Ptr (con := con)).down) ((rl_uint32 (con := con)).down))))))))))))))))))))
def vS2 {con : FuncId → Option Con} := PLift.up (And.intro ((rA_uint32 (con := con)).down) (And.intro ((rS_uint32 (con := con)).down) (And.intro ((rR_uint32 (con := con)).down) (And.intro ((rl_api_Sum (con := con)).down) (And.intro ((rA_api_Sum (con := con)).down) (And.intro ((rS_api_Sum (con := con)).down) (And.intro ((rR_api_Sum (con := con)).down) (And.intro ((re_api_Sum (con := con)).down) (And.intro ((ra_api_Sum (con := con)).down) (And.intro ((rB_api_Sum (con := con)).down) (And.intro ((rl_api_Ptr (con := con)).down) (And.intro ((rA_api_Ptr (con := con)).down) (And.intro ((rS_api_Ptr (con := con)).down) (And.intro ((rR_api_Ptr (con := con)).down) (And.intro ((re_api_Ptr (con := con)).down) (And.intro ((rB_api_Ptr (con := con)).down) (And.intro ((rF_api_Ptr_0 (con := con)).down) (And.intro ((rf_api_Ptr_0 (con := con)).down) (And.intro ((rF_api_Ptr_1 (con := con)).down) ((rf_api_Ptr_1 (con := con)).down))))))))))))))))))))
def vS3 {con : FuncId → Option Con} := PLift.up (And.intro ((rF_api_Ptr_2 (con := con)).down) (And.intro ((rf_api_Ptr_2 (con := con)).down) (And.intro ((rl_api_Root (con := con)).down) (And.intro ((rA_api_Root (con := con)).down) (And.intro ((rS_api_Root (con := con)).down) (And.intro ((rR_api_Root (con := con)).down) (And.intro ((re_api_Root (con := con)).down) (And.intro ((rB_api_Root (con := con)).down) (And.intro ((rF_api_Root_0 (con := con)).down) (And.intro ((rf_api_Root_0 (con := con)).down) (And.intro ((rF_api_Root_1 (con := con)).down) (And.intro ((rf_api_Root_1 (con := con)).down) (And.intro ((rF_api_Root_2 (con := con)).down) (And.intro ((rf_api_Root_2 (con := con)).down) (And.intro ((rF_api_Root_3 (con := con)).down) (And.intro ((rf_api_Root_3 (con := con)).down) (And.intro ((rF_api_Root_4 (con := con)).down) (And.intro ((rf_api_Root_4 (con := con)).down) (And.intro ((rF_api_Root_5 (con := con)).down) ((rf_api_Root_5 (con := con)).down))))))))))))))))))))
def vS4 {con : FuncId → Option Con} := PLift.up (And.intro ((rF_api_Root_6 (con := con)).down) (And.intro ((rf_api_Root_6 (con := con)).down) (And.intro ((rl_api_Set (con := con)).down) (And.intro ((rA_api_Set (con := con)).down) (And.intro ((rS_api_Set (con := con)).down) (And.intro ((rR_api_Set (con := con)).down) (And.intro ((rv_api_Set (con := con)).down) (And.intro ((ri_api_Set (con := con)).down) (And.intro ((rb_api_Set (con := con)).down) (And.intro ((rl_api_Dset (con := con)).down) (And.intro ((rA_api_Dset (con := con)).down) (And.intro ((rS_api_Dset (con := con)).down) (And.intro ((rR_api_Dset (con := con)).down) (And.intro ((rB_api_Dset (con := con)).down) (And.intro ((rF_api_Dset_0 (con := con)).down) (And.intro ((rf_api_Dset_0 (con := con)).down) (And.intro ((rF_api_Dset_1 (con := con)).down) (And.intro ((rf_api_Dset_1 (con := con)).down) (And.intro ((rF_api_Dset_2 (con := con)).down) ((rf_api_Dset_2 (con := con)).down))))))))))))))))))))
def vS5 {con : FuncId → Option Con} := PLift.up (And.intro ((rF_api_Dset_3 (con := con)).down) (And.intro ((rf_api_Dset_3 (con := con)).down) (And.intro ((rF_api_Dset_4 (con := con)).down) (And.intro ((rf_api_Dset_4 (con := con)).down) (And.intro ((rl_Ppalimpmade_Picks (con := con)).down) (And.intro ((rA_Ppalimpmade_Picks (con := con)).down) (And.intro ((rS_Ppalimpmade_Picks (con := con)).down) (And.intro ((rR_Ppalimpmade_Picks (con := con)).down) (And.intro ((rl_Lstring (con := con)).down) (And.intro ((rA_Lstring (con := con)).down) (And.intro ((rS_Lstring (con := con)).down) (And.intro ((rR_Lstring (con := con)).down) (And.intro ((rv_Lstring (con := con)).down) (And.intro ((ri_Lstring (con := con)).down) (And.intro ((rb_Lstring (con := con)).down) (And.intro ((rl_Lapi_Run (con := con)).down) (And.intro ((rA_Lapi_Run (con := con)).down) (And.intro ((rS_Lapi_Run (con := con)).down) (And.intro ((rR_Lapi_Run (con := con)).down) ((rv_Lapi_Run (con := con)).down))))))))))))))))))))
def vS6 {con : FuncId → Option Con} := PLift.up (And.intro ((ri_Lapi_Run (con := con)).down) (And.intro ((rb_Lapi_Run (con := con)).down) (And.intro ((rl_api_Space (con := con)).down) (And.intro ((rA_api_Space (con := con)).down) (And.intro ((rS_api_Space (con := con)).down) (And.intro ((rR_api_Space (con := con)).down) (And.intro ((rB_api_Space (con := con)).down) (And.intro ((rF_api_Space_0 (con := con)).down) (And.intro ((rf_api_Space_0 (con := con)).down) (And.intro ((rF_api_Space_1 (con := con)).down) (And.intro ((rf_api_Space_1 (con := con)).down) (And.intro ((rF_api_Space_2 (con := con)).down) (And.intro ((rf_api_Space_2 (con := con)).down) (And.intro ((rF_api_Space_3 (con := con)).down) (And.intro ((rf_api_Space_3 (con := con)).down) (And.intro ((rl_Lapi_Space (con := con)).down) (And.intro ((rA_Lapi_Space (con := con)).down) (And.intro ((rS_Lapi_Space (con := con)).down) (And.intro ((rR_Lapi_Space (con := con)).down) ((rv_Lapi_Space (con := con)).down))))))))))))))))))))
def vS7 {con : FuncId → Option Con} := PLift.up (And.intro ((ri_Lapi_Space (con := con)).down) (And.intro ((rb_Lapi_Space (con := con)).down) (And.intro ((rl_Lint (con := con)).down) (And.intro ((rA_Lint (con := con)).down) (And.intro ((rS_Lint (con := con)).down) (And.intro ((rR_Lint (con := con)).down) (And.intro ((rv_Lint (con := con)).down) (And.intro ((ri_Lint (con := con)).down) (And.intro ((rb_Lint (con := con)).down) (And.intro ((rl_Lapi_Root (con := con)).down) (And.intro ((rA_Lapi_Root (con := con)).down) (And.intro ((rS_Lapi_Root (con := con)).down) (And.intro ((rR_Lapi_Root (con := con)).down) (And.intro ((rv_Lapi_Root (con := con)).down) (And.intro ((ri_Lapi_Root (con := con)).down) (And.intro ((rb_Lapi_Root (con := con)).down) (And.intro ((rl_A24uint8 (con := con)).down) (And.intro ((rA_A24uint8 (con := con)).down) (And.intro ((rS_A24uint8 (con := con)).down) ((rR_A24uint8 (con := con)).down))))))))))))))))))))
def vS8 {con : FuncId → Option Con} := PLift.up (And.intro ((re_A24uint8 (con := con)).down) (And.intro ((ra_A24uint8 (con := con)).down) (And.intro ((rB_A24uint8 (con := con)).down) (And.intro ((rl_api_Run (con := con)).down) (And.intro ((rA_api_Run (con := con)).down) (And.intro ((rS_api_Run (con := con)).down) (And.intro ((rR_api_Run (con := con)).down) (And.intro ((re_api_Run (con := con)).down) (And.intro ((rB_api_Run (con := con)).down) (And.intro ((rF_api_Run_0 (con := con)).down) (And.intro ((rf_api_Run_0 (con := con)).down) (And.intro ((rF_api_Run_1 (con := con)).down) (And.intro ((rf_api_Run_1 (con := con)).down) (And.intro ((rl_api_Block (con := con)).down) (And.intro ((rA_api_Block (con := con)).down) (And.intro ((rS_api_Block (con := con)).down) (And.intro ((rR_api_Block (con := con)).down) (And.intro ((re_api_Block (con := con)).down) (And.intro ((rB_api_Block (con := con)).down) ((rF_api_Block_0 (con := con)).down))))))))))))))))))))
def vS9 {con : FuncId → Option Con} := PLift.up (And.intro ((rf_api_Block_0 (con := con)).down) (And.intro ((rF_api_Block_1 (con := con)).down) (And.intro ((rf_api_Block_1 (con := con)).down) (And.intro ((rF_api_Block_2 (con := con)).down) (And.intro ((rf_api_Block_2 (con := con)).down) (And.intro ((rl_palimpmade_Picks (con := con)).down) (And.intro ((rA_palimpmade_Picks (con := con)).down) (And.intro ((rS_palimpmade_Picks (con := con)).down) (And.intro ((rR_palimpmade_Picks (con := con)).down) (And.intro ((rB_palimpmade_Picks (con := con)).down) (And.intro ((rF_palimpmade_Picks_0 (con := con)).down) (And.intro ((rf_palimpmade_Picks_0 (con := con)).down) (And.intro ((rF_palimpmade_Picks_1 (con := con)).down) (And.intro ((rf_palimpmade_Picks_1 (con := con)).down) (And.intro ((rl_table_row (con := con)).down) (And.intro ((rA_table_row (con := con)).down) (And.intro ((rS_table_row (con := con)).down) (And.intro ((rR_table_row (con := con)).down) (And.intro ((rB_table_row (con := con)).down) ((rF_table_row_0 (con := con)).down))))))))))))))))))))
def vS10 {con : FuncId → Option Con} := PLift.up (And.intro ((rf_table_row_0 (con := con)).down) (And.intro ((rF_table_row_1 (con := con)).down) (And.intro ((rf_table_row_1 (con := con)).down) (And.intro ((rl_A4Lapi_Run (con := con)).down) (And.intro ((rA_A4Lapi_Run (con := con)).down) (And.intro ((rS_A4Lapi_Run (con := con)).down) (And.intro ((rR_A4Lapi_Run (con := con)).down) (And.intro ((ra_A4Lapi_Run (con := con)).down) (And.intro ((rB_A4Lapi_Run (con := con)).down) (And.intro ((rl_uint (con := con)).down) (And.intro ((rA_uint (con := con)).down) (And.intro ((rS_uint (con := con)).down) (And.intro ((rR_uint (con := con)).down) (And.intro ((rl_ptr_pointer (con := con)).down) (And.intro ((rA_ptr_pointer (con := con)).down) (And.intro ((rS_ptr_pointer (con := con)).down) (And.intro ((rR_ptr_pointer (con := con)).down) (And.intro ((re_ptr_pointer (con := con)).down) (And.intro ((rB_ptr_pointer (con := con)).down) ((rF_ptr_pointer_0 (con := con)).down))))))))))))))))))))
def vS11 {con : FuncId → Option Con} := PLift.up (And.intro ((rf_ptr_pointer_0 (con := con)).down) (And.intro ((rl_space_taken (con := con)).down) (And.intro ((rA_space_taken (con := con)).down) (And.intro ((rS_space_taken (con := con)).down) (And.intro ((rR_space_taken (con := con)).down) (And.intro ((rB_space_taken (con := con)).down) (And.intro ((rF_space_taken_0 (con := con)).down) (And.intro ((rf_space_taken_0 (con := con)).down) (And.intro ((rl_space_pool (con := con)).down) (And.intro ((rA_space_pool (con := con)).down) (And.intro ((rS_space_pool (con := con)).down) (And.intro ((rR_space_pool (con := con)).down) (And.intro ((rB_space_pool (con := con)).down) (And.intro ((rF_space_pool_0 (con := con)).down) (And.intro ((rf_space_pool_0 (con := con)).down) (And.intro ((rF_space_pool_1 (con := con)).down) (And.intro ((rf_space_pool_1 (con := con)).down) (And.intro ((rl_api_Node (con := con)).down) (And.intro ((rA_api_Node (con := con)).down) ((rS_api_Node (con := con)).down))))))))))))))))))))
def vS12 {con : FuncId → Option Con} := PLift.up (And.intro ((rR_api_Node (con := con)).down) (And.intro ((re_api_Node (con := con)).down) (And.intro ((rB_api_Node (con := con)).down) (And.intro ((rF_api_Node_0 (con := con)).down) (And.intro ((rf_api_Node_0 (con := con)).down) (And.intro ((rF_api_Node_1 (con := con)).down) (And.intro ((rf_api_Node_1 (con := con)).down) (And.intro ((rF_api_Node_2 (con := con)).down) (And.intro ((rf_api_Node_2 (con := con)).down) (And.intro ((rF_api_Node_3 (con := con)).down) (And.intro ((rf_api_Node_3 (con := con)).down) (And.intro ((rF_api_Node_4 (con := con)).down) (And.intro ((rf_api_Node_4 (con := con)).down) (And.intro ((rl_span_rows (con := con)).down) (And.intro ((rA_span_rows (con := con)).down) (And.intro ((rS_span_rows (con := con)).down) (And.intro ((rR_span_rows (con := con)).down) (And.intro ((rB_span_rows (con := con)).down) (And.intro ((rF_span_rows_0 (con := con)).down) ((rf_span_rows_0 (con := con)).down))))))))))))))))))))
def vS13 {con : FuncId → Option Con} := PLift.up (And.intro ((rF_span_rows_1 (con := con)).down) (And.intro ((rf_span_rows_1 (con := con)).down) (And.intro ((rl_func_bool__bool__bool (con := con)).down) (And.intro ((rA_func_bool__bool__bool (con := con)).down) (And.intro ((rS_func_bool__bool__bool (con := con)).down) (And.intro ((rR_func_bool__bool__bool (con := con)).down) (And.intro ((rl_span_run (con := con)).down) (And.intro ((rA_span_run (con := con)).down) (And.intro ((rS_span_run (con := con)).down) (And.intro ((rR_span_run (con := con)).down) (And.intro ((re_span_run (con := con)).down) (And.intro ((rB_span_run (con := con)).down) (And.intro ((rF_span_run_0 (con := con)).down) (And.intro ((rf_span_run_0 (con := con)).down) (And.intro ((rl_func_api_Run__bool (con := con)).down) (And.intro ((rA_func_api_Run__bool (con := con)).down) (And.intro ((rS_func_api_Run__bool (con := con)).down) (And.intro ((rR_func_api_Run__bool (con := con)).down) (And.intro ((rl_slices_sortedHint (con := con)).down) ((rA_slices_sortedHint (con := con)).down))))))))))))))))))))
def vS14 {con : FuncId → Option Con} := PLift.up (And.intro ((rS_slices_sortedHint (con := con)).down) (And.intro ((rR_slices_sortedHint (con := con)).down) (And.intro ((rl_uint64 (con := con)).down) (And.intro ((rA_uint64 (con := con)).down) (And.intro ((rS_uint64 (con := con)).down) (And.intro ((rR_uint64 (con := con)).down) (And.intro ((rl_LLapi_Run (con := con)).down) (And.intro ((rA_LLapi_Run (con := con)).down) (And.intro ((rS_LLapi_Run (con := con)).down) (And.intro ((rR_LLapi_Run (con := con)).down) (And.intro ((rv_LLapi_Run (con := con)).down) (And.intro ((ri_LLapi_Run (con := con)).down) (And.intro ((rb_LLapi_Run (con := con)).down) (And.intro ((rl_slices_xorshift (con := con)).down) (And.intro ((rA_slices_xorshift (con := con)).down) (And.intro ((rS_slices_xorshift (con := con)).down) (And.intro ((rR_slices_xorshift (con := con)).down) (And.intro ((rl_Pint (con := con)).down) (And.intro ((rA_Pint (con := con)).down) ((rS_Pint (con := con)).down))))))))))))))))))))
def vS15 {con : FuncId → Option Con} := PLift.up (And.intro ((rR_Pint (con := con)).down) (And.intro ((rl_Pslices_xorshift (con := con)).down) (And.intro ((rA_Pslices_xorshift (con := con)).down) (And.intro ((rS_Pslices_xorshift (con := con)).down) (And.intro ((rR_Pslices_xorshift (con := con)).down) (And.intro ((rc_int_uint8 (con := con)).down) (And.intro ((rc_int_uint32 (con := con)).down) (And.intro ((rc_int_uint (con := con)).down) (And.intro ((rc_int_slices_xorshift (con := con)).down) (And.intro ((rc_uint8_int (con := con)).down) (And.intro ((rc_string_Luint8 (con := con)).down) (And.intro ((rc_Luint8_string (con := con)).down) (And.intro ((rc_uint32_int (con := con)).down) (And.intro ((rc_uint32_uint8 (con := con)).down) (And.intro ((rc_uint_int (con := con)).down) (And.intro ((rc_uint_uint32 (con := con)).down) ((rc_uint64_uint8 (con := con)).down)))))))))))))))))
def vS {con : FuncId → Option Con} := PLift.up (And.intro ((vS0 (con := con)).down) (And.intro ((vS1 (con := con)).down) (And.intro ((vS2 (con := con)).down) (And.intro ((vS3 (con := con)).down) (And.intro ((vS4 (con := con)).down) (And.intro ((vS5 (con := con)).down) (And.intro ((vS6 (con := con)).down) (And.intro ((vS7 (con := con)).down) (And.intro ((vS8 (con := con)).down) (And.intro ((vS9 (con := con)).down) (And.intro ((vS10 (con := con)).down) (And.intro ((vS11 (con := con)).down) (And.intro ((vS12 (con := con)).down) (And.intro ((vS13 (con := con)).down) (And.intro ((vS14 (con := con)).down) ((vS15 (con := con)).down))))))))))))))))
def vE := PLift.up (And.intro (@enc_TNode) (And.intro (@enc_TDset) (And.intro (@enc_TPtr) (And.intro (@enc_TRoot) (And.intro (@enc_TRun) (And.intro (@enc_TSpace) (And.intro (@enc_TBlock) (And.intro (@enc_TPicks) (And.intro (@enc_Trow) (And.intro (@enc_Tpointer) (And.intro (@enc_Ttaken) (And.intro (@enc_Tpool) (And.intro (@enc_Trows) (And.intro (@enc_Trun) (And.intro (@w_TNode) (And.intro (@w_TDset) (And.intro (@w_TPtr) (And.intro (@w_TRoot) (And.intro (@w_TRun) (And.intro (@w_TSpace) (And.intro (@w_TBlock) (And.intro (@w_TPicks) (And.intro (@w_Trow) (And.intro (@w_Tpointer) (And.intro (@w_Ttaken) (And.intro (@w_Tpool) (And.intro (@w_Trows) (And.intro (@w_Trun) (And.intro (@dc_TNode) (And.intro (@dc_TDset) (And.intro (@dc_TPtr) (And.intro (@dc_TRoot) (And.intro (@dc_TRun) (And.intro (@dc_TSpace) (And.intro (@dc_TBlock) (And.intro (@dc_TPicks) (And.intro (@dc_Trow) (And.intro (@dc_Tpointer) (And.intro (@dc_Ttaken) (And.intro (@dc_Tpool) (And.intro (@dc_Trows) (And.intro (@dc_Trun) (And.intro (@eta_TNode) (And.intro (@eta_TDset) (And.intro (@eta_TPtr) (And.intro (@eta_TRoot) (And.intro (@eta_TRun) (And.intro (@eta_TSpace) (And.intro (@eta_TBlock) (And.intro (@eta_TPicks) (And.intro (@eta_Trow) (And.intro (@eta_Tpointer) (And.intro (@eta_Ttaken) (And.intro (@eta_Tpool) (And.intro (@eta_Trows) (And.intro (@eta_Trun) (@w_int)))))))))))))))))))))))))))))))))))))))))))))))))))))))))
theorem mixed : Try.prog.follows .mixedOrders = true := by kernel_rfl
theorem own : ownKnob Try.prog.godebug = none := by kernel_rfl
theorem laid : laidOutB Try.prog = true := by kernel_rfl
end Go.Proofs.Ytofcmdkmhbbbjaa
