/-
  The seat's types.
-/
import Derived.Test.YtenckbcdfdmckaaGreatDoorEngC
import Derived.Test.YtenckbcdfdmckaaGreatDoorProg
set_option linter.unusedSimpArgs false
set_option linter.unusedVariables false
namespace Go.Proofs.YtenckbcdfdmckaaGreatDoor
open Go Go.Eng
set_option maxRecDepth 100000

noncomputable def tyF : TypeId → Option TyD := tyOf Tryz.prog
noncomputable def eqF : TypeId → Option (List Nat) := eqOf Tryz.prog
noncomputable def ctx (con : FuncId → Option Con) : Ctx := ⟨tyF, eqF, con⟩
theorem tyf_int : tyF 3 = some ⟨.int .i64, 1, 8, [.int .i64 0]⟩ := by kernel_rfl
theorem ty_int {con : FuncId → Option Con} : (ctx con).ty 3 = some ⟨.int .i64, 1, 8, [.int .i64 0]⟩ := tyf_int
theorem tyf_bool : tyF 4 = some ⟨.bool, 1, 1, [.bool false]⟩ := by kernel_rfl
theorem ty_bool {con : FuncId → Option Con} : (ctx con).ty 4 = some ⟨.bool, 1, 1, [.bool false]⟩ := tyf_bool
theorem tyf_uint8 : tyF 5 = some ⟨.int .u8, 1, 1, [.int .u8 0]⟩ := by kernel_rfl
theorem ty_uint8 {con : FuncId → Option Con} : (ctx con).ty 5 = some ⟨.int .u8, 1, 1, [.int .u8 0]⟩ := tyf_uint8
theorem tyf_string : tyF 9 = some ⟨.str, 1, 16, [.str []]⟩ := by kernel_rfl
theorem ty_string {con : FuncId → Option Con} : (ctx con).ty 9 = some ⟨.str, 1, 16, [.str []]⟩ := tyf_string
theorem tyf_Lstring : tyF 23 = some ⟨.slice 9, 1, 24, [.nilS]⟩ := by kernel_rfl
theorem ty_Lstring {con : FuncId → Option Con} : (ctx con).ty 23 = some ⟨.slice 9, 1, 24, [.nilS]⟩ := tyf_Lstring
theorem tyf_Lapi_Put : tyF 24 = some ⟨.slice 82, 1, 24, [.nilS]⟩ := by kernel_rfl
theorem ty_Lapi_Put {con : FuncId → Option Con} : (ctx con).ty 24 = some ⟨.slice 82, 1, 24, [.nilS]⟩ := tyf_Lapi_Put
theorem tyf_api_Dev : tyF 26 = some ⟨.struct [(23, 0), (24, 1), (3, 2), (3, 3), (4, 4)], 5, 72, [.nilS, .nilS, .int .i64 0, .int .i64 0, .bool false]⟩ := by kernel_rfl
theorem ty_api_Dev {con : FuncId → Option Con} : (ctx con).ty 26 = some ⟨.struct [(23, 0), (24, 1), (3, 2), (3, 3), (4, 4)], 5, 72, [.nilS, .nilS, .int .i64 0, .int .i64 0, .bool false]⟩ := tyf_api_Dev
theorem tyf_uint32 : tyF 27 = some ⟨.int .u32, 1, 4, [.int .u32 0]⟩ := by kernel_rfl
theorem ty_uint32 {con : FuncId → Option Con} : (ctx con).ty 27 = some ⟨.int .u32, 1, 4, [.int .u32 0]⟩ := tyf_uint32
theorem tyf_api_Sum : tyF 29 = some ⟨.arr 4 27, 4, 16, [.int .u32 0, .int .u32 0, .int .u32 0, .int .u32 0]⟩ := by kernel_rfl
theorem ty_api_Sum {con : FuncId → Option Con} : (ctx con).ty 29 = some ⟨.arr 4 27, 4, 16, [.int .u32 0, .int .u32 0, .int .u32 0, .int .u32 0]⟩ := tyf_api_Sum
theorem tyf_api_Ptr : tyF 31 = some ⟨.struct [(3, 0), (3, 1), (29, 2)], 6, 32, [.int .i64 0, .int .i64 0, .int .u32 0, .int .u32 0, .int .u32 0, .int .u32 0]⟩ := by kernel_rfl
theorem ty_api_Ptr {con : FuncId → Option Con} : (ctx con).ty 31 = some ⟨.struct [(3, 0), (3, 1), (29, 2)], 6, 32, [.int .i64 0, .int .i64 0, .int .u32 0, .int .u32 0, .int .u32 0, .int .u32 0]⟩ := tyf_api_Ptr
theorem tyf_Lapi_Run : tyF 34 = some ⟨.slice 120, 1, 24, [.nilS]⟩ := by kernel_rfl
theorem ty_Lapi_Run {con : FuncId → Option Con} : (ctx con).ty 34 = some ⟨.slice 120, 1, 24, [.nilS]⟩ := tyf_Lapi_Run
theorem tyf_Lapi_Dset : tyF 37 = some ⟨.slice 78, 1, 24, [.nilS]⟩ := by kernel_rfl
theorem ty_Lapi_Dset {con : FuncId → Option Con} : (ctx con).ty 37 = some ⟨.slice 78, 1, 24, [.nilS]⟩ := tyf_Lapi_Dset
theorem tyf_Lint : tyF 43 = some ⟨.slice 3, 1, 24, [.nilS]⟩ := by kernel_rfl
theorem ty_Lint {con : FuncId → Option Con} : (ctx con).ty 43 = some ⟨.slice 3, 1, 24, [.nilS]⟩ := tyf_Lint
theorem tyf_api_Set : tyF 75 = some ⟨.slice 103, 1, 24, [.nilS]⟩ := by kernel_rfl
theorem ty_api_Set {con : FuncId → Option Con} : (ctx con).ty 75 = some ⟨.slice 103, 1, 24, [.nilS]⟩ := tyf_api_Set
theorem tyf_api_Dset : tyF 78 = some ⟨.struct [(3, 0), (3, 1), (3, 2), (3, 3), (75, 4)], 5, 56, [.int .i64 0, .int .i64 0, .int .i64 0, .int .i64 0, .nilS]⟩ := by kernel_rfl
theorem ty_api_Dset {con : FuncId → Option Con} : (ctx con).ty 78 = some ⟨.struct [(3, 0), (3, 1), (3, 2), (3, 3), (75, 4)], 5, 56, [.int .i64 0, .int .i64 0, .int .i64 0, .int .i64 0, .nilS]⟩ := tyf_api_Dset
theorem tyf_api_Put : tyF 82 = some ⟨.struct [(3, 0), (9, 1)], 2, 24, [.int .i64 0, .str []]⟩ := by kernel_rfl
theorem ty_api_Put {con : FuncId → Option Con} : (ctx con).ty 82 = some ⟨.struct [(3, 0), (9, 1)], 2, 24, [.int .i64 0, .str []]⟩ := tyf_api_Put
theorem tyf_Lapi_Ptr : tyF 95 = some ⟨.slice 31, 1, 24, [.nilS]⟩ := by kernel_rfl
theorem ty_Lapi_Ptr {con : FuncId → Option Con} : (ctx con).ty 95 = some ⟨.slice 31, 1, 24, [.nilS]⟩ := tyf_Lapi_Ptr
theorem tyf_Luint8 : tyF 101 = some ⟨.slice 5, 1, 24, [.nilS]⟩ := by kernel_rfl
theorem ty_Luint8 {con : FuncId → Option Con} : (ctx con).ty 101 = some ⟨.slice 5, 1, 24, [.nilS]⟩ := tyf_Luint8
theorem tyf_api_Node : tyF 103 = some ⟨.struct [(3, 0), (3, 1), (9, 2), (9, 3), (3, 4)], 5, 56, [.int .i64 0, .int .i64 0, .str [], .str [], .int .i64 0]⟩ := by kernel_rfl
theorem ty_api_Node {con : FuncId → Option Con} : (ctx con).ty 103 = some ⟨.struct [(3, 0), (3, 1), (9, 2), (9, 3), (3, 4)], 5, 56, [.int .i64 0, .int .i64 0, .str [], .str [], .int .i64 0]⟩ := tyf_api_Node
theorem tyf_api_Run : tyF 120 = some ⟨.struct [(3, 0), (3, 1)], 2, 16, [.int .i64 0, .int .i64 0]⟩ := by kernel_rfl
theorem ty_api_Run {con : FuncId → Option Con} : (ctx con).ty 120 = some ⟨.struct [(3, 0), (3, 1)], 2, 16, [.int .i64 0, .int .i64 0]⟩ := tyf_api_Run
theorem tyf_Pstrings_Builder : tyF 174 = some ⟨.ptr 176, 1, 8, [.nilP]⟩ := by kernel_rfl
theorem ty_Pstrings_Builder {con : FuncId → Option Con} : (ctx con).ty 174 = some ⟨.ptr 176, 1, 8, [.nilP]⟩ := tyf_Pstrings_Builder
theorem tyf_strings_Builder : tyF 176 = some ⟨.struct [(174, 0), (101, 1)], 2, 32, [.nilP, .nilS]⟩ := by kernel_rfl
theorem ty_strings_Builder {con : FuncId → Option Con} : (ctx con).ty 176 = some ⟨.struct [(174, 0), (101, 1)], 2, 32, [.nilP, .nilS]⟩ := tyf_strings_Builder
theorem tyf_iter_Seq2_int_api_Put_ : tyF 337 = some ⟨.fn, 1, 8, [.nilF]⟩ := by kernel_rfl
theorem ty_iter_Seq2_int_api_Put_ {con : FuncId → Option Con} : (ctx con).ty 337 = some ⟨.fn, 1, 8, [.nilF]⟩ := tyf_iter_Seq2_int_api_Put_
theorem tyf_func_int__api_Put__bool : tyF 372 = some ⟨.fn, 1, 8, [.nilF]⟩ := by kernel_rfl
theorem ty_func_int__api_Put__bool {con : FuncId → Option Con} : (ctx con).ty 372 = some ⟨.fn, 1, 8, [.nilF]⟩ := tyf_func_int__api_Put__bool
structure TPut where
  At : Int
  B : (List UInt8)
  deriving DecidableEq
instance cTPut : Cell TPut := Cell.iso (α := Int × (List UInt8)) (fun x => (x.At, x.B)) (fun y => ⟨y.1, y.2⟩) (fun _ => rfl) (fun _ => rfl)
instance iTPut : Inhabited TPut := ⟨⟨0, []⟩⟩
theorem enc_TPut {x : TPut} : Cell.enc x = [.int .i64 x.At, .str x.B] := rfl
theorem dec_TPut {x y : TPut} : (decide (x.At = y.At) && (decide (x.B = y.B))) = decide (x = y) := by
  first | (cases x; cases y; simp [← UInt32.toNat_inj, Int.ofNat_inj, Prod.ext_iff, and_assoc]; done) | (cases x; cases y; simp only [true_and]; simp; done) | (rcases x with ⟨_, _⟩; rcases y with ⟨_, _⟩; simp [← UInt32.toNat_inj, Int.ofNat_inj, Prod.ext_iff, and_assoc])
theorem dc_TPut {cs : List TV} : (Cell.dec cs : Option TPut) = (Cell.dec (α := Int × (List UInt8)) cs).map fun y => ⟨y.1, y.2⟩ := rfl
theorem eta_TPut {x : TPut} : (⟨x.At, x.B⟩ : TPut) = x := rfl
theorem w_TPut : Cell.width TPut = 2 := rfl
structure TDev where
  Last : (List (List UInt8))
  Wait : (List TPut)
  Lies : Int
  Arm : Int
  Down : Bool
  deriving DecidableEq
instance cTDev : Cell TDev := Cell.iso (α := (List (List UInt8)) × (List TPut) × Int × Int × Bool) (fun x => (x.Last, x.Wait, x.Lies, x.Arm, x.Down)) (fun y => ⟨y.1, y.2.1, y.2.2.1, y.2.2.2.1, y.2.2.2.2⟩) (fun _ => rfl) (fun _ => rfl)
instance iTDev : Inhabited TDev := ⟨⟨[], [], 0, 0, false⟩⟩
theorem enc_TDev {x : TDev} : Cell.enc x = [sl x.Last, sl x.Wait, .int .i64 x.Lies, .int .i64 x.Arm, .bool x.Down] := rfl
theorem dc_TDev {cs : List TV} : (Cell.dec cs : Option TDev) = (Cell.dec (α := (List (List UInt8)) × (List TPut) × Int × Int × Bool) cs).map fun y => ⟨y.1, y.2.1, y.2.2.1, y.2.2.2.1, y.2.2.2.2⟩ := rfl
theorem eta_TDev {x : TDev} : (⟨x.Last, x.Wait, x.Lies, x.Arm, x.Down⟩ : TDev) = x := rfl
theorem w_TDev : Cell.width TDev = 5 := rfl
structure TPtr where
  Addr : Int
  Birth : Int
  Sum : (UInt32 × UInt32 × UInt32 × UInt32)
  deriving DecidableEq
instance cTPtr : Cell TPtr := Cell.iso (α := Int × Int × (UInt32 × UInt32 × UInt32 × UInt32)) (fun x => (x.Addr, x.Birth, x.Sum)) (fun y => ⟨y.1, y.2.1, y.2.2⟩) (fun _ => rfl) (fun _ => rfl)
instance iTPtr : Inhabited TPtr := ⟨⟨0, 0, (0, 0, 0, 0)⟩⟩
theorem enc_TPtr {x : TPtr} : Cell.enc x = [.int .i64 x.Addr, .int .i64 x.Birth, .int .u32 (x.Sum.1.toNat : Int), .int .u32 (x.Sum.2.1.toNat : Int), .int .u32 (x.Sum.2.2.1.toNat : Int), .int .u32 (x.Sum.2.2.2.toNat : Int)] := rfl
theorem dec_TPtr {x y : TPtr} : (decide (x.Addr = y.Addr) && (decide (x.Birth = y.Birth) && (decide ((x.Sum.1.toNat : Int) = (y.Sum.1.toNat : Int)) && (decide ((x.Sum.2.1.toNat : Int) = (y.Sum.2.1.toNat : Int)) && (decide ((x.Sum.2.2.1.toNat : Int) = (y.Sum.2.2.1.toNat : Int)) && (decide ((x.Sum.2.2.2.toNat : Int) = (y.Sum.2.2.2.toNat : Int)))))))) = decide (x = y) := by
  first | (cases x; cases y; simp [← UInt32.toNat_inj, Int.ofNat_inj, Prod.ext_iff, and_assoc]; done) | (cases x; cases y; simp only [dec_TPut]; simp; done) | (rcases x with ⟨_, _, _⟩; rcases y with ⟨_, _, _⟩; simp [← UInt32.toNat_inj, Int.ofNat_inj, Prod.ext_iff, and_assoc])
theorem dc_TPtr {cs : List TV} : (Cell.dec cs : Option TPtr) = (Cell.dec (α := Int × Int × (UInt32 × UInt32 × UInt32 × UInt32)) cs).map fun y => ⟨y.1, y.2.1, y.2.2⟩ := rfl
theorem eta_TPtr {x : TPtr} : (⟨x.Addr, x.Birth, (x.Sum.1, x.Sum.2.1, x.Sum.2.2.1, x.Sum.2.2.2)⟩ : TPtr) = x := rfl
theorem w_TPtr : Cell.width TPtr = 6 := rfl
structure TRun where
  From : Int
  To : Int
  deriving DecidableEq
instance cTRun : Cell TRun := Cell.iso (α := Int × Int) (fun x => (x.From, x.To)) (fun y => ⟨y.1, y.2⟩) (fun _ => rfl) (fun _ => rfl)
instance iTRun : Inhabited TRun := ⟨⟨0, 0⟩⟩
theorem enc_TRun {x : TRun} : Cell.enc x = [.int .i64 x.From, .int .i64 x.To] := rfl
theorem dec_TRun {x y : TRun} : (decide (x.From = y.From) && (decide (x.To = y.To))) = decide (x = y) := by
  first | (cases x; cases y; simp [← UInt32.toNat_inj, Int.ofNat_inj, Prod.ext_iff, and_assoc]; done) | (cases x; cases y; simp only [dec_TPut, dec_TPtr]; simp; done) | (rcases x with ⟨_, _⟩; rcases y with ⟨_, _⟩; simp [← UInt32.toNat_inj, Int.ofNat_inj, Prod.ext_iff, and_assoc])
theorem dc_TRun {cs : List TV} : (Cell.dec cs : Option TRun) = (Cell.dec (α := Int × Int) cs).map fun y => ⟨y.1, y.2⟩ := rfl
theorem eta_TRun {x : TRun} : (⟨x.From, x.To⟩ : TRun) = x := rfl
theorem w_TRun : Cell.width TRun = 2 := rfl
structure TNode where
  Kind : Int
  Up : Int
  Name : (List UInt8)
  Body : (List UInt8)
  Bad : Int
  deriving DecidableEq
instance cTNode : Cell TNode := Cell.iso (α := Int × Int × (List UInt8) × (List UInt8) × Int) (fun x => (x.Kind, x.Up, x.Name, x.Body, x.Bad)) (fun y => ⟨y.1, y.2.1, y.2.2.1, y.2.2.2.1, y.2.2.2.2⟩) (fun _ => rfl) (fun _ => rfl)
instance iTNode : Inhabited TNode := ⟨⟨0, 0, [], [], 0⟩⟩
theorem enc_TNode {x : TNode} : Cell.enc x = [.int .i64 x.Kind, .int .i64 x.Up, .str x.Name, .str x.Body, .int .i64 x.Bad] := rfl
theorem dec_TNode {x y : TNode} : (decide (x.Kind = y.Kind) && (decide (x.Up = y.Up) && (decide (x.Name = y.Name) && (decide (x.Body = y.Body) && (decide (x.Bad = y.Bad)))))) = decide (x = y) := by
  first | (cases x; cases y; simp [← UInt32.toNat_inj, Int.ofNat_inj, Prod.ext_iff, and_assoc]; done) | (cases x; cases y; simp only [dec_TPut, dec_TPtr, dec_TRun]; simp; done) | (rcases x with ⟨_, _, _, _, _⟩; rcases y with ⟨_, _, _, _, _⟩; simp [← UInt32.toNat_inj, Int.ofNat_inj, Prod.ext_iff, and_assoc])
theorem dc_TNode {cs : List TV} : (Cell.dec cs : Option TNode) = (Cell.dec (α := Int × Int × (List UInt8) × (List UInt8) × Int) cs).map fun y => ⟨y.1, y.2.1, y.2.2.1, y.2.2.2.1, y.2.2.2.2⟩ := rfl
theorem eta_TNode {x : TNode} : (⟨x.Kind, x.Up, x.Name, x.Body, x.Bad⟩ : TNode) = x := rfl
theorem w_TNode : Cell.width TNode = 5 := rfl
structure TDset where
  ID : Int
  Kind : Int
  Origin : Int
  Quota : Int
  Files : (List TNode)
  deriving DecidableEq
instance cTDset : Cell TDset := Cell.iso (α := Int × Int × Int × Int × (List TNode)) (fun x => (x.ID, x.Kind, x.Origin, x.Quota, x.Files)) (fun y => ⟨y.1, y.2.1, y.2.2.1, y.2.2.2.1, y.2.2.2.2⟩) (fun _ => rfl) (fun _ => rfl)
instance iTDset : Inhabited TDset := ⟨⟨0, 0, 0, 0, []⟩⟩
theorem enc_TDset {x : TDset} : Cell.enc x = [.int .i64 x.ID, .int .i64 x.Kind, .int .i64 x.Origin, .int .i64 x.Quota, sl x.Files] := rfl
theorem dc_TDset {cs : List TV} : (Cell.dec cs : Option TDset) = (Cell.dec (α := Int × Int × Int × Int × (List TNode)) cs).map fun y => ⟨y.1, y.2.1, y.2.2.1, y.2.2.2.1, y.2.2.2.2⟩ := rfl
theorem eta_TDset {x : TDset} : (⟨x.ID, x.Kind, x.Origin, x.Quota, x.Files⟩ : TDset) = x := rfl
theorem w_TDset : Cell.width TDset = 5 := rfl
def rl_int {con : FuncId → Option Con} := PLift.up (ld_rules (C := ctx con) ty_int)
def rA_int {con : FuncId → Option Con} := PLift.up (alloc_rules (C := ctx con) ty_int)
def rS_int {con : FuncId → Option Con} := PLift.up (store_rules (C := ctx con) ty_int)
def rR_int {con : FuncId → Option Con} := PLift.up (storeR_rules (C := ctx con) ty_int)
def rl_bool {con : FuncId → Option Con} := PLift.up (ld_rules (C := ctx con) ty_bool)
def rA_bool {con : FuncId → Option Con} := PLift.up (alloc_rules (C := ctx con) ty_bool)
def rS_bool {con : FuncId → Option Con} := PLift.up (store_rules (C := ctx con) ty_bool)
def rR_bool {con : FuncId → Option Con} := PLift.up (storeR_rules (C := ctx con) ty_bool)
def rq_bool {con : FuncId → Option Con} := PLift.up (bool_rules (C := ctx con) ty_bool)
def rl_uint8 {con : FuncId → Option Con} := PLift.up (ld_rules (C := ctx con) ty_uint8)
def rA_uint8 {con : FuncId → Option Con} := PLift.up (alloc_rules (C := ctx con) ty_uint8)
def rS_uint8 {con : FuncId → Option Con} := PLift.up (store_rules (C := ctx con) ty_uint8)
def rR_uint8 {con : FuncId → Option Con} := PLift.up (storeR_rules (C := ctx con) ty_uint8)
def rl_string {con : FuncId → Option Con} := PLift.up (ld_rules (C := ctx con) ty_string)
def rA_string {con : FuncId → Option Con} := PLift.up (alloc_rules (C := ctx con) ty_string)
def rS_string {con : FuncId → Option Con} := PLift.up (store_rules (C := ctx con) ty_string)
def rR_string {con : FuncId → Option Con} := PLift.up (storeR_rules (C := ctx con) ty_string)
def rs_string {con : FuncId → Option Con} := PLift.up (str_rules (C := ctx con) ty_string)
def rl_Lstring {con : FuncId → Option Con} := PLift.up (ld_rules (C := ctx con) ty_Lstring)
def rA_Lstring {con : FuncId → Option Con} := PLift.up (alloc_rules (C := ctx con) ty_Lstring)
def rS_Lstring {con : FuncId → Option Con} := PLift.up (store_rules (C := ctx con) ty_Lstring)
def rR_Lstring {con : FuncId → Option Con} := PLift.up (storeR_rules (C := ctx con) ty_Lstring)
def rv_Lstring {con : FuncId → Option Con} := PLift.up (sl_rules (C := ctx con) (List UInt8) ty_Lstring ty_string rfl)
def ri_Lstring {con : FuncId → Option Con} := PLift.up (idxt_rules (C := ctx con) (List UInt8) ty_Lstring ty_string rfl)
def rb_Lstring {con : FuncId → Option Con} := PLift.up (bs_rules (C := ctx con) ty_Lstring ty_string)
def rl_Lapi_Put {con : FuncId → Option Con} := PLift.up (ld_rules (C := ctx con) ty_Lapi_Put)
def rA_Lapi_Put {con : FuncId → Option Con} := PLift.up (alloc_rules (C := ctx con) ty_Lapi_Put)
def rS_Lapi_Put {con : FuncId → Option Con} := PLift.up (store_rules (C := ctx con) ty_Lapi_Put)
def rR_Lapi_Put {con : FuncId → Option Con} := PLift.up (storeR_rules (C := ctx con) ty_Lapi_Put)
def rv_Lapi_Put {con : FuncId → Option Con} := PLift.up (sl_rules (C := ctx con) TPut ty_Lapi_Put ty_api_Put rfl)
def ri_Lapi_Put {con : FuncId → Option Con} := PLift.up (idxt_rules (C := ctx con) TPut ty_Lapi_Put ty_api_Put rfl)
def rb_Lapi_Put {con : FuncId → Option Con} := PLift.up (bs_rules (C := ctx con) ty_Lapi_Put ty_api_Put)
def rl_api_Dev {con : FuncId → Option Con} := PLift.up (ld_rules (C := ctx con) ty_api_Dev)
def rA_api_Dev {con : FuncId → Option Con} := PLift.up (alloc_rules (C := ctx con) ty_api_Dev)
def rS_api_Dev {con : FuncId → Option Con} := PLift.up (store_rules (C := ctx con) ty_api_Dev)
def rR_api_Dev {con : FuncId → Option Con} := PLift.up (storeR_rules (C := ctx con) ty_api_Dev)
def rB_api_Dev {con : FuncId → Option Con} := PLift.up (build_rules (C := ctx con) ty_api_Dev rfl)
def rF_api_Dev_0 {con : FuncId → Option Con} := PLift.up (fillS_rule (C := ctx con) (fs := [(23, 0), (24, 1), (3, 2), (3, 3), (4, 4)]) 0 rfl ty_Lstring)
def rf_api_Dev_0 {con : FuncId → Option Con} := PLift.up (fld_rules (C := ctx con) 0 ty_api_Dev rfl ty_Lstring)
def rF_api_Dev_1 {con : FuncId → Option Con} := PLift.up (fillS_rule (C := ctx con) (fs := [(23, 0), (24, 1), (3, 2), (3, 3), (4, 4)]) 1 rfl ty_Lapi_Put)
def rf_api_Dev_1 {con : FuncId → Option Con} := PLift.up (fld_rules (C := ctx con) 1 ty_api_Dev rfl ty_Lapi_Put)
def rF_api_Dev_2 {con : FuncId → Option Con} := PLift.up (fillS_rule (C := ctx con) (fs := [(23, 0), (24, 1), (3, 2), (3, 3), (4, 4)]) 2 rfl ty_int)
def rf_api_Dev_2 {con : FuncId → Option Con} := PLift.up (fld_rules (C := ctx con) 2 ty_api_Dev rfl ty_int)
def rF_api_Dev_3 {con : FuncId → Option Con} := PLift.up (fillS_rule (C := ctx con) (fs := [(23, 0), (24, 1), (3, 2), (3, 3), (4, 4)]) 3 rfl ty_int)
def rf_api_Dev_3 {con : FuncId → Option Con} := PLift.up (fld_rules (C := ctx con) 3 ty_api_Dev rfl ty_int)
def rF_api_Dev_4 {con : FuncId → Option Con} := PLift.up (fillS_rule (C := ctx con) (fs := [(23, 0), (24, 1), (3, 2), (3, 3), (4, 4)]) 4 rfl ty_bool)
def rf_api_Dev_4 {con : FuncId → Option Con} := PLift.up (fld_rules (C := ctx con) 4 ty_api_Dev rfl ty_bool)
def rl_uint32 {con : FuncId → Option Con} := PLift.up (ld_rules (C := ctx con) ty_uint32)
def rA_uint32 {con : FuncId → Option Con} := PLift.up (alloc_rules (C := ctx con) ty_uint32)
def rS_uint32 {con : FuncId → Option Con} := PLift.up (store_rules (C := ctx con) ty_uint32)
def rR_uint32 {con : FuncId → Option Con} := PLift.up (storeR_rules (C := ctx con) ty_uint32)
def rl_api_Sum {con : FuncId → Option Con} := PLift.up (ld_rules (C := ctx con) ty_api_Sum)
def rA_api_Sum {con : FuncId → Option Con} := PLift.up (alloc_rules (C := ctx con) ty_api_Sum)
def rS_api_Sum {con : FuncId → Option Con} := PLift.up (store_rules (C := ctx con) ty_api_Sum)
def rR_api_Sum {con : FuncId → Option Con} := PLift.up (storeR_rules (C := ctx con) ty_api_Sum)
theorem eqf_api_Sum : eqF 29 = some [16, 16, 16, 16] := by kernel_rfl
theorem eq_api_Sum {con : FuncId → Option Con} : (ctx con).eqk 29 = some [16, 16, 16, 16] := eqf_api_Sum
def re_api_Sum {con : FuncId → Option Con} := PLift.up (eq_rules (C := ctx con) eq_api_Sum)
def ra_api_Sum {con : FuncId → Option Con} := PLift.up (arr_rules (C := ctx con) ty_api_Sum ty_uint32)
def rB_api_Sum {con : FuncId → Option Con} := PLift.up (buildA_rules (C := ctx con) ty_api_Sum ty_uint32)
def rl_api_Ptr {con : FuncId → Option Con} := PLift.up (ld_rules (C := ctx con) ty_api_Ptr)
def rA_api_Ptr {con : FuncId → Option Con} := PLift.up (alloc_rules (C := ctx con) ty_api_Ptr)
def rS_api_Ptr {con : FuncId → Option Con} := PLift.up (store_rules (C := ctx con) ty_api_Ptr)
def rR_api_Ptr {con : FuncId → Option Con} := PLift.up (storeR_rules (C := ctx con) ty_api_Ptr)
theorem eqf_api_Ptr : eqF 31 = some [13, 13, 16, 16, 16, 16] := by kernel_rfl
theorem eq_api_Ptr {con : FuncId → Option Con} : (ctx con).eqk 31 = some [13, 13, 16, 16, 16, 16] := eqf_api_Ptr
def re_api_Ptr {con : FuncId → Option Con} := PLift.up (eq_rules (C := ctx con) eq_api_Ptr)
def rB_api_Ptr {con : FuncId → Option Con} := PLift.up (build_rules (C := ctx con) ty_api_Ptr rfl)
def rF_api_Ptr_0 {con : FuncId → Option Con} := PLift.up (fillS_rule (C := ctx con) (fs := [(3, 0), (3, 1), (29, 2)]) 0 rfl ty_int)
def rf_api_Ptr_0 {con : FuncId → Option Con} := PLift.up (fld_rules (C := ctx con) 0 ty_api_Ptr rfl ty_int)
def rF_api_Ptr_1 {con : FuncId → Option Con} := PLift.up (fillS_rule (C := ctx con) (fs := [(3, 0), (3, 1), (29, 2)]) 1 rfl ty_int)
def rf_api_Ptr_1 {con : FuncId → Option Con} := PLift.up (fld_rules (C := ctx con) 1 ty_api_Ptr rfl ty_int)
def rF_api_Ptr_2 {con : FuncId → Option Con} := PLift.up (fillS_rule (C := ctx con) (fs := [(3, 0), (3, 1), (29, 2)]) 2 rfl ty_api_Sum)
def rf_api_Ptr_2 {con : FuncId → Option Con} := PLift.up (fld_rules (C := ctx con) 2 ty_api_Ptr rfl ty_api_Sum)
def rl_Lapi_Run {con : FuncId → Option Con} := PLift.up (ld_rules (C := ctx con) ty_Lapi_Run)
def rA_Lapi_Run {con : FuncId → Option Con} := PLift.up (alloc_rules (C := ctx con) ty_Lapi_Run)
def rS_Lapi_Run {con : FuncId → Option Con} := PLift.up (store_rules (C := ctx con) ty_Lapi_Run)
def rR_Lapi_Run {con : FuncId → Option Con} := PLift.up (storeR_rules (C := ctx con) ty_Lapi_Run)
def rv_Lapi_Run {con : FuncId → Option Con} := PLift.up (sl_rules (C := ctx con) TRun ty_Lapi_Run ty_api_Run rfl)
def ri_Lapi_Run {con : FuncId → Option Con} := PLift.up (idxt_rules (C := ctx con) TRun ty_Lapi_Run ty_api_Run rfl)
def rb_Lapi_Run {con : FuncId → Option Con} := PLift.up (bs_rules (C := ctx con) ty_Lapi_Run ty_api_Run)
def rl_Lapi_Dset {con : FuncId → Option Con} := PLift.up (ld_rules (C := ctx con) ty_Lapi_Dset)
def rA_Lapi_Dset {con : FuncId → Option Con} := PLift.up (alloc_rules (C := ctx con) ty_Lapi_Dset)
def rS_Lapi_Dset {con : FuncId → Option Con} := PLift.up (store_rules (C := ctx con) ty_Lapi_Dset)
def rR_Lapi_Dset {con : FuncId → Option Con} := PLift.up (storeR_rules (C := ctx con) ty_Lapi_Dset)
def rv_Lapi_Dset {con : FuncId → Option Con} := PLift.up (sl_rules (C := ctx con) TDset ty_Lapi_Dset ty_api_Dset rfl)
def ri_Lapi_Dset {con : FuncId → Option Con} := PLift.up (idxt_rules (C := ctx con) TDset ty_Lapi_Dset ty_api_Dset rfl)
def rb_Lapi_Dset {con : FuncId → Option Con} := PLift.up (bs_rules (C := ctx con) ty_Lapi_Dset ty_api_Dset)
def rl_Lint {con : FuncId → Option Con} := PLift.up (ld_rules (C := ctx con) ty_Lint)
def rA_Lint {con : FuncId → Option Con} := PLift.up (alloc_rules (C := ctx con) ty_Lint)
def rS_Lint {con : FuncId → Option Con} := PLift.up (store_rules (C := ctx con) ty_Lint)
def rR_Lint {con : FuncId → Option Con} := PLift.up (storeR_rules (C := ctx con) ty_Lint)
def rv_Lint {con : FuncId → Option Con} := PLift.up (sl_rules (C := ctx con) Int ty_Lint ty_int rfl)
def ri_Lint {con : FuncId → Option Con} := PLift.up (idxt_rules (C := ctx con) Int ty_Lint ty_int rfl)
def rb_Lint {con : FuncId → Option Con} := PLift.up (bs_rules (C := ctx con) ty_Lint ty_int)
def rl_api_Set {con : FuncId → Option Con} := PLift.up (ld_rules (C := ctx con) ty_api_Set)
def rA_api_Set {con : FuncId → Option Con} := PLift.up (alloc_rules (C := ctx con) ty_api_Set)
def rS_api_Set {con : FuncId → Option Con} := PLift.up (store_rules (C := ctx con) ty_api_Set)
def rR_api_Set {con : FuncId → Option Con} := PLift.up (storeR_rules (C := ctx con) ty_api_Set)
def rv_api_Set {con : FuncId → Option Con} := PLift.up (sl_rules (C := ctx con) TNode ty_api_Set ty_api_Node rfl)
def ri_api_Set {con : FuncId → Option Con} := PLift.up (idxt_rules (C := ctx con) TNode ty_api_Set ty_api_Node rfl)
def rb_api_Set {con : FuncId → Option Con} := PLift.up (bs_rules (C := ctx con) ty_api_Set ty_api_Node)
def rl_api_Dset {con : FuncId → Option Con} := PLift.up (ld_rules (C := ctx con) ty_api_Dset)
def rA_api_Dset {con : FuncId → Option Con} := PLift.up (alloc_rules (C := ctx con) ty_api_Dset)
def rS_api_Dset {con : FuncId → Option Con} := PLift.up (store_rules (C := ctx con) ty_api_Dset)
def rR_api_Dset {con : FuncId → Option Con} := PLift.up (storeR_rules (C := ctx con) ty_api_Dset)
def rB_api_Dset {con : FuncId → Option Con} := PLift.up (build_rules (C := ctx con) ty_api_Dset rfl)
def rF_api_Dset_0 {con : FuncId → Option Con} := PLift.up (fillS_rule (C := ctx con) (fs := [(3, 0), (3, 1), (3, 2), (3, 3), (75, 4)]) 0 rfl ty_int)
def rf_api_Dset_0 {con : FuncId → Option Con} := PLift.up (fld_rules (C := ctx con) 0 ty_api_Dset rfl ty_int)
def rF_api_Dset_1 {con : FuncId → Option Con} := PLift.up (fillS_rule (C := ctx con) (fs := [(3, 0), (3, 1), (3, 2), (3, 3), (75, 4)]) 1 rfl ty_int)
def rf_api_Dset_1 {con : FuncId → Option Con} := PLift.up (fld_rules (C := ctx con) 1 ty_api_Dset rfl ty_int)
def rF_api_Dset_2 {con : FuncId → Option Con} := PLift.up (fillS_rule (C := ctx con) (fs := [(3, 0), (3, 1), (3, 2), (3, 3), (75, 4)]) 2 rfl ty_int)
def rf_api_Dset_2 {con : FuncId → Option Con} := PLift.up (fld_rules (C := ctx con) 2 ty_api_Dset rfl ty_int)
def rF_api_Dset_3 {con : FuncId → Option Con} := PLift.up (fillS_rule (C := ctx con) (fs := [(3, 0), (3, 1), (3, 2), (3, 3), (75, 4)]) 3 rfl ty_int)
def rf_api_Dset_3 {con : FuncId → Option Con} := PLift.up (fld_rules (C := ctx con) 3 ty_api_Dset rfl ty_int)
def rF_api_Dset_4 {con : FuncId → Option Con} := PLift.up (fillS_rule (C := ctx con) (fs := [(3, 0), (3, 1), (3, 2), (3, 3), (75, 4)]) 4 rfl ty_api_Set)
def rf_api_Dset_4 {con : FuncId → Option Con} := PLift.up (fld_rules (C := ctx con) 4 ty_api_Dset rfl ty_api_Set)
def rl_api_Put {con : FuncId → Option Con} := PLift.up (ld_rules (C := ctx con) ty_api_Put)
def rA_api_Put {con : FuncId → Option Con} := PLift.up (alloc_rules (C := ctx con) ty_api_Put)
def rS_api_Put {con : FuncId → Option Con} := PLift.up (store_rules (C := ctx con) ty_api_Put)
def rR_api_Put {con : FuncId → Option Con} := PLift.up (storeR_rules (C := ctx con) ty_api_Put)
theorem eqf_api_Put : eqF 82 = some [13, 3] := by kernel_rfl
theorem eq_api_Put {con : FuncId → Option Con} : (ctx con).eqk 82 = some [13, 3] := eqf_api_Put
def re_api_Put {con : FuncId → Option Con} := PLift.up (eq_rules (C := ctx con) eq_api_Put)
def rB_api_Put {con : FuncId → Option Con} := PLift.up (build_rules (C := ctx con) ty_api_Put rfl)
def rF_api_Put_0 {con : FuncId → Option Con} := PLift.up (fillS_rule (C := ctx con) (fs := [(3, 0), (9, 1)]) 0 rfl ty_int)
def rf_api_Put_0 {con : FuncId → Option Con} := PLift.up (fld_rules (C := ctx con) 0 ty_api_Put rfl ty_int)
def rF_api_Put_1 {con : FuncId → Option Con} := PLift.up (fillS_rule (C := ctx con) (fs := [(3, 0), (9, 1)]) 1 rfl ty_string)
def rf_api_Put_1 {con : FuncId → Option Con} := PLift.up (fld_rules (C := ctx con) 1 ty_api_Put rfl ty_string)
def rl_Lapi_Ptr {con : FuncId → Option Con} := PLift.up (ld_rules (C := ctx con) ty_Lapi_Ptr)
def rA_Lapi_Ptr {con : FuncId → Option Con} := PLift.up (alloc_rules (C := ctx con) ty_Lapi_Ptr)
def rS_Lapi_Ptr {con : FuncId → Option Con} := PLift.up (store_rules (C := ctx con) ty_Lapi_Ptr)
def rR_Lapi_Ptr {con : FuncId → Option Con} := PLift.up (storeR_rules (C := ctx con) ty_Lapi_Ptr)
def rv_Lapi_Ptr {con : FuncId → Option Con} := PLift.up (sl_rules (C := ctx con) TPtr ty_Lapi_Ptr ty_api_Ptr rfl)
def ri_Lapi_Ptr {con : FuncId → Option Con} := PLift.up (idxt_rules (C := ctx con) TPtr ty_Lapi_Ptr ty_api_Ptr rfl)
def rb_Lapi_Ptr {con : FuncId → Option Con} := PLift.up (bs_rules (C := ctx con) ty_Lapi_Ptr ty_api_Ptr)
def rl_Luint8 {con : FuncId → Option Con} := PLift.up (ld_rules (C := ctx con) ty_Luint8)
def rA_Luint8 {con : FuncId → Option Con} := PLift.up (alloc_rules (C := ctx con) ty_Luint8)
def rS_Luint8 {con : FuncId → Option Con} := PLift.up (store_rules (C := ctx con) ty_Luint8)
def rR_Luint8 {con : FuncId → Option Con} := PLift.up (storeR_rules (C := ctx con) ty_Luint8)
def rv_Luint8 {con : FuncId → Option Con} := PLift.up (sl_rules (C := ctx con) Byt ty_Luint8 ty_uint8 rfl)
def ri_Luint8 {con : FuncId → Option Con} := PLift.up (idxt_rules (C := ctx con) Byt ty_Luint8 ty_uint8 rfl)
def rb_Luint8 {con : FuncId → Option Con} := PLift.up (bs_rules (C := ctx con) ty_Luint8 ty_uint8)
def rl_api_Node {con : FuncId → Option Con} := PLift.up (ld_rules (C := ctx con) ty_api_Node)
def rA_api_Node {con : FuncId → Option Con} := PLift.up (alloc_rules (C := ctx con) ty_api_Node)
def rS_api_Node {con : FuncId → Option Con} := PLift.up (store_rules (C := ctx con) ty_api_Node)
def rR_api_Node {con : FuncId → Option Con} := PLift.up (storeR_rules (C := ctx con) ty_api_Node)
theorem eqf_api_Node : eqF 103 = some [13, 13, 3, 3, 13] := by kernel_rfl
theorem eq_api_Node {con : FuncId → Option Con} : (ctx con).eqk 103 = some [13, 13, 3, 3, 13] := eqf_api_Node
def re_api_Node {con : FuncId → Option Con} := PLift.up (eq_rules (C := ctx con) eq_api_Node)
def rB_api_Node {con : FuncId → Option Con} := PLift.up (build_rules (C := ctx con) ty_api_Node rfl)
def rF_api_Node_0 {con : FuncId → Option Con} := PLift.up (fillS_rule (C := ctx con) (fs := [(3, 0), (3, 1), (9, 2), (9, 3), (3, 4)]) 0 rfl ty_int)
def rf_api_Node_0 {con : FuncId → Option Con} := PLift.up (fld_rules (C := ctx con) 0 ty_api_Node rfl ty_int)
def rF_api_Node_1 {con : FuncId → Option Con} := PLift.up (fillS_rule (C := ctx con) (fs := [(3, 0), (3, 1), (9, 2), (9, 3), (3, 4)]) 1 rfl ty_int)
def rf_api_Node_1 {con : FuncId → Option Con} := PLift.up (fld_rules (C := ctx con) 1 ty_api_Node rfl ty_int)
def rF_api_Node_2 {con : FuncId → Option Con} := PLift.up (fillS_rule (C := ctx con) (fs := [(3, 0), (3, 1), (9, 2), (9, 3), (3, 4)]) 2 rfl ty_string)
def rf_api_Node_2 {con : FuncId → Option Con} := PLift.up (fld_rules (C := ctx con) 2 ty_api_Node rfl ty_string)
def rF_api_Node_3 {con : FuncId → Option Con} := PLift.up (fillS_rule (C := ctx con) (fs := [(3, 0), (3, 1), (9, 2), (9, 3), (3, 4)]) 3 rfl ty_string)
def rf_api_Node_3 {con : FuncId → Option Con} := PLift.up (fld_rules (C := ctx con) 3 ty_api_Node rfl ty_string)
def rF_api_Node_4 {con : FuncId → Option Con} := PLift.up (fillS_rule (C := ctx con) (fs := [(3, 0), (3, 1), (9, 2), (9, 3), (3, 4)]) 4 rfl ty_int)
def rf_api_Node_4 {con : FuncId → Option Con} := PLift.up (fld_rules (C := ctx con) 4 ty_api_Node rfl ty_int)
def rl_api_Run {con : FuncId → Option Con} := PLift.up (ld_rules (C := ctx con) ty_api_Run)
def rA_api_Run {con : FuncId → Option Con} := PLift.up (alloc_rules (C := ctx con) ty_api_Run)
def rS_api_Run {con : FuncId → Option Con} := PLift.up (store_rules (C := ctx con) ty_api_Run)
def rR_api_Run {con : FuncId → Option Con} := PLift.up (storeR_rules (C := ctx con) ty_api_Run)
theorem eqf_api_Run : eqF 120 = some [13, 13] := by kernel_rfl
theorem eq_api_Run {con : FuncId → Option Con} : (ctx con).eqk 120 = some [13, 13] := eqf_api_Run
def re_api_Run {con : FuncId → Option Con} := PLift.up (eq_rules (C := ctx con) eq_api_Run)
def rB_api_Run {con : FuncId → Option Con} := PLift.up (build_rules (C := ctx con) ty_api_Run rfl)
def rF_api_Run_0 {con : FuncId → Option Con} := PLift.up (fillS_rule (C := ctx con) (fs := [(3, 0), (3, 1)]) 0 rfl ty_int)
def rf_api_Run_0 {con : FuncId → Option Con} := PLift.up (fld_rules (C := ctx con) 0 ty_api_Run rfl ty_int)
def rF_api_Run_1 {con : FuncId → Option Con} := PLift.up (fillS_rule (C := ctx con) (fs := [(3, 0), (3, 1)]) 1 rfl ty_int)
def rf_api_Run_1 {con : FuncId → Option Con} := PLift.up (fld_rules (C := ctx con) 1 ty_api_Run rfl ty_int)
def rl_Pstrings_Builder {con : FuncId → Option Con} := PLift.up (ld_rules (C := ctx con) ty_Pstrings_Builder)
def rA_Pstrings_Builder {con : FuncId → Option Con} := PLift.up (alloc_rules (C := ctx con) ty_Pstrings_Builder)
def rS_Pstrings_Builder {con : FuncId → Option Con} := PLift.up (store_rules (C := ctx con) ty_Pstrings_Builder)
def rR_Pstrings_Builder {con : FuncId → Option Con} := PLift.up (storeR_rules (C := ctx con) ty_Pstrings_Builder)
def rl_strings_Builder {con : FuncId → Option Con} := PLift.up (ld_rules (C := ctx con) ty_strings_Builder)
def rA_strings_Builder {con : FuncId → Option Con} := PLift.up (alloc_rules (C := ctx con) ty_strings_Builder)
def rS_strings_Builder {con : FuncId → Option Con} := PLift.up (store_rules (C := ctx con) ty_strings_Builder)
def rR_strings_Builder {con : FuncId → Option Con} := PLift.up (storeR_rules (C := ctx con) ty_strings_Builder)
def rB_strings_Builder {con : FuncId → Option Con} := PLift.up (build_rules (C := ctx con) ty_strings_Builder rfl)
def rF_strings_Builder_0 {con : FuncId → Option Con} := PLift.up (fillS_rule (C := ctx con) (fs := [(174, 0), (101, 1)]) 0 rfl ty_Pstrings_Builder)
def rf_strings_Builder_0 {con : FuncId → Option Con} := PLift.up (fld_rules (C := ctx con) 0 ty_strings_Builder rfl ty_Pstrings_Builder)
def rF_strings_Builder_1 {con : FuncId → Option Con} := PLift.up (fillS_rule (C := ctx con) (fs := [(174, 0), (101, 1)]) 1 rfl ty_Luint8)
def rf_strings_Builder_1 {con : FuncId → Option Con} := PLift.up (fld_rules (C := ctx con) 1 ty_strings_Builder rfl ty_Luint8)
def rl_iter_Seq2_int_api_Put_ {con : FuncId → Option Con} := PLift.up (ld_rules (C := ctx con) ty_iter_Seq2_int_api_Put_)
def rA_iter_Seq2_int_api_Put_ {con : FuncId → Option Con} := PLift.up (alloc_rules (C := ctx con) ty_iter_Seq2_int_api_Put_)
def rS_iter_Seq2_int_api_Put_ {con : FuncId → Option Con} := PLift.up (store_rules (C := ctx con) ty_iter_Seq2_int_api_Put_)
def rR_iter_Seq2_int_api_Put_ {con : FuncId → Option Con} := PLift.up (storeR_rules (C := ctx con) ty_iter_Seq2_int_api_Put_)
def rl_func_int__api_Put__bool {con : FuncId → Option Con} := PLift.up (ld_rules (C := ctx con) ty_func_int__api_Put__bool)
def rA_func_int__api_Put__bool {con : FuncId → Option Con} := PLift.up (alloc_rules (C := ctx con) ty_func_int__api_Put__bool)
def rS_func_int__api_Put__bool {con : FuncId → Option Con} := PLift.up (store_rules (C := ctx con) ty_func_int__api_Put__bool)
def rR_func_int__api_Put__bool {con : FuncId → Option Con} := PLift.up (storeR_rules (C := ctx con) ty_func_int__api_Put__bool)
def rc_int_uint8 {con : FuncId → Option Con} := PLift.up (conv_irule (C := ctx con) ty_int ty_uint8)
def rc_uint8_int {con : FuncId → Option Con} := PLift.up (conv_irule (C := ctx con) ty_uint8 ty_int)
def rc_uint8_uint32 {con : FuncId → Option Con} := PLift.up (conv_irule (C := ctx con) ty_uint8 ty_uint32)
def rc_string_Luint8 {con : FuncId → Option Con} := PLift.up (conv_brule (C := ctx con) ty_string ty_Luint8 ty_uint8)
def rc_Luint8_string {con : FuncId → Option Con} := PLift.up (conv_trule (C := ctx con) ty_Luint8 ty_string ty_uint8)
def vS0 {con : FuncId → Option Con} := PLift.up (And.intro ((rl_int (con := con)).down) (And.intro ((rA_int (con := con)).down) (And.intro ((rS_int (con := con)).down) (And.intro ((rR_int (con := con)).down) (And.intro ((rl_bool (con := con)).down) (And.intro ((rA_bool (con := con)).down) (And.intro ((rS_bool (con := con)).down) (And.intro ((rR_bool (con := con)).down) (And.intro ((rq_bool (con := con)).down) (And.intro ((rl_uint8 (con := con)).down) (And.intro ((rA_uint8 (con := con)).down) (And.intro ((rS_uint8 (con := con)).down) (And.intro ((rR_uint8 (con := con)).down) (And.intro ((rl_string (con := con)).down) (And.intro ((rA_string (con := con)).down) (And.intro ((rS_string (con := con)).down) (And.intro ((rR_string (con := con)).down) (And.intro ((rs_string (con := con)).down) (And.intro ((rl_Lstring (con := con)).down) ((rA_Lstring (con := con)).down))))))))))))))))))))
def vS1 {con : FuncId → Option Con} := PLift.up (And.intro ((rS_Lstring (con := con)).down) (And.intro ((rR_Lstring (con := con)).down) (And.intro ((rv_Lstring (con := con)).down) (And.intro ((ri_Lstring (con := con)).down) (And.intro ((rb_Lstring (con := con)).down) (And.intro ((rl_Lapi_Put (con := con)).down) (And.intro ((rA_Lapi_Put (con := con)).down) (And.intro ((rS_Lapi_Put (con := con)).down) (And.intro ((rR_Lapi_Put (con := con)).down) (And.intro ((rv_Lapi_Put (con := con)).down) (And.intro ((ri_Lapi_Put (con := con)).down) (And.intro ((rb_Lapi_Put (con := con)).down) (And.intro ((rl_api_Dev (con := con)).down) (And.intro ((rA_api_Dev (con := con)).down) (And.intro ((rS_api_Dev (con := con)).down) (And.intro ((rR_api_Dev (con := con)).down) (And.intro ((rB_api_Dev (con := con)).down) (And.intro ((rF_api_Dev_0 (con := con)).down) (And.intro ((rf_api_Dev_0 (con := con)).down) ((rF_api_Dev_1 (con := con)).down))))))))))))))))))))
def vS2 {con : FuncId → Option Con} := PLift.up (And.intro ((rf_api_Dev_1 (con := con)).down) (And.intro ((rF_api_Dev_2 (con := con)).down) (And.intro ((rf_api_Dev_2 (con := con)).down) (And.intro ((rF_api_Dev_3 (con := con)).down) (And.intro ((rf_api_Dev_3 (con := con)).down) (And.intro ((rF_api_Dev_4 (con := con)).down) (And.intro ((rf_api_Dev_4 (con := con)).down) (And.intro ((rl_uint32 (con := con)).down) (And.intro ((rA_uint32 (con := con)).down) (And.intro ((rS_uint32 (con := con)).down) (And.intro ((rR_uint32 (con := con)).down) (And.intro ((rl_api_Sum (con := con)).down) (And.intro ((rA_api_Sum (con := con)).down) (And.intro ((rS_api_Sum (con := con)).down) (And.intro ((rR_api_Sum (con := con)).down) (And.intro ((re_api_Sum (con := con)).down) (And.intro ((ra_api_Sum (con := con)).down) (And.intro ((rB_api_Sum (con := con)).down) (And.intro ((rl_api_Ptr (con := con)).down) ((rA_api_Ptr (con := con)).down))))))))))))))))))))
def vS3 {con : FuncId → Option Con} := PLift.up (And.intro ((rS_api_Ptr (con := con)).down) (And.intro ((rR_api_Ptr (con := con)).down) (And.intro ((re_api_Ptr (con := con)).down) (And.intro ((rB_api_Ptr (con := con)).down) (And.intro ((rF_api_Ptr_0 (con := con)).down) (And.intro ((rf_api_Ptr_0 (con := con)).down) (And.intro ((rF_api_Ptr_1 (con := con)).down) (And.intro ((rf_api_Ptr_1 (con := con)).down) (And.intro ((rF_api_Ptr_2 (con := con)).down) (And.intro ((rf_api_Ptr_2 (con := con)).down) (And.intro ((rl_Lapi_Run (con := con)).down) (And.intro ((rA_Lapi_Run (con := con)).down) (And.intro ((rS_Lapi_Run (con := con)).down) (And.intro ((rR_Lapi_Run (con := con)).down) (And.intro ((rv_Lapi_Run (con := con)).down) (And.intro ((ri_Lapi_Run (con := con)).down) (And.intro ((rb_Lapi_Run (con := con)).down) (And.intro ((rl_Lapi_Dset (con := con)).down) (And.intro ((rA_Lapi_Dset (con := con)).down) ((rS_Lapi_Dset (con := con)).down))))))))))))))))))))
def vS4 {con : FuncId → Option Con} := PLift.up (And.intro ((rR_Lapi_Dset (con := con)).down) (And.intro ((rv_Lapi_Dset (con := con)).down) (And.intro ((ri_Lapi_Dset (con := con)).down) (And.intro ((rb_Lapi_Dset (con := con)).down) (And.intro ((rl_Lint (con := con)).down) (And.intro ((rA_Lint (con := con)).down) (And.intro ((rS_Lint (con := con)).down) (And.intro ((rR_Lint (con := con)).down) (And.intro ((rv_Lint (con := con)).down) (And.intro ((ri_Lint (con := con)).down) (And.intro ((rb_Lint (con := con)).down) (And.intro ((rl_api_Set (con := con)).down) (And.intro ((rA_api_Set (con := con)).down) (And.intro ((rS_api_Set (con := con)).down) (And.intro ((rR_api_Set (con := con)).down) (And.intro ((rv_api_Set (con := con)).down) (And.intro ((ri_api_Set (con := con)).down) (And.intro ((rb_api_Set (con := con)).down) (And.intro ((rl_api_Dset (con := con)).down) ((rA_api_Dset (con := con)).down))))))))))))))))))))
def vS5 {con : FuncId → Option Con} := PLift.up (And.intro ((rS_api_Dset (con := con)).down) (And.intro ((rR_api_Dset (con := con)).down) (And.intro ((rB_api_Dset (con := con)).down) (And.intro ((rF_api_Dset_0 (con := con)).down) (And.intro ((rf_api_Dset_0 (con := con)).down) (And.intro ((rF_api_Dset_1 (con := con)).down) (And.intro ((rf_api_Dset_1 (con := con)).down) (And.intro ((rF_api_Dset_2 (con := con)).down) (And.intro ((rf_api_Dset_2 (con := con)).down) (And.intro ((rF_api_Dset_3 (con := con)).down) (And.intro ((rf_api_Dset_3 (con := con)).down) (And.intro ((rF_api_Dset_4 (con := con)).down) (And.intro ((rf_api_Dset_4 (con := con)).down) (And.intro ((rl_api_Put (con := con)).down) (And.intro ((rA_api_Put (con := con)).down) (And.intro ((rS_api_Put (con := con)).down) (And.intro ((rR_api_Put (con := con)).down) (And.intro ((re_api_Put (con := con)).down) (And.intro ((rB_api_Put (con := con)).down) ((rF_api_Put_0 (con := con)).down))))))))))))))))))))
def vS6 {con : FuncId → Option Con} := PLift.up (And.intro ((rf_api_Put_0 (con := con)).down) (And.intro ((rF_api_Put_1 (con := con)).down) (And.intro ((rf_api_Put_1 (con := con)).down) (And.intro ((rl_Lapi_Ptr (con := con)).down) (And.intro ((rA_Lapi_Ptr (con := con)).down) (And.intro ((rS_Lapi_Ptr (con := con)).down) (And.intro ((rR_Lapi_Ptr (con := con)).down) (And.intro ((rv_Lapi_Ptr (con := con)).down) (And.intro ((ri_Lapi_Ptr (con := con)).down) (And.intro ((rb_Lapi_Ptr (con := con)).down) (And.intro ((rl_Luint8 (con := con)).down) (And.intro ((rA_Luint8 (con := con)).down) (And.intro ((rS_Luint8 (con := con)).down) (And.intro ((rR_Luint8 (con := con)).down) (And.intro ((rv_Luint8 (con := con)).down) (And.intro ((ri_Luint8 (con := con)).down) (And.intro ((rb_Luint8 (con := con)).down) (And.intro ((rl_api_Node (con := con)).down) (And.intro ((rA_api_Node (con := con)).down) ((rS_api_Node (con := con)).down))))))))))))))))))))
def vS7 {con : FuncId → Option Con} := PLift.up (And.intro ((rR_api_Node (con := con)).down) (And.intro ((re_api_Node (con := con)).down) (And.intro ((rB_api_Node (con := con)).down) (And.intro ((rF_api_Node_0 (con := con)).down) (And.intro ((rf_api_Node_0 (con := con)).down) (And.intro ((rF_api_Node_1 (con := con)).down) (And.intro ((rf_api_Node_1 (con := con)).down) (And.intro ((rF_api_Node_2 (con := con)).down) (And.intro ((rf_api_Node_2 (con := con)).down) (And.intro ((rF_api_Node_3 (con := con)).down) (And.intro ((rf_api_Node_3 (con := con)).down) (And.intro ((rF_api_Node_4 (con := con)).down) (And.intro ((rf_api_Node_4 (con := con)).down) (And.intro ((rl_api_Run (con := con)).down) (And.intro ((rA_api_Run (con := con)).down) (And.intro ((rS_api_Run (con := con)).down) (And.intro ((rR_api_Run (con := con)).down) (And.intro ((re_api_Run (con := con)).down) (And.intro ((rB_api_Run (con := con)).down) ((rF_api_Run_0 (con := con)).down))))))))))))))))))))
def vS8 {con : FuncId → Option Con} := PLift.up (And.intro ((rf_api_Run_0 (con := con)).down) (And.intro ((rF_api_Run_1 (con := con)).down) (And.intro ((rf_api_Run_1 (con := con)).down) (And.intro ((rl_Pstrings_Builder (con := con)).down) (And.intro ((rA_Pstrings_Builder (con := con)).down) (And.intro ((rS_Pstrings_Builder (con := con)).down) (And.intro ((rR_Pstrings_Builder (con := con)).down) (And.intro ((rl_strings_Builder (con := con)).down) (And.intro ((rA_strings_Builder (con := con)).down) (And.intro ((rS_strings_Builder (con := con)).down) (And.intro ((rR_strings_Builder (con := con)).down) (And.intro ((rB_strings_Builder (con := con)).down) (And.intro ((rF_strings_Builder_0 (con := con)).down) (And.intro ((rf_strings_Builder_0 (con := con)).down) (And.intro ((rF_strings_Builder_1 (con := con)).down) (And.intro ((rf_strings_Builder_1 (con := con)).down) (And.intro ((rl_iter_Seq2_int_api_Put_ (con := con)).down) (And.intro ((rA_iter_Seq2_int_api_Put_ (con := con)).down) (And.intro ((rS_iter_Seq2_int_api_Put_ (con := con)).down) ((rR_iter_Seq2_int_api_Put_ (con := con)).down))))))))))))))))))))
def vS9 {con : FuncId → Option Con} := PLift.up (And.intro ((rl_func_int__api_Put__bool (con := con)).down) (And.intro ((rA_func_int__api_Put__bool (con := con)).down) (And.intro ((rS_func_int__api_Put__bool (con := con)).down) (And.intro ((rR_func_int__api_Put__bool (con := con)).down) (And.intro ((rc_int_uint8 (con := con)).down) (And.intro ((rc_uint8_int (con := con)).down) (And.intro ((rc_uint8_uint32 (con := con)).down) (And.intro ((rc_string_Luint8 (con := con)).down) ((rc_Luint8_string (con := con)).down)))))))))
def vS {con : FuncId → Option Con} := PLift.up (And.intro ((vS0 (con := con)).down) (And.intro ((vS1 (con := con)).down) (And.intro ((vS2 (con := con)).down) (And.intro ((vS3 (con := con)).down) (And.intro ((vS4 (con := con)).down) (And.intro ((vS5 (con := con)).down) (And.intro ((vS6 (con := con)).down) (And.intro ((vS7 (con := con)).down) (And.intro ((vS8 (con := con)).down) ((vS9 (con := con)).down))))))))))
def vE := PLift.up (And.intro (@enc_TPut) (And.intro (@enc_TDev) (And.intro (@enc_TPtr) (And.intro (@enc_TRun) (And.intro (@enc_TNode) (And.intro (@enc_TDset) (And.intro (@w_TPut) (And.intro (@w_TDev) (And.intro (@w_TPtr) (And.intro (@w_TRun) (And.intro (@w_TNode) (And.intro (@w_TDset) (And.intro (@dc_TPut) (And.intro (@dc_TDev) (And.intro (@dc_TPtr) (And.intro (@dc_TRun) (And.intro (@dc_TNode) (And.intro (@dc_TDset) (And.intro (@eta_TPut) (And.intro (@eta_TDev) (And.intro (@eta_TPtr) (And.intro (@eta_TRun) (And.intro (@eta_TNode) (And.intro (@eta_TDset) (@w_int)))))))))))))))))))))))))
theorem mixed : Tryz.prog.follows .mixedOrders = true := by kernel_rfl
theorem own : ownKnob Tryz.prog.godebug = none := by kernel_rfl
theorem laid : laidOutB Tryz.prog = true := by kernel_rfl
end Go.Proofs.YtenckbcdfdmckaaGreatDoor


namespace Go.Proofs.YtenckbcdfdmckaaGreatDoor
open Go Go.Eng
set_option maxRecDepth 100000
def dig (c : UInt8) : Int := (c.toNat : Int) - 48
def digOk (c : UInt8) : Bool := decide (1 ≤ dig c) && decide (dig c ≤ 4)
def formOk (s : List UInt8) : Bool := s.all digOk
def digs (s : List UInt8) : List Int := s.map dig

theorem digs_sum : ∀ s : List UInt8, formOk s = true → 0 ≤ (digs s).sum ∧ (digs s).sum ≤ 4 * (s.length : Int)
  | [], _ => by simp [digs]
  | c :: r, h => by
    simp only [formOk, List.all_cons, Bool.and_eq_true] at h
    have := digs_sum r h.2
    have h1 := h.1
    simp only [digOk, Bool.and_eq_true, decide_eq_true_eq] at h1
    simp only [digs, List.map_cons, List.sum_cons, List.length_cons] at this ⊢
    omega

theorem take_step {s : List UInt8} {i : Nat} (h : i < s.length) : s.take (i + 1) = s.take i ++ [s.getD i 0] := by
  rw [List.take_add_one]; simp [List.getD_eq_getElem?_getD, h]
theorem digs_take {s : List UInt8} {i : Nat} (h : i < s.length) : digs (s.take (i + 1)) = digs (s.take i) ++ [dig (s.getD i 0)] := by
  rw [take_step h]; simp [digs]
theorem formOk_take {s : List UInt8} {i : Nat} (h : i < s.length) : formOk (s.take (i + 1)) = (formOk (s.take i) && digOk (s.getD i 0)) := by
  rw [take_step h]; simp [formOk]
theorem formOk_of {s : List UInt8} {i : Nat} (h : i < s.length) (hb : digOk (s.getD i 0) = false) : formOk s = false := by
  unfold formOk
  rw [List.all_eq_false]
  exact ⟨s[i], List.getElem_mem h, by simpa [List.getD_eq_getElem?_getD, h] using hb⟩
theorem digOk_of {c : UInt8} (h : ¬ dig c < 1) (h' : ¬ 4 < dig c) : digOk c = true := by
  simp only [digOk, Bool.and_eq_true, decide_eq_true_eq]; omega
theorem digOk_no {c : UInt8} (h : dig c < 1 ∨ 4 < dig c) : digOk c = false := by
  simp only [digOk, Bool.and_eq_false_iff, decide_eq_false_iff_not]; omega

def szL (s : List UInt8) : List Int := if formOk s then digs s else []
def szN (s : List UInt8) : Int := if formOk s then (digs s).sum else 0

def G_pack_sizes : GCode := .seq (.region [⟨(some 2), none, .assign (.const (.slice none 0 0))⟩, ⟨(some 3), none, .assign (.const (.int .i64 0))⟩, ⟨(some 4), none, .assign (.const (.bool false))⟩]) (.seq (.seq (.region [⟨(some 8), none, .move (.tmp 0)⟩, ⟨(some 9), none, .convert 9 101 (.tmp 8)⟩, ⟨(some 10), none, .call ⟨.builtin .len, #[.tmp 9], #[101]⟩⟩, ⟨(some 11), none, .move (.const (.int .i64 0))⟩]) (.block 0 (.loop (.seq .weak (.seq (.region [⟨(some 12), none, .binOp .lss 3 (.tmp 11) (.tmp 10) 3⟩]) (.seq (.cond (.tmp 12) (.skip) (.exit 0)) (.seq (.block 1 (.seq (.region [⟨(some 13), none, .indexAddr 101 (.tmp 9) (.tmp 11)⟩, ⟨(some 14), none, .load 5 (.tmp 13)⟩, ⟨(some 6), none, .assign (.tmp 14)⟩]) (.seq (.region [⟨(some 15), none, .move (.tmp 6)⟩, ⟨(some 16), none, .convert 5 3 (.tmp 15)⟩, ⟨(some 17), none, .binOp .sub 3 (.tmp 16) (.const (.int .i64 48)) 3⟩, ⟨(some 7), none, .assign (.tmp 17)⟩]) (.seq (.seq (.region [⟨(some 18), none, .move (.tmp 7)⟩, ⟨(some 19), none, .binOp .lss 3 (.tmp 18) (.const (.int .i64 1)) 3⟩, ⟨(some 20), none, .move (.tmp 19)⟩, ⟨(some 21), (some (20, false)), .move (.tmp 7)⟩, ⟨(some 22), (some (20, false)), .binOp .gtr 3 (.tmp 21) (.const (.int .i64 4)) 3⟩, ⟨(some 23), none, .pick (.tmp 20) (.const (.bool true)) (.tmp 22)⟩]) (.cond (.tmp 23) (.seq (.region [⟨(some 2), none, .assign (.const (.slice none 0 0))⟩, ⟨(some 3), none, .assign (.const (.int .i64 0))⟩, ⟨(some 4), none, .assign (.const (.bool false))⟩]) (.ret)) (.skip))) (.region [⟨(some 24), none, .move (.tmp 2)⟩, ⟨(some 25), none, .move (.tmp 7)⟩, ⟨(some 26), none, .buildSlice 43 1 #[(0, .tmp 25)]⟩, ⟨(some 27), none, .call ⟨.builtin .append, #[.tmp 24, .tmp 26], #[43, 43]⟩⟩, ⟨(some 28), none, .move (.tmp 3)⟩, ⟨(some 29), none, .move (.tmp 7)⟩, ⟨(some 30), none, .binOp .add 3 (.tmp 28) (.tmp 29) 3⟩, ⟨(some 2), none, .assign (.tmp 27)⟩, ⟨(some 3), none, .assign (.tmp 30)⟩]))))) (.region [⟨(some 31), none, .binOp .add 3 (.tmp 11) (.const (.int .i64 1)) 3⟩, ⟨(some 11), none, .move (.tmp 31)⟩])))))))) (.seq (.region [⟨(some 32), none, .move (.tmp 2)⟩, ⟨(some 33), none, .move (.tmp 3)⟩, ⟨(some 2), none, .assign (.tmp 32)⟩, ⟨(some 3), none, .assign (.tmp 33)⟩, ⟨(some 4), none, .assign (.const (.bool true))⟩]) (.ret)))
noncomputable def l_pack_sizes : List (Nat × Con) := []
noncomputable abbrev K_pack_sizes : Ctx := ctx (cl l_pack_sizes)
theorem geq_pack_sizes : gof K_pack_sizes Tryz.f64 = some G_pack_sizes.strip := by kernel_rfl
theorem sys_pack_sizes : Go.Eng.Sys Tryz.prog K_pack_sizes := sys_of' (l := []) trivial
theorem hm_pack_sizes : ConMono K_pack_sizes := conMono_of sys_pack_sizes.con
def A_pack_sizes := Arms.cons (argT (List UInt8)) Arms.nil
def p_pack_sizes (x : List UInt8 × Unit) : Prop := x.1.length ≤ 1099511627776
def r_pack_sizes (x : List UInt8 × Unit) : AV := .tup [.t (sl (szL x.1)), .t (.int .i64 (szN x.1)), .t (.bool (formOk x.1))]

theorem wrap_dig (c : UInt8) : IntKind.i64.wrap (IntKind.i64.wrap (c.toNat : Int) - 48) = dig c := by
  have := c.toNat_lt
  rw [IntWalk.i64_in (c.toNat : Int) (by omega), IntWalk.i64_in _ (by omega)]; rfl

theorem body_pack_sizes (x : List UInt8 × Unit) (hp : p_pack_sizes x) : avp K_pack_sizes G_pack_sizes (Ret K_pack_sizes [.tmp 2, .tmp 3, .tmp 4] fun v s' => Frz s' v (r_pack_sizes x)) (entry (A_pack_sizes.enc x) .empty) := by
  obtain ⟨s, ⟨⟩⟩ := x
  change s.length ≤ 1099511627776 at hp
  change avp _ _ (Ret _ _ fun v s' => Frz s' v (.tup [.t (sl (szL s)), .t (.int .i64 (szN s)), .t (.bool (formOk s))])) (entry [.t (.str s)] .empty)
  unfold G_pack_sizes
  simp only [vP.down, vS.down, vE.down, Nat.reduceEqDiff, Nat.reduceAdd, Nat.reduceSub, Nat.reduceMul, Nat.reduceLeDiff, Nat.reduceLT, Int.reduceToNat, reduceIte, reduceCtorEq, Int.reduceEq, Int.reduceLT, Int.reduceLE, ↓avp_condG, ↓tf_arrow, ↓ft_arrow]
  refine ⟨by omega, fun g hg => ?_⟩
  refine loop_weak hm_pack_sizes (fun k σ => ∃ (i : Nat) (x : AV) (S : Store), k = s.length - i ∧ i ≤ s.length ∧ formOk (s.take i) = true ∧ LV S x (digs (s.take i)) ∧
    σ = mkS [(2, x), (3, .t (.int .i64 (digs (s.take i)).sum)), (9, .t (sl (s.map Byt.mk))), (10, .t (.int .i64 s.length)), (11, .t (.int .i64 (i : Nat)))] S)
    ⟨0, .t .nilS, .empty, rfl, by omega, rfl, lv_nil, rfl⟩ (wk_to fewer_empty (by simp only [vP.down, vS.down, vE.down, Nat.reduceEqDiff, Nat.reduceAdd, Nat.reduceSub, Nat.reduceMul, Nat.reduceLeDiff, Nat.reduceLT, Int.reduceToNat, reduceIte, reduceCtorEq, Int.reduceEq, Int.reduceLT, Int.reduceLE, ↓avp_condG, ↓tf_arrow, ↓ft_arrow, wP.down, w2_bytes hg, w2_bytes (empty_none (g := g)), List.take_zero, digs, List.sum_nil, Int.natCast_zero])) ?_
  rintro k _ ⟨i, x, S, rfl, hi, hok, hx, rfl⟩
  by_cases hlt : i < s.length
  case neg =>
    obtain rfl : i = s.length := by omega
    have hge : ¬ ((s.length : Int) < (s.length : Int)) := by omega
    rw [List.take_length] at hok hx
    simp only [vP.down, vS.down, vE.down, Nat.reduceEqDiff, Nat.reduceAdd, Nat.reduceSub, Nat.reduceMul, Nat.reduceLeDiff, Nat.reduceLT, Int.reduceToNat, reduceIte, reduceCtorEq, Int.reduceEq, Int.reduceLT, Int.reduceLE, ↓avp_condG, ↓tf_arrow, ↓ft_arrow, hge]
    simp only [vP.down, vS.down, vE.down, Nat.reduceEqDiff, Nat.reduceAdd, Nat.reduceSub, Nat.reduceMul, Nat.reduceLeDiff, Nat.reduceLT, Int.reduceToNat, reduceIte, reduceCtorEq, Int.reduceEq, Int.reduceLT, Int.reduceLE, ↓avp_condG, ↓tf_arrow, ↓ft_arrow, vT.down]
    simp only [szL, szN, hok, if_true, List.take_length, frz1_t, and_true]
    exact hx.frz
  have hlt' : (i : Int) < (s.length : Int) := by omega
  have hl := hlt
  generalize hc : s.getD i 0 = c
  have hb0 : (0 : Int) ≤ (i : Int) := by omega
  have hbad : digOk c = false → formOk s = false := fun h => formOk_of hl (by rw [hc]; exact h)
  by_cases h1 : dig c < 1
  · have hf := hbad (digOk_no (.inl h1))
    simp only [vP.down, vS.down, vE.down, Nat.reduceEqDiff, Nat.reduceAdd, Nat.reduceSub, Nat.reduceMul, Nat.reduceLeDiff, Nat.reduceLT, Int.reduceToNat, reduceIte, reduceCtorEq, Int.reduceEq, Int.reduceLT, Int.reduceLE, ↓avp_condG, ↓tf_arrow, ↓ft_arrow, wrap_dig, hlt', hc, h1]
    refine ⟨by omega, ?_⟩
    simp only [vP.down, vS.down, vE.down, Nat.reduceEqDiff, Nat.reduceAdd, Nat.reduceSub, Nat.reduceMul, Nat.reduceLeDiff, Nat.reduceLT, Int.reduceToNat, reduceIte, reduceCtorEq, Int.reduceEq, Int.reduceLT, Int.reduceLE, ↓avp_condG, ↓tf_arrow, ↓ft_arrow, vT.down]
    simp only [szL, szN, hf, Bool.false_eq_true, if_false, frz1_nilS, frz1_t, and_self]
  by_cases h4 : 4 < dig c
  · have hf := hbad (digOk_no (.inr h4))
    simp only [vP.down, vS.down, vE.down, Nat.reduceEqDiff, Nat.reduceAdd, Nat.reduceSub, Nat.reduceMul, Nat.reduceLeDiff, Nat.reduceLT, Int.reduceToNat, reduceIte, reduceCtorEq, Int.reduceEq, Int.reduceLT, Int.reduceLE, ↓avp_condG, ↓tf_arrow, ↓ft_arrow, wrap_dig, hlt', hc, h1, gt_iff_lt, h4]
    refine ⟨by omega, ?_⟩
    simp only [vP.down, vS.down, vE.down, Nat.reduceEqDiff, Nat.reduceAdd, Nat.reduceSub, Nat.reduceMul, Nat.reduceLeDiff, Nat.reduceLT, Int.reduceToNat, reduceIte, reduceCtorEq, Int.reduceEq, Int.reduceLT, Int.reduceLE, ↓avp_condG, ↓tf_arrow, ↓ft_arrow, vT.down]
    simp only [szL, szN, hf, Bool.false_eq_true, if_false, frz1_nilS, frz1_t, and_self]
  simp only [vP.down, vS.down, vE.down, Nat.reduceEqDiff, Nat.reduceAdd, Nat.reduceSub, Nat.reduceMul, Nat.reduceLeDiff, Nat.reduceLT, Int.reduceToNat, reduceIte, reduceCtorEq, Int.reduceEq, Int.reduceLT, Int.reduceLE, ↓avp_condG, ↓tf_arrow, ↓ft_arrow, wrap_dig, hlt', hc, h1, gt_iff_lt, h4]
  refine ⟨by omega, fun g2 hg2 => ?_⟩
  refine append_lv ty_Lint ty_int rfl (by decide) (hx.fresh hg2) (shows_one (x := dig c) rfl rfl rfl) (by simp [digs]; omega) (by simp [digs]; omega) fun v S' hv _ _ => ?_
  have hsum := digs_sum _ hok
  have hlen : (s.take i).length = i := by simp; omega
  have hsw : IntKind.i64.wrap ((digs (s.take i)).sum + dig c) = (digs (s.take (i + 1))).sum := by
    have := c.toNat_lt
    rw [digs_take hl, hc, List.sum_append, List.sum_singleton]
    exact IntWalk.i64_in _ (by unfold dig; omega)
  have hi1 : IntKind.i64.wrap ((i : Int) + 1) = ((i + 1 : Nat) : Int) := by rw [IntWalk.i64_in _ (by omega)]; rfl
  refine round_to (s.length - (i + 1)) [(2, v), (3, .t (.int .i64 (digs (s.take (i + 1))).sum)), (9, .t (sl (s.map Byt.mk))), (10, .t (.int .i64 s.length)), (11, .t (.int .i64 (i + 1 : Nat)))] S' (by omega) fewer_refl (by simp only [vP.down, vS.down, vE.down, Nat.reduceEqDiff, Nat.reduceAdd, Nat.reduceSub, Nat.reduceMul, Nat.reduceLeDiff, Nat.reduceLT, Int.reduceToNat, reduceIte, reduceCtorEq, Int.reduceEq, Int.reduceLT, Int.reduceLE, ↓avp_condG, ↓tf_arrow, ↓ft_arrow, wP.down, hi1, hsw])
    ⟨i + 1, v, S', rfl, by omega, ?_, ?_, rfl⟩
  · rw [formOk_take hl, hok, hc, digOk_of h1 h4]; rfl
  · rw [digs_take hl, hc]; exact hv
noncomputable def c_pack_sizes : Con := fnCon A_pack_sizes p_pack_sizes r_pack_sizes
theorem ok_pack_sizes : COk Tryz.prog 64 c_pack_sizes := fn_ok sys_pack_sizes mixed Tryz.func64 (by kernel_rfl) geq_pack_sizes Tryz.ntmps64 (by rw [Tryz.results64]) fun x hx => ⟨Nat.le_of_ble_eq_true rfl, body_pack_sizes x hx⟩
end Go.Proofs.YtenckbcdfdmckaaGreatDoor


namespace Go.Proofs.YtenckbcdfdmckaaGreatDoor
open Go Go.Eng
set_option maxRecDepth 100000
def byt (n : Int) : UInt8 := UInt8.ofNat (n % 256).toNat
def be : Nat → Int → List UInt8
  | 0, _ => []
  | k + 1, n => be k (n / 256) ++ [byt n]
def flat (ws l : List Int) : List UInt8 := (List.zipWith (fun w n => be w.toNat n) ws l).flatten
def putF (form : List UInt8) (l : List Int) : List UInt8 := if form.length = l.length ∧ formOk form = true then flat (digs form) l else []

theorem be_len : ∀ k n, (be k n).length = k
  | 0, _ => rfl
  | k + 1, n => by simp [be, be_len k]

theorem byt_nat (n : Int) : ((byt n).toNat : Int) = n % 256 := by
  unfold byt
  rw [UInt8.toNat_ofNat']
  omega

theorem be_step {w m : Nat} (n : Int) (h1 : 1 ≤ m) (h2 : m ≤ w) : be (w - (m - 1)) (n / 2 ^ (8 * (m - 1))) = be (w - m) (n / 2 ^ (8 * m)) ++ [byt (n / 2 ^ (8 * (m - 1)))] := by
  rw [show w - (m - 1) = (w - m) + 1 from by omega, be]
  congr 2
  rw [Int.ediv_ediv_of_nonneg (Int.le_of_lt (Int.pow_pos (by decide)))]
  congr 1
  rw [show 8 * m = 8 * (m - 1) + 8 from by omega, Int.pow_add]
  rfl

theorem digs_at {s : List UInt8} {i : Nat} (hok : formOk s = true) (hi : i < s.length) : ∃ w : Nat, (digs s).getD i 0 = (w : Int) ∧ 1 ≤ w ∧ w ≤ 4 := by
  unfold formOk at hok
  rw [List.all_eq_true] at hok
  have := hok s[i] (List.getElem_mem hi)
  simp only [digOk, Bool.and_eq_true, decide_eq_true_eq] at this
  refine ⟨(dig s[i]).toNat, ?_, by omega, by omega⟩
  simp [digs, List.getD_eq_getElem?_getD, hi]
  omega

theorem flat_step {ws l : List Int} {i w : Nat} (hw : i < ws.length) (hl : i < l.length) (h : ws.getD i 0 = (w : Int)) : flat (ws.take (i + 1)) (l.take (i + 1)) = flat (ws.take i) (l.take i) ++ be w (l.getD i 0) := by
  have h' : ws[i] = (w : Int) := by simpa [List.getD_eq_getElem?_getD, hw] using h
  unfold flat
  rw [List.take_succ_eq_append_getElem hw, List.take_succ_eq_append_getElem hl, List.zipWith_append (by simp; omega)]
  simp [List.getD_eq_getElem?_getD, hl, h']

theorem digs_len (s : List UInt8) : (digs s).length = s.length := by simp [digs]

theorem flat_len {s : List UInt8} (hok : formOk s = true) (l : List Int) (hl : s.length = l.length) : ∀ i, i ≤ s.length → (flat ((digs s).take i) (l.take i)).length ≤ 4 * i := by
  intro i
  induction i with
  | zero => intro _; simp [flat]
  | succ i ih =>
    intro hi
    obtain ⟨w, h1, h2, h3⟩ := digs_at hok (i := i) (by omega)
    rw [flat_step (by rw [digs_len]; omega) (by omega) h1, List.length_append, be_len]
    have := ih (by omega)
    omega
end Go.Proofs.YtenckbcdfdmckaaGreatDoor


namespace Go.Proofs.YtenckbcdfdmckaaGreatDoor
open Go Go.Eng
set_option maxRecDepth 100000
def G_pack_Put : GCode := .seq (.region [⟨(some 4), none, .assign (.const (.string ⟨#[]⟩))⟩]) (.seq (.region [⟨(some 13), none, .move (.tmp 0)⟩, ⟨(some 14), none, .call ⟨.value (.func 64), #[.tmp 13], #[9]⟩⟩, ⟨(some 12), none, .move (.tmp 14)⟩, ⟨(some 15), none, .extract (.tmp 12) 0⟩, ⟨(some 16), none, .extract (.tmp 12) 1⟩, ⟨(some 17), none, .extract (.tmp 12) 2⟩, ⟨(some 5), none, .assign (.tmp 15)⟩, ⟨(some 6), none, .assign (.tmp 16)⟩, ⟨(some 7), none, .assign (.tmp 17)⟩]) (.seq (.seq (.region [⟨(some 18), none, .move (.tmp 7)⟩, ⟨(some 19), none, .unOp .not 4 (.tmp 18)⟩, ⟨(some 20), none, .move (.tmp 19)⟩, ⟨(some 21), (some (20, false)), .move (.tmp 5)⟩, ⟨(some 22), (some (20, false)), .call ⟨.builtin .len, #[.tmp 21], #[43]⟩⟩, ⟨(some 23), (some (20, false)), .move (.tmp 1)⟩, ⟨(some 24), (some (20, false)), .call ⟨.builtin .len, #[.tmp 23], #[43]⟩⟩, ⟨(some 25), (some (20, false)), .binOp .neq 3 (.tmp 22) (.tmp 24) 3⟩, ⟨(some 26), none, .pick (.tmp 20) (.const (.bool true)) (.tmp 25)⟩]) (.cond (.tmp 26) (.seq (.region [⟨(some 4), none, .assign (.const (.string ⟨#[]⟩))⟩]) (.ret)) (.skip))) (.seq (.region [⟨(some 8), none, .assign (.const (.slice none 0 0))⟩]) (.seq (.seq (.region [⟨(some 27), none, .move (.tmp 1)⟩, ⟨(some 28), none, .call ⟨.builtin .len, #[.tmp 27], #[43]⟩⟩, ⟨(some 29), none, .move (.const (.int .i64 0))⟩]) (.block 0 (.loop (.seq .weak (.seq (.region [⟨(some 30), none, .binOp .lss 3 (.tmp 29) (.tmp 28) 3⟩]) (.seq (.cond (.tmp 30) (.skip) (.exit 0)) (.seq (.block 1 (.seq (.region [⟨(some 31), none, .move (.tmp 29)⟩, ⟨(some 32), none, .indexAddr 43 (.tmp 27) (.tmp 29)⟩, ⟨(some 33), none, .load 3 (.tmp 32)⟩, ⟨(some 9), none, .assign (.tmp 31)⟩, ⟨(some 10), none, .assign (.tmp 33)⟩]) (.seq (.region [⟨(some 34), none, .move (.tmp 5)⟩, ⟨(some 35), none, .move (.tmp 9)⟩, ⟨(some 36), none, .indexAddr 43 (.tmp 34) (.tmp 35)⟩, ⟨(some 37), none, .load 3 (.tmp 36)⟩, ⟨(some 38), none, .binOp .sub 3 (.tmp 37) (.const (.int .i64 1)) 3⟩, ⟨(some 11), none, .assign (.tmp 38)⟩]) (.block 2 (.loop (.seq .weak (.seq (.seq (.region [⟨(some 39), none, .move (.tmp 11)⟩, ⟨(some 40), none, .binOp .geq 3 (.tmp 39) (.const (.int .i64 0)) 3⟩]) (.cond (.tmp 40) (.skip) (.exit 2))) (.seq (.block 3 (.region [⟨(some 43), none, .move (.tmp 8)⟩, ⟨(some 44), none, .move (.tmp 10)⟩, ⟨(some 45), none, .move (.tmp 11)⟩, ⟨(some 46), none, .binOp .mul 3 (.const (.int .i64 8)) (.tmp 45) 3⟩, ⟨(some 47), none, .binOp .shr 3 (.tmp 44) (.tmp 46) 3⟩, ⟨(some 48), none, .convert 3 5 (.tmp 47)⟩, ⟨(some 49), none, .buildSlice 101 1 #[(0, .tmp 48)]⟩, ⟨(some 50), none, .call ⟨.builtin .append, #[.tmp 43, .tmp 49], #[101, 101]⟩⟩, ⟨(some 8), none, .assign (.tmp 50)⟩])) (.region [⟨(some 41), none, .move (.tmp 11)⟩, ⟨(some 42), none, .binOp .sub 3 (.tmp 41) (.const (.int .i64 1)) 3⟩, ⟨(some 11), none, .assign (.tmp 42)⟩]))))))))) (.region [⟨(some 51), none, .binOp .add 3 (.tmp 29) (.const (.int .i64 1)) 3⟩, ⟨(some 29), none, .move (.tmp 51)⟩])))))))) (.seq (.region [⟨(some 52), none, .move (.tmp 8)⟩, ⟨(some 53), none, .convert 101 9 (.tmp 52)⟩, ⟨(some 4), none, .assign (.tmp 53)⟩]) (.ret))))))
noncomputable def l_pack_Put : List (Nat × Con) := [(64, c_pack_sizes)]
noncomputable abbrev K_pack_Put : Ctx := ctx (cl l_pack_Put)
theorem geq_pack_Put : gof K_pack_Put Tryz.f34 = some G_pack_Put.strip := by kernel_rfl
theorem sys_pack_Put : Go.Eng.Sys Tryz.prog K_pack_Put := sys_of' ⟨ok_pack_sizes, trivial⟩
theorem hm_pack_Put : ConMono K_pack_Put := conMono_of sys_pack_Put.con
noncomputable def k_pack_Put_pack_sizes := PLift.up (call_fn (C := K_pack_Put) (f := 64) (A := A_pack_sizes) (p := p_pack_sizes) (r := r_pack_sizes) rfl)
def A_pack_Put := Arms.cons (argT (List UInt8)) (Arms.cons (argT (List Int)) Arms.nil)
def p_pack_Put (x : List UInt8 × List Int × Unit) : Prop := x.1.length ≤ 1099511627776 ∧ x.2.1.length ≤ 1099511627776
def r_pack_Put (x : List UInt8 × List Int × Unit) : AV := .t (.str (putF x.1 x.2.1))

theorem shr_byt (n : Int) {m : Nat} (h1 : 1 ≤ m) (h4 : m ≤ 4) : IntKind.u8.wrap (n.fdiv (2 ^ min (8 * ((m : Int) - 1)).toNat IntKind.i64.bits)) = ((byt (n / 2 ^ (8 * (m - 1)))).toNat : Int) := by
  rw [byt_nat, u8_wrap]
  have e : min (8 * ((m : Int) - 1)).toNat IntKind.i64.bits = 8 * (m - 1) := by
    have : IntKind.i64.bits = 64 := rfl
    omega
  rw [e, Int.fdiv_eq_ediv_of_nonneg]
  exact Int.le_of_lt (Int.pow_pos (by decide))

theorem map_v (l : List UInt8) : (l.map Byt.mk).map Byt.v = l := by induction l with | nil => rfl | cons a r ih => simp only [List.map_cons, ih]

theorem body_pack_Put (x : List UInt8 × List Int × Unit) (hp : p_pack_Put x) : avp K_pack_Put G_pack_Put (Ret K_pack_Put [.tmp 4] fun v _ => v = r_pack_Put x) (entry (A_pack_Put.enc x) .empty) := by
  obtain ⟨s, l, ⟨⟩⟩ := x
  change s.length ≤ 1099511627776 ∧ l.length ≤ 1099511627776 at hp
  obtain ⟨hs, hl⟩ := hp
  change avp _ _ (Ret _ _ fun v _ => v = .t (.str (putF s l))) (entry [.t (.str s), .t (sl l)] .empty)
  unfold G_pack_Put
  by_cases hk : formOk s = true
  case neg =>
    have hk' : formOk s = false := by cases h : formOk s with | true => exact absurd h hk | false => rfl
    simp only [vP.down, vS.down, vE.down, Nat.reduceEqDiff, Nat.reduceAdd, Nat.reduceSub, Nat.reduceMul, Nat.reduceLeDiff, Nat.reduceLT, Int.reduceToNat, reduceIte, reduceCtorEq, Int.reduceEq, Int.reduceLT, Int.reduceLE, ↓avp_condG, ↓tf_arrow, ↓ft_arrow, hk', k_pack_Put_pack_sizes.down, A_pack_sizes, p_pack_sizes, r_pack_sizes]
    refine ⟨hs, ?_⟩
    simp only [vP.down, vS.down, vE.down, Nat.reduceEqDiff, Nat.reduceAdd, Nat.reduceSub, Nat.reduceMul, Nat.reduceLeDiff, Nat.reduceLT, Int.reduceToNat, reduceIte, reduceCtorEq, Int.reduceEq, Int.reduceLT, Int.reduceLE, ↓avp_condG, ↓tf_arrow, ↓ft_arrow, vT.down]
    rw [putF, if_neg (fun ⟨_, h⟩ => hk h)]
  simp only [vP.down, vS.down, vE.down, Nat.reduceEqDiff, Nat.reduceAdd, Nat.reduceSub, Nat.reduceMul, Nat.reduceLeDiff, Nat.reduceLT, Int.reduceToNat, reduceIte, reduceCtorEq, Int.reduceEq, Int.reduceLT, Int.reduceLE, ↓avp_condG, ↓tf_arrow, ↓ft_arrow, hk, k_pack_Put_pack_sizes.down, A_pack_sizes, p_pack_sizes, r_pack_sizes]
  refine ⟨hs, fun hbad => ?_, fun hgood => ?_⟩
  · simp only [vP.down, vS.down, vE.down, Nat.reduceEqDiff, Nat.reduceAdd, Nat.reduceSub, Nat.reduceMul, Nat.reduceLeDiff, Nat.reduceLT, Int.reduceToNat, reduceIte, reduceCtorEq, Int.reduceEq, Int.reduceLT, Int.reduceLE, ↓avp_condG, ↓tf_arrow, ↓ft_arrow, vT.down]
    have : ¬ (s.length = l.length ∧ formOk s = true) := fun ⟨h1, h2⟩ => hbad (by rw [szL, if_pos h2, digs_len, h1])
    rw [putF, if_neg this]
  · have hok := hk
    have hlen : ((szL s).length : Int) = (l.length : Int) := hgood
    have hsz : szL s = digs s := by rw [szL, if_pos hok]
    rw [hsz, digs_len] at hlen
    have hlen : s.length = l.length := by omega
    simp only [hsz]
    refine loop_weak hm_pack_Put (fun k σ => ∃ (j : Nat) (x : AV) (S : Store), k = l.length - j ∧ j ≤ l.length ∧ LV S x ((flat ((digs s).take j) (l.take j)).map Byt.mk) ∧
      σ = mkS [(5, .t (sl (digs s))), (8, x), (27, .t (sl l)), (28, .t (.int .i64 l.length)), (29, .t (.int .i64 (j : Nat)))] S)
      ⟨0, .t .nilS, .empty, rfl, by omega, lv_nil, rfl⟩ (wk_to fewer_refl (by simp only [vP.down, vS.down, vE.down, Nat.reduceEqDiff, Nat.reduceAdd, Nat.reduceSub, Nat.reduceMul, Nat.reduceLeDiff, Nat.reduceLT, Int.reduceToNat, reduceIte, reduceCtorEq, Int.reduceEq, Int.reduceLT, Int.reduceLE, ↓avp_condG, ↓tf_arrow, ↓ft_arrow, wP.down, Int.natCast_zero])) ?_
    rintro k _ ⟨j, x, S, rfl, hj, hx, rfl⟩
    simp only [vP.down, vS.down, vE.down, Nat.reduceEqDiff, Nat.reduceAdd, Nat.reduceSub, Nat.reduceMul, Nat.reduceLeDiff, Nat.reduceLT, Int.reduceToNat, reduceIte, reduceCtorEq, Int.reduceEq, Int.reduceLT, Int.reduceLE, ↓avp_condG, ↓tf_arrow, ↓ft_arrow]
    refine ⟨fun hlt => ?_, fun hge => ?_⟩
    · have hjl : j < l.length := by omega
      obtain ⟨w, hw, hw1, hw4⟩ := digs_at hok (i := j) (by omega)
      have hwd : (digs s).getD j default = (w : Int) := hw
      have hw1' : IntKind.i64.wrap ((w : Int) - 1) = (w : Int) - 1 := IntWalk.i64_in _ (by omega)
      simp only [hwd, hw1']
      refine ⟨by omega, by rw [digs_len]; omega, ?_⟩
      generalize hn : l.getD j default = n
      have hfl := flat_len hok l hlen j (by omega)
      refine loop_weak hm_pack_Put (fun k σ => ∃ (x : AV) (S : Store), k ≤ w ∧ LV S x ((flat ((digs s).take j) (l.take j) ++ be (w - k) (n / 2 ^ (8 * k))).map Byt.mk) ∧
        σ = mkS [(5, .t (sl (digs s))), (8, x), (10, .t (.int .i64 n)), (11, .t (.int .i64 ((k : Int) - 1))), (27, .t (sl l)), (28, .t (.int .i64 l.length)), (29, .t (.int .i64 (j : Nat)))] S)
        (k₀ := w) ⟨x, S, Nat.le_refl _, by simpa [be] using hx, rfl⟩ (wk_to fewer_refl (by simp only [vP.down, vS.down, vE.down, Nat.reduceEqDiff, Nat.reduceAdd, Nat.reduceSub, Nat.reduceMul, Nat.reduceLeDiff, Nat.reduceLT, Int.reduceToNat, reduceIte, reduceCtorEq, Int.reduceEq, Int.reduceLT, Int.reduceLE, ↓avp_condG, ↓tf_arrow, ↓ft_arrow, wP.down, hn])) ?_
      rintro m _ ⟨x, S, hm, hx, rfl⟩
      simp only [vP.down, vS.down, vE.down, Nat.reduceEqDiff, Nat.reduceAdd, Nat.reduceSub, Nat.reduceMul, Nat.reduceLeDiff, Nat.reduceLT, Int.reduceToNat, reduceIte, reduceCtorEq, Int.reduceEq, Int.reduceLT, Int.reduceLE, ↓avp_condG, ↓tf_arrow, ↓ft_arrow]
      refine ⟨fun hpos => ?_, fun hneg => ?_⟩
      · have hm8 : IntKind.i64.wrap (8 * ((m : Int) - 1)) = 8 * ((m : Int) - 1) := IntWalk.i64_in _ (by omega)
        have hmm : IntKind.i64.wrap ((m : Int) - 1 - 1) = ((m - 1 : Nat) : Int) - 1 := by rw [IntWalk.i64_in _ (by omega)]; omega
        have hb := shr_byt n (m := m) (by omega) (by omega)
        simp only [hm8, hb, hmm]
        refine ⟨by omega, fun g hg => ?_⟩
        refine append_lv ty_Luint8 ty_uint8 rfl (by decide) (hx.fresh hg) (shows_one (x := ⟨byt (n / 2 ^ (8 * (m - 1)))⟩) rfl rfl rfl) (by simp [be_len]; omega) (by simp [be_len]; omega) fun v S' hv _ _ => ?_
        refine round_to (m - 1) [(5, .t (sl (digs s))), (8, v), (10, .t (.int .i64 n)), (11, .t (.int .i64 (((m - 1 : Nat) : Int) - 1))), (27, .t (sl l)), (28, .t (.int .i64 l.length)), (29, .t (.int .i64 (j : Nat)))] S' (by omega) fewer_refl (by simp only [vP.down, vS.down, vE.down, Nat.reduceEqDiff, Nat.reduceAdd, Nat.reduceSub, Nat.reduceMul, Nat.reduceLeDiff, Nat.reduceLT, Int.reduceToNat, reduceIte, reduceCtorEq, Int.reduceEq, Int.reduceLT, Int.reduceLE, ↓avp_condG, ↓tf_arrow, ↓ft_arrow, wP.down])
          ⟨v, S', by omega, ?_, rfl⟩
        rw [be_step n (by omega) hm, ← List.append_assoc, List.map_append]
        exact hv
      · obtain rfl : m = 0 := by omega
        have hj1 : IntKind.i64.wrap ((j : Int) + 1) = ((j + 1 : Nat) : Int) := by rw [IntWalk.i64_in _ (by omega)]; rfl
        refine round_to (l.length - (j + 1)) [(5, .t (sl (digs s))), (8, x), (27, .t (sl l)), (28, .t (.int .i64 l.length)), (29, .t (.int .i64 (j + 1 : Nat)))] S (by omega) fewer_refl (by simp only [vP.down, vS.down, vE.down, Nat.reduceEqDiff, Nat.reduceAdd, Nat.reduceSub, Nat.reduceMul, Nat.reduceLeDiff, Nat.reduceLT, Int.reduceToNat, reduceIte, reduceCtorEq, Int.reduceEq, Int.reduceLT, Int.reduceLE, ↓avp_condG, ↓tf_arrow, ↓ft_arrow, wP.down, hj1])
          ⟨j + 1, x, S, rfl, by omega, ?_, rfl⟩
        rw [flat_step (by rw [digs_len]; omega) hjl hw]
        have : l.getD j 0 = n := hn
        rw [this]
        simpa using hx
    · obtain rfl : j = l.length := by omega
      simp only [vP.down, vS.down, vE.down, Nat.reduceEqDiff, Nat.reduceAdd, Nat.reduceSub, Nat.reduceMul, Nat.reduceLeDiff, Nat.reduceLT, Int.reduceToNat, reduceIte, reduceCtorEq, Int.reduceEq, Int.reduceLT, Int.reduceLE, ↓avp_condG, ↓tf_arrow, ↓ft_arrow, conv_lv ty_Luint8 ty_string ty_uint8 hx, vT.down]
      rw [map_v, putF, if_pos ⟨hlen, hok⟩, List.take_length, ← hlen, ← digs_len s, List.take_length]
noncomputable def c_pack_Put : Con := fnScal A_pack_Put p_pack_Put r_pack_Put
theorem ok_pack_Put : COk Tryz.prog 34 c_pack_Put := fn_sok sys_pack_Put mixed Tryz.func34 (by kernel_rfl) geq_pack_Put Tryz.ntmps34 (by rw [Tryz.results34]) (fun x => by unfold r_pack_Put; simp [AV.scal]) fun x hx => ⟨Nat.le_of_ble_eq_true rfl, body_pack_Put x hx⟩
end Go.Proofs.YtenckbcdfdmckaaGreatDoor


namespace Go.Proofs.YtenckbcdfdmckaaGreatDoor
open Go Go.Eng
set_option maxRecDepth 100000
def num (b : List UInt8) : Int := b.foldl (fun v c => v * 256 + (c.toNat : Int)) 0
def takeN : List Int → List UInt8 → List Int
  | [], _ => []
  | w :: ws, s => num (s.take w.toNat) :: takeN ws (s.drop w.toNat)
def takeOk (form s : List UInt8) : Bool := formOk form && decide ((digs form).sum ≤ (s.length : Int))
def takeL (form s : List UInt8) : List Int := if takeOk form s then takeN (digs form) s else []
def takeR (form s : List UInt8) : List UInt8 := if takeOk form s then s.drop (digs form).sum.toNat else []

theorem num_snoc (b : List UInt8) (c : UInt8) : num (b ++ [c]) = num b * 256 + (c.toNat : Int) := by simp [num]
theorem num_step {b : List UInt8} {i : Nat} (h : i < b.length) : num (b.take (i + 1)) = num (b.take i) * 256 + ((b.getD i 0).toNat : Int) := by
  rw [take_step h, num_snoc]
theorem num_bd : ∀ (n : Nat) (b : List UInt8), b.length = n → 0 ≤ num b ∧ num b < 256 ^ n
  | 0, b, h => by
    obtain rfl := List.length_eq_zero_iff.1 h
    simp [num]
  | n + 1, b, h => by
    have hb : b = b.take n ++ [b.getD n 0] := by rw [← take_step (by omega), ← h, List.take_length]
    have := num_bd n (b.take n) (by simp; omega)
    rw [hb, num_snoc]
    have hc := (b.getD n 0).toNat_lt
    rw [Int.pow_succ]
    omega

theorem takeN_len : ∀ (ws : List Int) (s : List UInt8), (takeN ws s).length = ws.length
  | [], _ => rfl
  | _ :: ws, s => by simp [takeN, takeN_len ws]

theorem takeN_snoc : ∀ (ws : List Int) (w : Int) (s : List UInt8), (∀ x ∈ ws, 0 ≤ x) → takeN (ws ++ [w]) s = takeN ws s ++ [num ((s.drop ws.sum.toNat).take w.toNat)]
  | [], w, s, _ => by simp [takeN]
  | a :: ws, w, s, h => by
    have h0 : 0 ≤ a := h a (by simp)
    have hs : 0 ≤ ws.sum := by
      have : ∀ l : List Int, (∀ x ∈ l, 0 ≤ x) → 0 ≤ l.sum := by
        intro l
        induction l with
        | nil => intro _; simp
        | cons b r ih => intro hl; have := ih fun x hx => hl x (by simp [hx]); have := hl b (by simp); simp only [List.sum_cons]; omega
      exact this ws fun x hx => h x (by simp [hx])
    simp only [List.cons_append, takeN]
    rw [takeN_snoc ws w _ fun x hx => h x (by simp [hx]), List.sum_cons, List.drop_drop]
    rw [show a.toNat + ws.sum.toNat = (a + ws.sum).toNat from by omega]

theorem digs_nonneg {s : List UInt8} (h : formOk s = true) : ∀ x ∈ digs s, 0 ≤ x := by
  intro x hx
  simp only [digs, List.mem_map] at hx
  obtain ⟨c, hc, rfl⟩ := hx
  unfold formOk at h
  rw [List.all_eq_true] at h
  have := h c hc
  simp only [digOk, Bool.and_eq_true, decide_eq_true_eq] at this
  omega

theorem formOk_sub {s : List UInt8} (h : formOk s = true) (j : Nat) : formOk (s.take j) = true := by
  unfold formOk at *
  rw [List.all_eq_true] at *
  exact fun x hx => h x (List.mem_of_mem_take hx)

theorem digs_sum_take {s : List UInt8} (h : formOk s = true) (j : Nat) : (digs (s.take j)).sum ≤ (digs s).sum := by
  have e : digs s = digs (s.take j) ++ digs (s.drop j) := by rw [digs, digs, digs, ← List.map_append, List.take_append_drop]
  rw [e, List.sum_append]
  have h2 : formOk (s.drop j) = true := by
    unfold formOk at *
    rw [List.all_eq_true] at *
    exact fun x hx => h x (List.mem_of_mem_drop hx)
  have := (digs_sum _ h2).1
  omega

/-- A byte more. -/
theorem shl_or {n c : Int} (h0 : 0 ≤ n) (h1 : n < 16777216) (c0 : 0 ≤ c) (c1 : c < 256) :
    IntKind.i64.wrap ((BitVec.ofInt IntKind.i64.bits (IntKind.i64.wrap (n * 2 ^ min 8 IntKind.i64.bits)) ||| BitVec.ofInt IntKind.i64.bits (IntKind.i64.wrap c)).toNat : Int) = n * 256 + c := by
  obtain ⟨a, rfl⟩ := Int.eq_ofNat_of_zero_le h0
  obtain ⟨b, rfl⟩ := Int.eq_ofNat_of_zero_le c0
  have e1 : (a : Int) * 2 ^ min 8 IntKind.i64.bits = ((a * 256 : Nat) : Int) := by
    have : min 8 IntKind.i64.bits = 8 := rfl
    rw [this]; simp
  rw [e1, IntWalk.i64_in ((a * 256 : Nat) : Int) (by omega), IntWalk.i64_in (b : Int) (by omega)]
  have e2 : (BitVec.ofInt IntKind.i64.bits ((a * 256 : Nat) : Int) ||| BitVec.ofInt IntKind.i64.bits (b : Int)).toNat = a * 256 + b := by
    rw [BitVec.toNat_or, BitVec.ofInt_natCast, BitVec.ofInt_natCast, BitVec.toNat_ofNat, BitVec.toNat_ofNat]
    have : IntKind.i64.bits = 64 := rfl
    rw [this, Nat.mod_eq_of_lt (by omega), Nat.mod_eq_of_lt (by omega)]
    have := Nat.shiftLeft_add_eq_or_of_lt (show b < 2 ^ 8 by omega) a
    rw [Nat.shiftLeft_eq] at this
    exact this.symm
  rw [e2, IntWalk.i64_in _ (by omega)]
  omega
end Go.Proofs.YtenckbcdfdmckaaGreatDoor


namespace Go.Proofs.YtenckbcdfdmckaaGreatDoor
open Go Go.Eng
set_option maxRecDepth 100000
def G_pack_Take : GCode := .seq (.region [⟨(some 4), none, .assign (.const (.slice none 0 0))⟩, ⟨(some 5), none, .assign (.const (.string ⟨#[]⟩))⟩, ⟨(some 6), none, .assign (.const (.bool false))⟩]) (.seq (.region [⟨(some 15), none, .move (.tmp 0)⟩, ⟨(some 16), none, .call ⟨.value (.func 64), #[.tmp 15], #[9]⟩⟩, ⟨(some 14), none, .move (.tmp 16)⟩, ⟨(some 17), none, .extract (.tmp 14) 0⟩, ⟨(some 18), none, .extract (.tmp 14) 1⟩, ⟨(some 19), none, .extract (.tmp 14) 2⟩, ⟨(some 7), none, .assign (.tmp 17)⟩, ⟨(some 8), none, .assign (.tmp 18)⟩, ⟨(some 6), none, .assign (.tmp 19)⟩]) (.seq (.seq (.region [⟨(some 20), none, .move (.tmp 6)⟩, ⟨(some 21), none, .unOp .not 4 (.tmp 20)⟩, ⟨(some 22), none, .move (.tmp 21)⟩, ⟨(some 23), (some (22, false)), .move (.tmp 1)⟩, ⟨(some 24), (some (22, false)), .call ⟨.builtin .len, #[.tmp 23], #[9]⟩⟩, ⟨(some 25), (some (22, false)), .move (.tmp 8)⟩, ⟨(some 26), (some (22, false)), .binOp .lss 3 (.tmp 24) (.tmp 25) 3⟩, ⟨(some 27), none, .pick (.tmp 22) (.const (.bool true)) (.tmp 26)⟩]) (.cond (.tmp 27) (.seq (.region [⟨(some 4), none, .assign (.const (.slice none 0 0))⟩, ⟨(some 5), none, .assign (.const (.string ⟨#[]⟩))⟩, ⟨(some 6), none, .assign (.const (.bool false))⟩]) (.ret)) (.skip))) (.seq (.seq (.region [⟨(some 28), none, .move (.tmp 7)⟩, ⟨(some 29), none, .call ⟨.builtin .len, #[.tmp 28], #[43]⟩⟩, ⟨(some 30), none, .move (.const (.int .i64 0))⟩]) (.block 0 (.loop (.seq .weak (.seq (.region [⟨(some 31), none, .binOp .lss 3 (.tmp 30) (.tmp 29) 3⟩]) (.seq (.cond (.tmp 31) (.skip) (.exit 0)) (.seq (.block 1 (.seq (.region [⟨(some 32), none, .indexAddr 43 (.tmp 28) (.tmp 30)⟩, ⟨(some 33), none, .load 3 (.tmp 32)⟩, ⟨(some 10), none, .assign (.tmp 33)⟩]) (.seq (.region [⟨(some 11), none, .assign (.const (.int .i64 0))⟩]) (.seq (.seq (.region [⟨(some 34), none, .move (.tmp 1)⟩, ⟨(some 35), none, .move (.tmp 10)⟩, ⟨(some 36), none, .slice 9 (.tmp 34) none (some (.tmp 35)) none⟩, ⟨(some 37), none, .convert 9 101 (.tmp 36)⟩, ⟨(some 38), none, .call ⟨.builtin .len, #[.tmp 37], #[101]⟩⟩, ⟨(some 39), none, .move (.const (.int .i64 0))⟩]) (.block 2 (.loop (.seq .weak (.seq (.region [⟨(some 40), none, .binOp .lss 3 (.tmp 39) (.tmp 38) 3⟩]) (.seq (.cond (.tmp 40) (.skip) (.exit 2)) (.seq (.block 3 (.seq (.region [⟨(some 41), none, .indexAddr 101 (.tmp 37) (.tmp 39)⟩, ⟨(some 42), none, .load 5 (.tmp 41)⟩, ⟨(some 13), none, .assign (.tmp 42)⟩]) (.region [⟨(some 43), none, .move (.tmp 11)⟩, ⟨(some 44), none, .binOp .shl 3 (.tmp 43) (.const (.int .u64 8)) 170⟩, ⟨(some 45), none, .move (.tmp 13)⟩, ⟨(some 46), none, .convert 5 3 (.tmp 45)⟩, ⟨(some 47), none, .binOp .or 3 (.tmp 44) (.tmp 46) 3⟩, ⟨(some 11), none, .assign (.tmp 47)⟩]))) (.region [⟨(some 48), none, .binOp .add 3 (.tmp 39) (.const (.int .i64 1)) 3⟩, ⟨(some 39), none, .move (.tmp 48)⟩])))))))) (.region [⟨(some 49), none, .move (.tmp 4)⟩, ⟨(some 50), none, .move (.tmp 11)⟩, ⟨(some 51), none, .buildSlice 43 1 #[(0, .tmp 50)]⟩, ⟨(some 52), none, .call ⟨.builtin .append, #[.tmp 49, .tmp 51], #[43, 43]⟩⟩, ⟨(some 53), none, .move (.tmp 1)⟩, ⟨(some 54), none, .move (.tmp 10)⟩, ⟨(some 55), none, .slice 9 (.tmp 53) (some (.tmp 54)) none none⟩, ⟨(some 4), none, .assign (.tmp 52)⟩, ⟨(some 1), none, .assign (.tmp 55)⟩]))))) (.region [⟨(some 56), none, .binOp .add 3 (.tmp 30) (.const (.int .i64 1)) 3⟩, ⟨(some 30), none, .move (.tmp 56)⟩])))))))) (.seq (.region [⟨(some 57), none, .move (.tmp 4)⟩, ⟨(some 58), none, .move (.tmp 1)⟩, ⟨(some 4), none, .assign (.tmp 57)⟩, ⟨(some 5), none, .assign (.tmp 58)⟩, ⟨(some 6), none, .assign (.const (.bool true))⟩]) (.ret)))))
noncomputable def l_pack_Take : List (Nat × Con) := [(64, c_pack_sizes)]
noncomputable abbrev K_pack_Take : Ctx := ctx (cl l_pack_Take)
theorem geq_pack_Take : gof K_pack_Take Tryz.f251 = some G_pack_Take.strip := by kernel_rfl
theorem sys_pack_Take : Go.Eng.Sys Tryz.prog K_pack_Take := sys_of' ⟨ok_pack_sizes, trivial⟩
theorem hm_pack_Take : ConMono K_pack_Take := conMono_of sys_pack_Take.con
noncomputable def k_pack_Take_pack_sizes := PLift.up (call_fn (C := K_pack_Take) (f := 64) (A := A_pack_sizes) (p := p_pack_sizes) (r := r_pack_sizes) rfl)
def A_pack_Take := Arms.cons (argT (List UInt8)) (Arms.cons (argT (List UInt8)) Arms.nil)
def p_pack_Take (x : List UInt8 × List UInt8 × Unit) : Prop := x.1.length ≤ 1099511627776 ∧ x.2.1.length ≤ 1099511627776
def r_pack_Take (x : List UInt8 × List UInt8 × Unit) : AV := .tup [.t (sl (takeL x.1 x.2.1)), .t (.str (takeR x.1 x.2.1)), .t (.bool (takeOk x.1 x.2.1))]

theorem take_next_sum {s : List UInt8} {j w : Nat} (hj : j < s.length) (h : (digs s).getD j 0 = (w : Int)) : (digs (s.take (j + 1))).sum = (digs (s.take j)).sum + w := by
  have : dig (s.getD j 0) = (w : Int) := by
    simp [digs, List.getD_eq_getElem?_getD, hj] at h ⊢
    exact h
  rw [digs_take hj, List.sum_append, List.sum_singleton, this]

theorem body_pack_Take (x : List UInt8 × List UInt8 × Unit) (hp : p_pack_Take x) : avp K_pack_Take G_pack_Take (Ret K_pack_Take [.tmp 4, .tmp 5, .tmp 6] fun v s' => Frz s' v (r_pack_Take x)) (entry (A_pack_Take.enc x) .empty) := by
  obtain ⟨f, s, ⟨⟩⟩ := x
  change f.length ≤ 1099511627776 ∧ s.length ≤ 1099511627776 at hp
  obtain ⟨hf, hs⟩ := hp
  change avp _ _ (Ret _ _ fun v s' => Frz s' v (.tup [.t (sl (takeL f s)), .t (.str (takeR f s)), .t (.bool (takeOk f s))])) (entry [.t (.str f), .t (.str s)] .empty)
  unfold G_pack_Take
  by_cases hk : formOk f = true
  case neg =>
    have hk' : formOk f = false := by cases h : formOk f with | true => exact absurd h hk | false => rfl
    have hz : takeOk f s = false := by unfold takeOk; rw [hk']; rfl
    simp only [vP.down, vS.down, vE.down, Nat.reduceEqDiff, Nat.reduceAdd, Nat.reduceSub, Nat.reduceMul, Nat.reduceLeDiff, Nat.reduceLT, Int.reduceToNat, reduceIte, reduceCtorEq, Int.reduceEq, Int.reduceLT, Int.reduceLE, ↓avp_condG, ↓tf_arrow, ↓ft_arrow, hk', k_pack_Take_pack_sizes.down, A_pack_sizes, p_pack_sizes, r_pack_sizes]
    refine ⟨hf, ?_⟩
    simp only [vP.down, vS.down, vE.down, Nat.reduceEqDiff, Nat.reduceAdd, Nat.reduceSub, Nat.reduceMul, Nat.reduceLeDiff, Nat.reduceLT, Int.reduceToNat, reduceIte, reduceCtorEq, Int.reduceEq, Int.reduceLT, Int.reduceLE, ↓avp_condG, ↓tf_arrow, ↓ft_arrow, vT.down]
    simp only [takeL, takeR, hz, Bool.false_eq_true, if_false, frz1_nilS, frz1_t, and_self]
  simp only [vP.down, vS.down, vE.down, Nat.reduceEqDiff, Nat.reduceAdd, Nat.reduceSub, Nat.reduceMul, Nat.reduceLeDiff, Nat.reduceLT, Int.reduceToNat, reduceIte, reduceCtorEq, Int.reduceEq, Int.reduceLT, Int.reduceLE, ↓avp_condG, ↓tf_arrow, ↓ft_arrow, hk, k_pack_Take_pack_sizes.down, A_pack_sizes, p_pack_sizes, r_pack_sizes]
  refine ⟨hf, fun hbad => ?_, fun hgood => ?_⟩
  · simp only [vP.down, vS.down, vE.down, Nat.reduceEqDiff, Nat.reduceAdd, Nat.reduceSub, Nat.reduceMul, Nat.reduceLeDiff, Nat.reduceLT, Int.reduceToNat, reduceIte, reduceCtorEq, Int.reduceEq, Int.reduceLT, Int.reduceLE, ↓avp_condG, ↓tf_arrow, ↓ft_arrow, vT.down]
    have : takeOk f s = false := by
      unfold takeOk
      rw [szN, if_pos hk] at hbad
      simp only [Bool.and_eq_false_imp, decide_eq_false_iff_not]
      intro _; omega
    simp only [takeL, takeR, this, Bool.false_eq_true, if_false, frz1_nilS, frz1_t, and_self]
  · have hok := hk
    have hlen : ¬ ((s.length : Int) < szN f) := hgood
    have hsz : szL f = digs f := by rw [szL, if_pos hok]
    rw [szN, if_pos hok] at hlen
    have hT : takeOk f s = true := by
      unfold takeOk; rw [hok]; simp; omega
    simp only [hsz]
    refine loop_weak hm_pack_Take (fun k σ => ∃ (j : Nat) (x : AV) (S : Store), k = f.length - j ∧ j ≤ f.length ∧ LV S x (takeN (digs (f.take j)) s) ∧
      σ = mkS [(1, .t (.str (s.drop (digs (f.take j)).sum.toNat))), (4, x), (28, .t (sl (digs f))), (29, .t (.int .i64 f.length)), (30, .t (.int .i64 (j : Nat)))] S)
      ⟨0, .t .nilS, .empty, rfl, by omega, lv_nil, rfl⟩ (wk_to fewer_refl (by simp only [vP.down, vS.down, vE.down, Nat.reduceEqDiff, Nat.reduceAdd, Nat.reduceSub, Nat.reduceMul, Nat.reduceLeDiff, Nat.reduceLT, Int.reduceToNat, reduceIte, reduceCtorEq, Int.reduceEq, Int.reduceLT, Int.reduceLE, ↓avp_condG, ↓tf_arrow, ↓ft_arrow, wP.down, digs_len, List.take_zero, digs, List.length_map, List.sum_nil, Int.toNat_zero, Int.natCast_zero])) ?_
    rintro k _ ⟨j, x, S, rfl, hj, hx, rfl⟩
    simp only [vP.down, vS.down, vE.down, Nat.reduceEqDiff, Nat.reduceAdd, Nat.reduceSub, Nat.reduceMul, Nat.reduceLeDiff, Nat.reduceLT, Int.reduceToNat, reduceIte, reduceCtorEq, Int.reduceEq, Int.reduceLT, Int.reduceLE, ↓avp_condG, ↓tf_arrow, ↓ft_arrow]
    refine ⟨fun hlt => ?_, fun hge => ?_⟩
    · have hjl : j < f.length := by omega
      obtain ⟨w, hw, hw1, hw4⟩ := digs_at hok (i := j) hjl
      have hwd : (digs f).getD j default = (w : Int) := hw
      have hs1 := take_next_sum hjl hw
      have hs2 := digs_sum_take hok (j + 1)
      have hs0 := (digs_sum _ (formOk_sub hok j)).1
      simp only [hwd]
      generalize hb : s.drop (digs (f.take j)).sum.toNat = b
      have hbl : w ≤ b.length := by rw [← hb, List.length_drop]; omega
      have hbl2 : b.length ≤ s.length := by rw [← hb, List.length_drop]; omega
      have hdl := digs_len f
      ((repeat' with_reducible refine And.intro ?_ ?_) <;> try (first | omega | (simp only [List.length_take, List.length_drop, List.length_append, List.length_map, List.length_replicate] <;> omega)))
      refine fun g hg => ?_
      have hbt : (b.take w).length = w := by simp; omega
      refine loop_weak hm_pack_Take (fun k σ => ∃ (i : Nat), k = w - i ∧ i ≤ w ∧
        σ = mkS [(1, .t (.str b)), (4, x), (10, .t (.int .i64 w)), (11, .t (.int .i64 (num ((b.take w).take i)))), (28, .t (sl (digs f))), (29, .t (.int .i64 f.length)), (30, .t (.int .i64 (j : Nat))),
          (37, .t (sl ((b.take w).map Byt.mk))), (38, .t (.int .i64 w)), (39, .t (.int .i64 (i : Nat)))] S)
        ⟨0, rfl, by omega, rfl⟩ (wk_to (fewer_fresh hg) (by simp only [vP.down, vS.down, vE.down, Nat.reduceEqDiff, Nat.reduceAdd, Nat.reduceSub, Nat.reduceMul, Nat.reduceLeDiff, Nat.reduceLT, Int.reduceToNat, reduceIte, reduceCtorEq, Int.reduceEq, Int.reduceLT, Int.reduceLE, ↓avp_condG, ↓tf_arrow, ↓ft_arrow, wP.down, w2_bytes' hg hbt, hbt, List.take_zero, num, List.foldl_nil, Int.natCast_zero])) ?_
      rintro m _ ⟨i, rfl, hi, rfl⟩
      simp only [vP.down, vS.down, vE.down, Nat.reduceEqDiff, Nat.reduceAdd, Nat.reduceSub, Nat.reduceMul, Nat.reduceLeDiff, Nat.reduceLT, Int.reduceToNat, reduceIte, reduceCtorEq, Int.reduceEq, Int.reduceLT, Int.reduceLE, ↓avp_condG, ↓tf_arrow, ↓ft_arrow]
      refine ⟨fun hlt2 => ?_, fun hge2 => ?_⟩
      · have hil : i < w := by omega
        have hnb := num_bd i ((b.take w).take i) (by simp; omega)
        have h24 : (256 : Int) ^ i ≤ 16777216 := by
          have : i ≤ 3 := by omega
          rcases (by omega : i = 0 ∨ i = 1 ∨ i = 2 ∨ i = 3) with rfl | rfl | rfl | rfl <;> decide
        have hcb := ((b.take w).getD i 0).toNat_lt
        have ho := shl_or hnb.1 (show num ((b.take w).take i) < 16777216 by omega) (show 0 ≤ (((b.take w).getD i 0).toNat : Int) by omega) (by omega)
        have hns := num_step (b := b.take w) (i := i) (by omega)
        have hi1 : IntKind.i64.wrap ((i : Int) + 1) = ((i + 1 : Nat) : Int) := by rw [IntWalk.i64_in _ (by omega)]; rfl
        ((repeat' with_reducible refine And.intro ?_ ?_) <;> try (first | omega | (simp only [List.length_take, List.length_drop, List.length_append, List.length_map, List.length_replicate] <;> omega)))
        refine round_to (w - (i + 1)) [(1, .t (.str b)), (4, x), (10, .t (.int .i64 w)), (11, .t (.int .i64 (num ((b.take w).take (i + 1))))), (28, .t (sl (digs f))), (29, .t (.int .i64 f.length)), (30, .t (.int .i64 (j : Nat))),
          (37, .t (sl ((b.take w).map Byt.mk))), (38, .t (.int .i64 w)), (39, .t (.int .i64 (i + 1 : Nat)))] S (by omega) fewer_refl (by simp only [vP.down, vS.down, vE.down, Nat.reduceEqDiff, Nat.reduceAdd, Nat.reduceSub, Nat.reduceMul, Nat.reduceLeDiff, Nat.reduceLT, Int.reduceToNat, reduceIte, reduceCtorEq, Int.reduceEq, Int.reduceLT, Int.reduceLE, ↓avp_condG, ↓tf_arrow, ↓ft_arrow, wP.down, hi1, hns, ho]) ⟨i + 1, rfl, by omega, rfl⟩
      · obtain rfl : i = w := by omega
        have hbt2 : (b.take i).take i = b.take i := by rw [List.take_take, Nat.min_self]
        rw [hbt2]
        refine fun g hg => ?_
        refine append_lv ty_Lint ty_int rfl (by decide) (hx.fresh hg) (shows_one (x := num (b.take i)) rfl rfl rfl) (by simp [takeN_len, digs]; omega) (by simp [takeN_len, digs]; omega) fun v S' hv _ _ => ?_
        have hj1 : IntKind.i64.wrap ((j : Int) + 1) = ((j + 1 : Nat) : Int) := by rw [IntWalk.i64_in _ (by omega)]; rfl
        have hdr : s.drop ((digs (f.take j)).sum + (i : Int)).toNat = b.drop i := by
          rw [← hb, List.drop_drop]; congr 1; omega
        have hnt : takeN (digs (f.take (j + 1))) s = takeN (digs (f.take j)) s ++ [num (b.take i)] := by
          have h1 : dig (f.getD j 0) = (i : Int) := by
            simp [digs, List.getD_eq_getElem?_getD, hjl] at hw ⊢
            exact hw
          rw [digs_take hjl, takeN_snoc _ _ _ (digs_nonneg (formOk_sub hok j)), hb, h1, Int.toNat_natCast]
        ((repeat' with_reducible refine And.intro ?_ ?_) <;> try (first | omega | (simp only [List.length_take, List.length_drop, List.length_append, List.length_map, List.length_replicate] <;> omega)))
        refine round_to (f.length - (j + 1)) [(1, .t (.str (s.drop (digs (f.take (j + 1))).sum.toNat))), (4, v), (28, .t (sl (digs f))), (29, .t (.int .i64 f.length)), (30, .t (.int .i64 (j + 1 : Nat)))] S' (by omega) fewer_refl
          (by simp only [vP.down, vS.down, vE.down, Nat.reduceEqDiff, Nat.reduceAdd, Nat.reduceSub, Nat.reduceMul, Nat.reduceLeDiff, Nat.reduceLT, Int.reduceToNat, reduceIte, reduceCtorEq, Int.reduceEq, Int.reduceLT, Int.reduceLE, ↓avp_condG, ↓tf_arrow, ↓ft_arrow, wP.down, hj1, hs1, hdr]) ⟨j + 1, v, S', rfl, by omega, by rw [hnt]; exact hv, rfl⟩
    · obtain rfl : j = f.length := by omega
      rw [List.take_length] at hx
      simp only [vP.down, vS.down, vE.down, Nat.reduceEqDiff, Nat.reduceAdd, Nat.reduceSub, Nat.reduceMul, Nat.reduceLeDiff, Nat.reduceLT, Int.reduceToNat, reduceIte, reduceCtorEq, Int.reduceEq, Int.reduceLT, Int.reduceLE, ↓avp_condG, ↓tf_arrow, ↓ft_arrow, vT.down]
      simp only [takeL, takeR, hT, if_true, List.take_length, frz1_t, and_true]
      exact hx.frz
noncomputable def c_pack_Take : Con := fnCon A_pack_Take p_pack_Take r_pack_Take
theorem ok_pack_Take : COk Tryz.prog 251 c_pack_Take := fn_ok sys_pack_Take mixed Tryz.func251 (by kernel_rfl) geq_pack_Take Tryz.ntmps251 (by rw [Tryz.results251]) fun x hx => ⟨Nat.le_of_ble_eq_true rfl, body_pack_Take x hx⟩
end Go.Proofs.YtenckbcdfdmckaaGreatDoor


namespace Go.Proofs.YtenckbcdfdmckaaGreatDoor
open Go Go.Eng
set_option maxRecDepth 100000
def G_strings_Join : GCode := .seq (.region [⟨(some 4), none, .assign (.const (.string ⟨#[]⟩))⟩]) (.seq (.seq (.region [⟨(some 11), none, .move (.tmp 0)⟩, ⟨(some 12), none, .call ⟨.builtin .len, #[.tmp 11], #[23]⟩⟩]) (.block 0 (.seq (.region [⟨(some 14), none, .binOp .eql 3 (.tmp 12) (.const (.int .i64 0)) 3⟩, ⟨(some 13), none, .assign (.tmp 14)⟩]) (.cond (.tmp 13) (.seq (.region [⟨(some 4), none, .assign (.const (.string ⟨#[]⟩))⟩]) (.ret)) (.seq (.region [⟨(some 16), none, .binOp .eql 3 (.tmp 12) (.const (.int .i64 1)) 3⟩, ⟨(some 15), none, .assign (.tmp 16)⟩]) (.cond (.tmp 15) (.seq (.region [⟨(some 17), none, .move (.tmp 0)⟩, ⟨(some 18), none, .indexAddr 23 (.tmp 17) (.const (.int .i64 0))⟩, ⟨(some 19), none, .load 9 (.tmp 18)⟩, ⟨(some 4), none, .assign (.tmp 19)⟩]) (.ret)) (.skip))))))) (.seq (.region [⟨(some 5), none, .assign (.const (.int .i64 0))⟩]) (.seq (.seq (.region [⟨(some 20), none, .move (.tmp 1)⟩, ⟨(some 21), none, .call ⟨.builtin .len, #[.tmp 20], #[9]⟩⟩, ⟨(some 22), none, .binOp .gtr 3 (.tmp 21) (.const (.int .i64 0)) 3⟩]) (.cond (.tmp 22) (.seq (.seq (.region [⟨(some 23), none, .move (.tmp 1)⟩, ⟨(some 24), none, .call ⟨.builtin .len, #[.tmp 23], #[9]⟩⟩, ⟨(some 25), none, .move (.tmp 0)⟩, ⟨(some 26), none, .call ⟨.builtin .len, #[.tmp 25], #[23]⟩⟩, ⟨(some 27), none, .binOp .sub 3 (.tmp 26) (.const (.int .i64 1)) 3⟩, ⟨(some 28), none, .binOp .quo 3 (.const (.int .i64 9223372036854775807)) (.tmp 27) 3⟩, ⟨(some 29), none, .binOp .geq 3 (.tmp 24) (.tmp 28) 3⟩]) (.cond (.tmp 29) (.region [⟨(some 30), none, .makeInterface 9 (.const (.string ⟨#[115, 116, 114, 105, 110, 103, 115, 58, 32, 74, 111, 105, 110, 32, 111, 117, 116, 112, 117, 116, 32, 108, 101, 110, 103, 116, 104, 32, 111, 118, 101, 114, 102, 108, 111, 119]⟩))⟩, ⟨none, none, .panic (.tmp 30)⟩]) (.skip))) (.region [⟨(some 31), none, .move (.tmp 5)⟩, ⟨(some 32), none, .move (.tmp 1)⟩, ⟨(some 33), none, .call ⟨.builtin .len, #[.tmp 32], #[9]⟩⟩, ⟨(some 34), none, .move (.tmp 0)⟩, ⟨(some 35), none, .call ⟨.builtin .len, #[.tmp 34], #[23]⟩⟩, ⟨(some 36), none, .binOp .sub 3 (.tmp 35) (.const (.int .i64 1)) 3⟩, ⟨(some 37), none, .binOp .mul 3 (.tmp 33) (.tmp 36) 3⟩, ⟨(some 38), none, .binOp .add 3 (.tmp 31) (.tmp 37) 3⟩, ⟨(some 5), none, .assign (.tmp 38)⟩])) (.skip))) (.seq (.seq (.region [⟨(some 39), none, .move (.tmp 0)⟩, ⟨(some 40), none, .call ⟨.builtin .len, #[.tmp 39], #[23]⟩⟩, ⟨(some 41), none, .move (.const (.int .i64 0))⟩]) (.block 1 (.loop (.seq .weak (.seq (.region [⟨(some 42), none, .binOp .lss 3 (.tmp 41) (.tmp 40) 3⟩]) (.seq (.cond (.tmp 42) (.skip) (.exit 1)) (.seq (.block 2 (.seq (.region [⟨(some 43), none, .indexAddr 23 (.tmp 39) (.tmp 41)⟩, ⟨(some 44), none, .load 9 (.tmp 43)⟩, ⟨(some 7), none, .assign (.tmp 44)⟩]) (.seq (.seq (.region [⟨(some 45), none, .move (.tmp 7)⟩, ⟨(some 46), none, .call ⟨.builtin .len, #[.tmp 45], #[9]⟩⟩, ⟨(some 47), none, .move (.tmp 5)⟩, ⟨(some 48), none, .binOp .sub 3 (.const (.int .i64 9223372036854775807)) (.tmp 47) 3⟩, ⟨(some 49), none, .binOp .gtr 3 (.tmp 46) (.tmp 48) 3⟩]) (.cond (.tmp 49) (.region [⟨(some 50), none, .makeInterface 9 (.const (.string ⟨#[115, 116, 114, 105, 110, 103, 115, 58, 32, 74, 111, 105, 110, 32, 111, 117, 116, 112, 117, 116, 32, 108, 101, 110, 103, 116, 104, 32, 111, 118, 101, 114, 102, 108, 111, 119]⟩))⟩, ⟨none, none, .panic (.tmp 50)⟩]) (.skip))) (.region [⟨(some 51), none, .move (.tmp 5)⟩, ⟨(some 52), none, .move (.tmp 7)⟩, ⟨(some 53), none, .call ⟨.builtin .len, #[.tmp 52], #[9]⟩⟩, ⟨(some 54), none, .binOp .add 3 (.tmp 51) (.tmp 53) 3⟩, ⟨(some 5), none, .assign (.tmp 54)⟩])))) (.region [⟨(some 55), none, .binOp .add 3 (.tmp 41) (.const (.int .i64 1)) 3⟩, ⟨(some 41), none, .move (.tmp 55)⟩])))))))) (.seq (.region [⟨(some 8), none, .alloc 176⟩]) (.seq (.region [⟨(some 56), none, .move (.tmp 5)⟩, ⟨(some 57), none, .call ⟨.value (.func 104), #[.tmp 8, .tmp 56], #[176, 3]⟩⟩]) (.seq (.region [⟨(some 58), none, .move (.tmp 0)⟩, ⟨(some 59), none, .indexAddr 23 (.tmp 58) (.const (.int .i64 0))⟩, ⟨(some 60), none, .load 9 (.tmp 59)⟩, ⟨(some 61), none, .call ⟨.value (.func 105), #[.tmp 8, .tmp 60], #[176, 9]⟩⟩]) (.seq (.seq (.region [⟨(some 62), none, .move (.tmp 0)⟩, ⟨(some 63), none, .slice 23 (.tmp 62) (some (.const (.int .i64 1))) none none⟩, ⟨(some 64), none, .call ⟨.builtin .len, #[.tmp 63], #[23]⟩⟩, ⟨(some 65), none, .move (.const (.int .i64 0))⟩]) (.block 3 (.loop (.seq .weak (.seq (.region [⟨(some 66), none, .binOp .lss 3 (.tmp 65) (.tmp 64) 3⟩]) (.seq (.cond (.tmp 66) (.skip) (.exit 3)) (.seq (.block 4 (.seq (.region [⟨(some 67), none, .indexAddr 23 (.tmp 63) (.tmp 65)⟩, ⟨(some 68), none, .load 9 (.tmp 67)⟩, ⟨(some 10), none, .assign (.tmp 68)⟩]) (.seq (.region [⟨(some 69), none, .move (.tmp 1)⟩, ⟨(some 70), none, .call ⟨.value (.func 105), #[.tmp 8, .tmp 69], #[176, 9]⟩⟩]) (.region [⟨(some 71), none, .move (.tmp 10)⟩, ⟨(some 72), none, .call ⟨.value (.func 105), #[.tmp 8, .tmp 71], #[176, 9]⟩⟩])))) (.region [⟨(some 73), none, .binOp .add 3 (.tmp 65) (.const (.int .i64 1)) 3⟩, ⟨(some 65), none, .move (.tmp 73)⟩])))))))) (.seq (.region [⟨(some 74), none, .call ⟨.value (.func 107), #[.tmp 8], #[176]⟩⟩, ⟨(some 4), none, .assign (.tmp 74)⟩]) (.ret))))))))))
noncomputable def l_strings_Join : List (Nat × Con) := []
noncomputable abbrev K_strings_Join : Ctx := ctx (cl l_strings_Join)
theorem geq_strings_Join : gof K_strings_Join Tryz.f101 = some G_strings_Join.strip := by kernel_rfl
theorem sys_strings_Join : Go.Eng.Sys Tryz.prog K_strings_Join := sys_of' (l := []) trivial
theorem hm_strings_Join : ConMono K_strings_Join := conMono_of sys_strings_Join.con
def A_strings_Join := Arms.cons (argT (List (List UInt8))) (Arms.cons (argT (List UInt8)) Arms.nil)
def p_strings_Join (x : List (List UInt8) × List UInt8 × Unit) : Prop := x.1.length = 1
def r_strings_Join (x : List (List UInt8) × List UInt8 × Unit) : AV := .t (.str (x.1.getD 0 default))
theorem body_strings_Join (x : List (List UInt8) × List UInt8 × Unit) (hp : p_strings_Join x) : avp K_strings_Join G_strings_Join (Ret K_strings_Join [.tmp 4] fun v _ => v = r_strings_Join x) (entry (A_strings_Join.enc x) .empty) := by
  obtain ⟨l, s, ⟨⟩⟩ := x
  change l.length = 1 at hp
  change avp _ _ (Ret _ _ fun v _ => v = .t (.str (l.getD 0 default))) (entry [.t (sl l), .t (.str s)] .empty)
  unfold G_strings_Join
  have h1 : ((l.length : Nat) : Int) = 1 := by omega
  have x0 := idx_at (C := K_strings_Join) (l := l) (i := 0) ty_Lstring ty_string rfl (by omega) .i64
  simp only [vP.down, vS.down, vE.down, Nat.reduceEqDiff, Nat.reduceAdd, Nat.reduceSub, Nat.reduceMul, Nat.reduceLeDiff, Nat.reduceLT, Int.reduceToNat, reduceIte, reduceCtorEq, Int.reduceEq, Int.reduceLT, Int.reduceLE, ↓avp_condG, ↓tf_arrow, ↓ft_arrow, h1, x0]
  simp only [vP.down, vS.down, vE.down, Nat.reduceEqDiff, Nat.reduceAdd, Nat.reduceSub, Nat.reduceMul, Nat.reduceLeDiff, Nat.reduceLT, Int.reduceToNat, reduceIte, reduceCtorEq, Int.reduceEq, Int.reduceLT, Int.reduceLE, ↓avp_condG, ↓tf_arrow, ↓ft_arrow, vT.down]
noncomputable def c_strings_Join : Con := fnScal A_strings_Join p_strings_Join r_strings_Join
theorem ok_strings_Join : COk Tryz.prog 101 c_strings_Join := fn_sok sys_strings_Join mixed Tryz.func101 (by kernel_rfl) geq_strings_Join Tryz.ntmps101 (by rw [Tryz.results101]) (fun x => by unfold r_strings_Join; simp [AV.scal]) fun x hx => ⟨Nat.le_of_ble_eq_true rfl, body_strings_Join x hx⟩
end Go.Proofs.YtenckbcdfdmckaaGreatDoor


namespace Go.Proofs.YtenckbcdfdmckaaGreatDoor
open Go Go.Eng
set_option maxRecDepth 100000
def W32 : Nat := 4294967296
/-- The word that some bytes are, the first the lowest. -/
def wdN : List UInt8 → Nat
  | [] => 0
  | c :: r => c.toNat + 256 * wdN r
structure S4 where
  a : Nat
  b : Nat
  c : Nat
  d : Nat
def v1 (s : S4) (w : Nat) : Nat := (s.a + w) % W32
def v2 (s : S4) (w : Nat) : Nat := (s.b + v1 s w) % W32
def v3 (s : S4) (w : Nat) : Nat := (s.c + v2 s w) % W32
def v4 (s : S4) (w : Nat) : Nat := (s.d + v3 s w) % W32
def step4 (s : S4) (w : Nat) : S4 := ⟨v1 s w, v2 s w, v3 s w, v4 s w⟩
def sumTo (s : List UInt8) : Nat → S4
  | 0 => ⟨0, 0, 0, 0⟩
  | i + 1 => step4 (sumTo s i) (wdN ((s.drop (4 * i)).take 4))
def sumOf (s : List UInt8) : S4 := sumTo s ((s.length + 3) / 4)
def c4 (s : S4) : List TV := [.int .u32 (s.a : Int), .int .u32 (s.b : Int), .int .u32 (s.c : Int), .int .u32 (s.d : Int)]
/-- The cells when j of them are new. -/
def cJ (s : S4) (w : Nat) : Nat → S4
  | 0 => s
  | 1 => ⟨v1 s w, s.b, s.c, s.d⟩
  | 2 => ⟨v1 s w, v2 s w, s.c, s.d⟩
  | 3 => ⟨v1 s w, v2 s w, v3 s w, s.d⟩
  | _ => step4 s w
def vJ (s : S4) (w : Nat) : Nat → Nat
  | 0 => w
  | 1 => v1 s w
  | 2 => v2 s w
  | 3 => v3 s w
  | _ => v4 s w
theorem wd_bd : ∀ l : List UInt8, wdN l < 256 ^ l.length
  | [] => by decide
  | c :: r => by
    have h := wd_bd r
    have := c.toNat_lt
    rw [wdN, List.length_cons, Nat.pow_succ]
    omega
theorem wd_next : ∀ (l : List UInt8) (k : Nat), k < l.length → wdN (l.take (k + 1)) = wdN (l.take k) + (l.getD k 0).toNat * 256 ^ k
  | [], k, h => by simp at h
  | c :: r, 0, _ => by simp [wdN]
  | c :: r, k + 1, h => by
    have h1 := wd_next r k (by simpa using h)
    rw [List.take_succ_cons, List.take_succ_cons, wdN, wdN, h1, List.getD_cons_succ, Nat.pow_succ, Nat.mul_add]
    have : 256 * ((r.getD k 0).toNat * 256 ^ k) = (r.getD k 0).toNat * (256 ^ k * 256) := by
      rw [Nat.mul_comm (256 ^ k) 256, Nat.mul_left_comm]
    omega
theorem u32_wrap (x : Int) : IntKind.u32.wrap x = x % 4294967296 := by simp [IntKind.wrap, IntKind.signed, IntKind.bits]
theorem wadd (a b : Nat) : IntKind.u32.wrap ((a : Int) + (b : Int)) = (((a + b) % W32 : Nat) : Int) := by
  rw [u32_wrap, W32]; omega
theorem or_word {w c k : Nat} (hk : k ≤ 3) (hw : w < 256 ^ k) (hc : c < 256) :
    IntKind.u32.wrap ((BitVec.ofInt IntKind.u32.bits (w : Int) ||| BitVec.ofInt IntKind.u32.bits (IntKind.u32.wrap (IntKind.u32.wrap (c : Int) * 2 ^ min (8 * k) IntKind.u32.bits))).toNat : Int) = ((w + c * 256 ^ k : Nat) : Int) := by
  have e1 : IntKind.u32.wrap (c : Int) = (c : Int) := by rw [u32_wrap]; omega
  have hb : IntKind.u32.bits = 32 := rfl
  have e3 : min (8 * k) IntKind.u32.bits = 8 * k := by rw [hb]; omega
  have hp : 256 ^ k = 2 ^ (8 * k) := by rw [show (256 : Nat) = 2 ^ 8 from rfl, ← Nat.pow_mul]
  have h24 : 256 ^ k ≤ 16777216 := by
    rcases (by omega : k = 0 ∨ k = 1 ∨ k = 2 ∨ k = 3) with rfl | rfl | rfl | rfl <;> decide
  have hm : c * 256 ^ k ≤ 255 * 256 ^ k := Nat.mul_le_mul_right _ (by omega)
  have e4 : IntKind.u32.wrap ((c : Int) * 2 ^ (8 * k)) = ((c * 256 ^ k : Nat) : Int) := by
    have : (c : Int) * 2 ^ (8 * k) = ((c * 256 ^ k : Nat) : Int) := by rw [hp]; simp
    rw [this, u32_wrap]; omega
  rw [e1, e3, e4]
  have e2 : (BitVec.ofInt IntKind.u32.bits (w : Int) ||| BitVec.ofInt IntKind.u32.bits ((c * 256 ^ k : Nat) : Int)).toNat = w + c * 256 ^ k := by
    rw [BitVec.toNat_or, BitVec.ofInt_natCast, BitVec.ofInt_natCast, BitVec.toNat_ofNat, BitVec.toNat_ofNat, hb, Nat.mod_eq_of_lt (by omega), Nat.mod_eq_of_lt (by omega)]
    have := Nat.shiftLeft_add_eq_or_of_lt (show w < 2 ^ (8 * k) by omega) c
    rw [Nat.shiftLeft_eq] at this
    rw [Nat.or_comm, hp, ← this]; omega
  rw [e2, u32_wrap]; omega
def G_sum_Of : GCode := .seq (.region [⟨(some 2), none, .alloc 29⟩]) (.seq (.region [⟨(some 3), none, .alloc 29⟩]) (.seq (.region [⟨(some 10), none, .move (.tmp 0)⟩, ⟨(some 11), none, .call ⟨.value (.func 101), #[.tmp 10, .const (.string ⟨#[]⟩)], #[23, 9]⟩⟩, ⟨(some 4), none, .assign (.tmp 11)⟩]) (.seq (.seq (.region [⟨(some 5), none, .assign (.const (.int .i64 0))⟩]) (.block 0 (.loop (.seq .weak (.seq (.seq (.region [⟨(some 12), none, .move (.tmp 5)⟩, ⟨(some 13), none, .move (.tmp 4)⟩, ⟨(some 14), none, .call ⟨.builtin .len, #[.tmp 13], #[9]⟩⟩, ⟨(some 15), none, .binOp .lss 3 (.tmp 12) (.tmp 14) 3⟩]) (.cond (.tmp 15) (.skip) (.exit 0))) (.seq (.block 1 (.seq (.region [⟨(some 6), none, .assign (.const (.int .u32 0))⟩]) (.seq (.seq (.region [⟨(some 18), none, .move (.tmp 4)⟩, ⟨(some 19), none, .move (.tmp 5)⟩, ⟨(some 20), none, .move (.tmp 5)⟩, ⟨(some 21), none, .binOp .add 3 (.tmp 20) (.const (.int .i64 4)) 3⟩, ⟨(some 22), none, .move (.tmp 4)⟩, ⟨(some 23), none, .call ⟨.builtin .len, #[.tmp 22], #[9]⟩⟩, ⟨(some 24), none, .call ⟨.builtin .min, #[.tmp 21, .tmp 23], #[3, 3]⟩⟩, ⟨(some 25), none, .slice 9 (.tmp 18) (some (.tmp 19)) (some (.tmp 24)) none⟩, ⟨(some 26), none, .convert 9 101 (.tmp 25)⟩, ⟨(some 27), none, .call ⟨.builtin .len, #[.tmp 26], #[101]⟩⟩, ⟨(some 28), none, .move (.const (.int .i64 0))⟩]) (.block 2 (.loop (.seq .weak (.seq (.region [⟨(some 29), none, .binOp .lss 3 (.tmp 28) (.tmp 27) 3⟩]) (.seq (.cond (.tmp 29) (.skip) (.exit 2)) (.seq (.block 3 (.seq (.region [⟨(some 30), none, .move (.tmp 28)⟩, ⟨(some 31), none, .indexAddr 101 (.tmp 26) (.tmp 28)⟩, ⟨(some 32), none, .load 5 (.tmp 31)⟩, ⟨(some 7), none, .assign (.tmp 30)⟩, ⟨(some 8), none, .assign (.tmp 32)⟩]) (.region [⟨(some 33), none, .move (.tmp 6)⟩, ⟨(some 34), none, .move (.tmp 8)⟩, ⟨(some 35), none, .convert 5 27 (.tmp 34)⟩, ⟨(some 36), none, .move (.tmp 7)⟩, ⟨(some 37), none, .binOp .mul 3 (.const (.int .i64 8)) (.tmp 36) 3⟩, ⟨(some 38), none, .binOp .shl 27 (.tmp 35) (.tmp 37) 3⟩, ⟨(some 39), none, .binOp .or 27 (.tmp 33) (.tmp 38) 27⟩, ⟨(some 6), none, .assign (.tmp 39)⟩]))) (.region [⟨(some 40), none, .binOp .add 3 (.tmp 28) (.const (.int .i64 1)) 3⟩, ⟨(some 28), none, .move (.tmp 40)⟩])))))))) (.seq (.region [⟨(some 41), none, .move (.const (.int .i64 0))⟩]) (.block 4 (.loop (.seq .weak (.seq (.region [⟨(some 42), none, .binOp .lss 3 (.tmp 41) (.const (.int .i64 4)) 3⟩]) (.seq (.cond (.tmp 42) (.skip) (.exit 4)) (.seq (.block 5 (.seq (.region [⟨(some 43), none, .move (.tmp 41)⟩, ⟨(some 9), none, .assign (.tmp 43)⟩]) (.seq (.region [⟨(some 44), none, .move (.tmp 9)⟩, ⟨(some 45), none, .indexAddr 29 (.tmp 3) (.tmp 44)⟩, ⟨(some 46), none, .load 27 (.tmp 45)⟩, ⟨(some 47), none, .move (.tmp 6)⟩, ⟨(some 48), none, .binOp .add 27 (.tmp 46) (.tmp 47) 27⟩, ⟨(some 49), none, .indexAddr 29 (.tmp 3) (.tmp 44)⟩, ⟨none, none, .store 27 (.tmp 49) (.tmp 48)⟩]) (.region [⟨(some 50), none, .move (.tmp 9)⟩, ⟨(some 51), none, .indexAddr 29 (.tmp 3) (.tmp 50)⟩, ⟨(some 52), none, .load 27 (.tmp 51)⟩, ⟨(some 6), none, .assign (.tmp 52)⟩])))) (.region [⟨(some 53), none, .binOp .add 3 (.tmp 41) (.const (.int .i64 1)) 3⟩, ⟨(some 41), none, .move (.tmp 53)⟩]))))))))))) (.region [⟨(some 16), none, .move (.tmp 5)⟩, ⟨(some 17), none, .binOp .add 3 (.tmp 16) (.const (.int .i64 4)) 3⟩, ⟨(some 5), none, .assign (.tmp 17)⟩]))))))) (.seq (.region [⟨(some 54), none, .load 29 (.tmp 3)⟩, ⟨none, none, .store 29 (.tmp 2) (.tmp 54)⟩]) (.ret)))))
noncomputable def l_sum_Of : List (Nat × Con) := [(101, c_strings_Join)]
noncomputable abbrev K_sum_Of : Ctx := ctx (cl l_sum_Of)
theorem geq_sum_Of : gof K_sum_Of Tryz.f62 = some G_sum_Of.strip := by kernel_rfl
theorem sys_sum_Of : Go.Eng.Sys Tryz.prog K_sum_Of := sys_of' ⟨ok_strings_Join, trivial⟩
theorem hm_sum_Of : ConMono K_sum_Of := conMono_of sys_sum_Of.con
noncomputable def k_sum_Of_strings_Join := PLift.up (call_scal (C := K_sum_Of) (f := 101) (A := A_strings_Join) (p := p_strings_Join) (r := r_strings_Join) rfl)
def A_sum_Of := Arms.cons (argT (List (List UInt8))) Arms.nil
def p_sum_Of (x : List (List UInt8) × Unit) : Prop := x.1.length = 1 ∧ (x.1.getD 0 default).length ≤ 1000000
def r_sum_Of (x : List (List UInt8) × Unit) : AV := .agg [.t (.int .u32 ((sumOf (x.1.getD 0 default)).a : Int)), .t (.int .u32 ((sumOf (x.1.getD 0 default)).b : Int)), .t (.int .u32 ((sumOf (x.1.getD 0 default)).c : Int)), .t (.int .u32 ((sumOf (x.1.getD 0 default)).d : Int))]
set_option maxHeartbeats 4000000 in
theorem body_sum_Of (x : List (List UInt8) × Unit) (hp : p_sum_Of x) : avp K_sum_Of G_sum_Of (Ret K_sum_Of [.cell 2 29] fun v _ => v = r_sum_Of x) (entry (A_sum_Of.enc x) .empty) := by
  obtain ⟨l, ⟨⟩⟩ := x
  obtain ⟨h1, h2⟩ : l.length = 1 ∧ (l.getD 0 default).length ≤ 1000000 := hp
  change avp _ _ (Ret _ _ fun v _ => v = .agg ((c4 (sumOf (l.getD 0 default))).map .t)) (entry [.t (sl l)] .empty)
  obtain ⟨s, hs⟩ : ∃ s, s = l.getD 0 default := ⟨_, rfl⟩
  rw [← hs] at h2 ⊢
  unfold G_sum_Of
  simp only [vP.down, vS.down, vE.down, Nat.reduceEqDiff, Nat.reduceAdd, Nat.reduceSub, Nat.reduceMul, Nat.reduceLeDiff, Nat.reduceLT, Int.reduceToNat, reduceIte, reduceCtorEq, Int.reduceEq, Int.reduceLT, Int.reduceLE, ↓avp_condG, ↓tf_arrow, ↓ft_arrow, h1, ← hs, k_sum_Of_strings_Join.down, A_strings_Join, p_strings_Join, r_strings_Join]
  intro g2 hg2 g3 hg3
  have n1 := Store.ne_new hg3
  obtain ⟨Z, hZ⟩ : ∃ Z : List AV, Z = [.t (.int .u32 0), .t (.int .u32 0), .t (.int .u32 0), .t (.int .u32 0)] := ⟨_, rfl⟩
  have hc0 : ((c4 (sumTo s 0)).map AV.t) = Z := hZ.symm ▸ rfl
  rw [← hZ]
  refine loop_weak hm_sum_Of (fun k σ => ∃ (i : Nat) (S : Store), k = (s.length + 3) / 4 - i ∧ i ≤ (s.length + 3) / 4 ∧ S.f g2 = some (.box Z false) ∧ S.f g3 = some (.box ((c4 (sumTo s i)).map .t) false) ∧
    σ = mkS [(2, .ptr g2 0), (3, .ptr g3 0), (4, .t (.str s)), (5, .t (.int .i64 (4 * i : Nat)))] S)
    ⟨0, (Store.empty.set g2 (some (.box Z false))).set g3 (some (.box Z false)), rfl, by omega, (Store.set_other _ _ n1.symm).trans (Store.set_same _ _ _), by rw [hc0]; exact Store.set_same _ _ _, rfl⟩ (wk_to fewer_refl (by simp only [vP.down, vS.down, vE.down, Nat.reduceEqDiff, Nat.reduceAdd, Nat.reduceSub, Nat.reduceMul, Nat.reduceLeDiff, Nat.reduceLT, Int.reduceToNat, reduceIte, reduceCtorEq, Int.reduceEq, Int.reduceLT, Int.reduceLE, ↓avp_condG, ↓tf_arrow, ↓ft_arrow, wP.down, Nat.mul_zero, Int.natCast_zero])) ?_
  rintro k _ ⟨i, S, rfl, hi, f2, f3, rfl⟩
  by_cases hlt : 4 * i < s.length
  case neg =>
    obtain rfl : i = (s.length + 3) / 4 := by omega
    have hge : ¬ (((4 * ((s.length + 3) / 4) : Nat) : Int) < (s.length : Int)) := by omega
    have hq : sumTo s ((s.length + 3) / 4) = sumOf s := rfl
    rw [hq] at f3
    obtain ⟨q, e⟩ : ∃ q, q = sumOf s := ⟨_, rfl⟩
    rw [← e] at f3 ⊢
    simp only [vP.down, vS.down, vE.down, Nat.reduceEqDiff, Nat.reduceAdd, Nat.reduceSub, Nat.reduceMul, Nat.reduceLeDiff, Nat.reduceLT, Int.reduceToNat, reduceIte, reduceCtorEq, Int.reduceEq, Int.reduceLT, Int.reduceLE, ↓avp_condG, ↓tf_arrow, ↓ft_arrow, hge, f2, f3, c4]
    refine ⟨by rw [hZ]; decide, ?_⟩
    simp only [vP.down, vS.down, vE.down, Nat.reduceEqDiff, Nat.reduceAdd, Nat.reduceSub, Nat.reduceMul, Nat.reduceLeDiff, Nat.reduceLT, Int.reduceToNat, reduceIte, reduceCtorEq, Int.reduceEq, Int.reduceLT, Int.reduceLE, ↓avp_condG, ↓tf_arrow, ↓ft_arrow, vT.down, hZ, Store.set_same]
  have hlt' : ((4 * i : Nat) : Int) < (s.length : Int) := by omega
  have w4 : IntKind.i64.wrap (((4 * i : Nat) : Int) + 4) = ((4 * i + 4 : Nat) : Int) := by rw [IntWalk.i64_in _ (by omega)]; rfl
  obtain ⟨b, hb⟩ : ∃ b, b = (s.drop (4 * i)).take 4 := ⟨_, rfl⟩
  have hbl : b.length ≤ 4 := by rw [hb, List.length_take]; omega
  have he : List.drop (4 * i) (List.take (min ((4 * i + 4 : Nat) : Int) (s.length : Int)).toNat s) = b := by
    have : (min ((4 * i + 4 : Nat) : Int) (s.length : Int)).toNat = min (4 * i + 4) s.length := by omega
    rw [this, List.drop_take, hb, List.take_eq_take_iff, List.length_drop]
    omega
  simp only [vP.down, vS.down, vE.down, Nat.reduceEqDiff, Nat.reduceAdd, Nat.reduceSub, Nat.reduceMul, Nat.reduceLeDiff, Nat.reduceLT, Int.reduceToNat, reduceIte, reduceCtorEq, Int.reduceEq, Int.reduceLT, Int.reduceLE, ↓avp_condG, ↓tf_arrow, ↓ft_arrow, hlt', w4, he]
  refine ⟨by omega, by omega, fun g hg => ?_⟩
  refine loop_weak hm_sum_Of (fun m σ => ∃ j : Nat, m = b.length - j ∧ j ≤ b.length ∧ σ = mkS [(2, .ptr g2 0), (3, .ptr g3 0), (4, .t (.str s)), (5, .t (.int .i64 (4 * i : Nat))), (6, .t (.int .u32 (wdN (b.take j) : Nat))), (26, .t (sl (b.map Byt.mk))), (27, .t (.int .i64 (b.length : Nat))), (28, .t (.int .i64 (j : Nat)))] S)
    ⟨0, rfl, by omega, rfl⟩ (wk_to (fewer_fresh hg) (by simp only [vP.down, vS.down, vE.down, Nat.reduceEqDiff, Nat.reduceAdd, Nat.reduceSub, Nat.reduceMul, Nat.reduceLeDiff, Nat.reduceLT, Int.reduceToNat, reduceIte, reduceCtorEq, Int.reduceEq, Int.reduceLT, Int.reduceLE, ↓avp_condG, ↓tf_arrow, ↓ft_arrow, wP.down, w2_bytes' hg rfl, List.take_zero, wdN, Int.natCast_zero])) ?_
  rintro m _ ⟨j, rfl, hj, rfl⟩
  by_cases hjl : j < b.length
  case pos =>
    have hjl' : (j : Int) < (b.length : Int) := by omega
    have hj0 : (0 : Int) ≤ (j : Int) := by omega
    have hj1 : IntKind.i64.wrap ((j : Int) + 1) = ((j + 1 : Nat) : Int) := by rw [IntWalk.i64_in _ (by omega)]; rfl
    have h8 : IntKind.i64.wrap (8 * (j : Int)) = ((8 * j : Nat) : Int) := by rw [IntWalk.i64_in _ (by omega)]; omega
    have hn := wd_next b j hjl
    have hbd := wd_bd (b.take j)
    rw [List.length_take, Nat.min_eq_left (by omega)] at hbd
    have ho := or_word (w := wdN (b.take j)) (c := (b.getD j 0).toNat) (k := j) (by omega) hbd (UInt8.toNat_lt _)
    rw [← hn] at ho
    simp only [vP.down, vS.down, vE.down, Nat.reduceEqDiff, Nat.reduceAdd, Nat.reduceSub, Nat.reduceMul, Nat.reduceLeDiff, Nat.reduceLT, Int.reduceToNat, reduceIte, reduceCtorEq, Int.reduceEq, Int.reduceLT, Int.reduceLE, ↓avp_condG, ↓tf_arrow, ↓ft_arrow, hjl', hj1, h8, ho]
    refine ⟨by omega, by omega, ?_⟩
    exact round_to (b.length - (j + 1)) [(2, .ptr g2 0), (3, .ptr g3 0), (4, .t (.str s)), (5, .t (.int .i64 (4 * i : Nat))), (6, .t (.int .u32 (wdN (b.take (j + 1)) : Nat))), (26, .t (sl (b.map Byt.mk))), (27, .t (.int .i64 (b.length : Nat))), (28, .t (.int .i64 (j + 1 : Nat)))] S (by omega) fewer_refl (by simp only [vP.down, vS.down, vE.down, Nat.reduceEqDiff, Nat.reduceAdd, Nat.reduceSub, Nat.reduceMul, Nat.reduceLeDiff, Nat.reduceLT, Int.reduceToNat, reduceIte, reduceCtorEq, Int.reduceEq, Int.reduceLT, Int.reduceLE, ↓avp_condG, ↓tf_arrow, ↓ft_arrow, wP.down]) ⟨j + 1, rfl, by omega, rfl⟩
  obtain rfl : j = b.length := by omega
  have hge : ¬ ((b.length : Int) < (b.length : Int)) := by omega
  simp only [vP.down, vS.down, vE.down, Nat.reduceEqDiff, Nat.reduceAdd, Nat.reduceSub, Nat.reduceMul, Nat.reduceLeDiff, Nat.reduceLT, Int.reduceToNat, reduceIte, reduceCtorEq, Int.reduceEq, Int.reduceLT, Int.reduceLE, ↓avp_condG, ↓tf_arrow, ↓ft_arrow, hge, List.take_length]
  have hst : sumTo s (i + 1) = step4 (sumTo s i) (wdN b) := by rw [sumTo, ← hb]
  obtain ⟨q, hq⟩ : ∃ q, q = sumTo s i := ⟨_, rfl⟩
  obtain ⟨w, hw⟩ : ∃ w, w = wdN b := ⟨_, rfl⟩
  rw [← hq, ← hw] at hst
  rw [← hq] at f3
  rw [← hw]
  refine loop_weak hm_sum_Of (fun m σ => ∃ (j : Nat) (S : Store), m = 4 - j ∧ j ≤ 4 ∧ S.f g2 = some (.box Z false) ∧ S.f g3 = some (.box ((c4 (cJ q w j)).map .t) false) ∧ σ = mkS [(2, .ptr g2 0), (3, .ptr g3 0), (4, .t (.str s)), (5, .t (.int .i64 (4 * i : Nat))), (6, .t (.int .u32 (vJ q w j : Nat))), (41, .t (.int .i64 (j : Nat)))] S)
    ⟨0, S, rfl, by omega, f2, f3, rfl⟩ (wk_to fewer_refl (by simp only [vP.down, vS.down, vE.down, Nat.reduceEqDiff, Nat.reduceAdd, Nat.reduceSub, Nat.reduceMul, Nat.reduceLeDiff, Nat.reduceLT, Int.reduceToNat, reduceIte, reduceCtorEq, Int.reduceEq, Int.reduceLT, Int.reduceLE, ↓avp_condG, ↓tf_arrow, ↓ft_arrow, wP.down, vJ, Int.natCast_zero])) ?_
  clear f2 f3 hg
  rintro m _ ⟨j, S, rfl, hj, f2, f3, rfl⟩
  have e1 : IntKind.u32.wrap ((q.a : Int) + (w : Int)) = ((v1 q w : Nat) : Int) := wadd _ _
  have e2 : IntKind.u32.wrap ((q.b : Int) + (v1 q w : Nat)) = ((v2 q w : Nat) : Int) := wadd _ _
  have e3 : IntKind.u32.wrap ((q.c : Int) + (v2 q w : Nat)) = ((v3 q w : Nat) : Int) := wadd _ _
  have e4 : IntKind.u32.wrap ((q.d : Int) + (v3 q w : Nat)) = ((v4 q w : Nat) : Int) := wadd _ _
  rcases (by omega : j = 0 ∨ j = 1 ∨ j = 2 ∨ j = 3 ∨ j = 4) with rfl | rfl | rfl | rfl | rfl
  · simp only [cJ, step4, c4, List.map_cons, List.map_nil] at f3
    simp only [vP.down, vS.down, vE.down, Nat.reduceEqDiff, Nat.reduceAdd, Nat.reduceSub, Nat.reduceMul, Nat.reduceLeDiff, Nat.reduceLT, Int.reduceToNat, reduceIte, reduceCtorEq, Int.reduceEq, Int.reduceLT, Int.reduceLE, ↓avp_condG, ↓tf_arrow, ↓ft_arrow, f3, vJ, e1, Int.natCast_zero, show ((1 : Nat) : Int) = 1 from rfl, show ((2 : Nat) : Int) = 2 from rfl, show ((3 : Nat) : Int) = 3 from rfl, show IntKind.i64.wrap (0 + 1) = 1 from rfl]
    have f2' : (S.set g3 (some (.box ((c4 (cJ q w 1)).map .t) false))).f g2 = some (.box Z false) := (Store.set_other _ _ (fun h => n1 h.symm)).trans f2
    exact round_to (4 - 1) [(2, .ptr g2 0), (3, .ptr g3 0), (4, .t (.str s)), (5, .t (.int .i64 (4 * i : Nat))), (6, .t (.int .u32 (vJ q w 1 : Nat))), (41, .t (.int .i64 (1 : Nat)))] (S.set g3 (some (.box ((c4 (cJ q w 1)).map .t) false))) (by omega) fewer_refl (by simp only [vP.down, vS.down, vE.down, Nat.reduceEqDiff, Nat.reduceAdd, Nat.reduceSub, Nat.reduceMul, Nat.reduceLeDiff, Nat.reduceLT, Int.reduceToNat, reduceIte, reduceCtorEq, Int.reduceEq, Int.reduceLT, Int.reduceLE, ↓avp_condG, ↓tf_arrow, ↓ft_arrow, wP.down, vJ, cJ, step4, c4, List.map_cons, List.map_nil, show ((1 : Nat) : Int) = 1 from rfl]) ⟨1, _, rfl, by omega, f2', Store.set_same _ _ _, rfl⟩
  · simp only [cJ, step4, c4, List.map_cons, List.map_nil] at f3
    simp only [vP.down, vS.down, vE.down, Nat.reduceEqDiff, Nat.reduceAdd, Nat.reduceSub, Nat.reduceMul, Nat.reduceLeDiff, Nat.reduceLT, Int.reduceToNat, reduceIte, reduceCtorEq, Int.reduceEq, Int.reduceLT, Int.reduceLE, ↓avp_condG, ↓tf_arrow, ↓ft_arrow, f3, vJ, e2, Int.natCast_zero, show ((1 : Nat) : Int) = 1 from rfl, show ((2 : Nat) : Int) = 2 from rfl, show ((3 : Nat) : Int) = 3 from rfl, show IntKind.i64.wrap (1 + 1) = 2 from rfl]
    have f2' : (S.set g3 (some (.box ((c4 (cJ q w 2)).map .t) false))).f g2 = some (.box Z false) := (Store.set_other _ _ (fun h => n1 h.symm)).trans f2
    exact round_to (4 - 2) [(2, .ptr g2 0), (3, .ptr g3 0), (4, .t (.str s)), (5, .t (.int .i64 (4 * i : Nat))), (6, .t (.int .u32 (vJ q w 2 : Nat))), (41, .t (.int .i64 (2 : Nat)))] (S.set g3 (some (.box ((c4 (cJ q w 2)).map .t) false))) (by omega) fewer_refl (by simp only [vP.down, vS.down, vE.down, Nat.reduceEqDiff, Nat.reduceAdd, Nat.reduceSub, Nat.reduceMul, Nat.reduceLeDiff, Nat.reduceLT, Int.reduceToNat, reduceIte, reduceCtorEq, Int.reduceEq, Int.reduceLT, Int.reduceLE, ↓avp_condG, ↓tf_arrow, ↓ft_arrow, wP.down, vJ, cJ, step4, c4, List.map_cons, List.map_nil, show ((2 : Nat) : Int) = 2 from rfl]) ⟨2, _, rfl, by omega, f2', Store.set_same _ _ _, rfl⟩
  · simp only [cJ, step4, c4, List.map_cons, List.map_nil] at f3
    simp only [vP.down, vS.down, vE.down, Nat.reduceEqDiff, Nat.reduceAdd, Nat.reduceSub, Nat.reduceMul, Nat.reduceLeDiff, Nat.reduceLT, Int.reduceToNat, reduceIte, reduceCtorEq, Int.reduceEq, Int.reduceLT, Int.reduceLE, ↓avp_condG, ↓tf_arrow, ↓ft_arrow, f3, vJ, e3, Int.natCast_zero, show ((1 : Nat) : Int) = 1 from rfl, show ((2 : Nat) : Int) = 2 from rfl, show ((3 : Nat) : Int) = 3 from rfl, show IntKind.i64.wrap (2 + 1) = 3 from rfl]
    have f2' : (S.set g3 (some (.box ((c4 (cJ q w 3)).map .t) false))).f g2 = some (.box Z false) := (Store.set_other _ _ (fun h => n1 h.symm)).trans f2
    exact round_to (4 - 3) [(2, .ptr g2 0), (3, .ptr g3 0), (4, .t (.str s)), (5, .t (.int .i64 (4 * i : Nat))), (6, .t (.int .u32 (vJ q w 3 : Nat))), (41, .t (.int .i64 (3 : Nat)))] (S.set g3 (some (.box ((c4 (cJ q w 3)).map .t) false))) (by omega) fewer_refl (by simp only [vP.down, vS.down, vE.down, Nat.reduceEqDiff, Nat.reduceAdd, Nat.reduceSub, Nat.reduceMul, Nat.reduceLeDiff, Nat.reduceLT, Int.reduceToNat, reduceIte, reduceCtorEq, Int.reduceEq, Int.reduceLT, Int.reduceLE, ↓avp_condG, ↓tf_arrow, ↓ft_arrow, wP.down, vJ, cJ, step4, c4, List.map_cons, List.map_nil, show ((3 : Nat) : Int) = 3 from rfl]) ⟨3, _, rfl, by omega, f2', Store.set_same _ _ _, rfl⟩
  · simp only [cJ, step4, c4, List.map_cons, List.map_nil] at f3
    simp only [vP.down, vS.down, vE.down, Nat.reduceEqDiff, Nat.reduceAdd, Nat.reduceSub, Nat.reduceMul, Nat.reduceLeDiff, Nat.reduceLT, Int.reduceToNat, reduceIte, reduceCtorEq, Int.reduceEq, Int.reduceLT, Int.reduceLE, ↓avp_condG, ↓tf_arrow, ↓ft_arrow, f3, vJ, e4, Int.natCast_zero, show ((1 : Nat) : Int) = 1 from rfl, show ((2 : Nat) : Int) = 2 from rfl, show ((3 : Nat) : Int) = 3 from rfl, show IntKind.i64.wrap (3 + 1) = 4 from rfl]
    have f2' : (S.set g3 (some (.box ((c4 (cJ q w 4)).map .t) false))).f g2 = some (.box Z false) := (Store.set_other _ _ (fun h => n1 h.symm)).trans f2
    exact round_to (4 - 4) [(2, .ptr g2 0), (3, .ptr g3 0), (4, .t (.str s)), (5, .t (.int .i64 (4 * i : Nat))), (6, .t (.int .u32 (vJ q w 4 : Nat))), (41, .t (.int .i64 (4 : Nat)))] (S.set g3 (some (.box ((c4 (cJ q w 4)).map .t) false))) (by omega) fewer_refl (by simp only [vP.down, vS.down, vE.down, Nat.reduceEqDiff, Nat.reduceAdd, Nat.reduceSub, Nat.reduceMul, Nat.reduceLeDiff, Nat.reduceLT, Int.reduceToNat, reduceIte, reduceCtorEq, Int.reduceEq, Int.reduceLT, Int.reduceLE, ↓avp_condG, ↓tf_arrow, ↓ft_arrow, wP.down, vJ, cJ, step4, c4, List.map_cons, List.map_nil, show ((4 : Nat) : Int) = 4 from rfl]) ⟨4, _, rfl, by omega, f2', Store.set_same _ _ _, rfl⟩
  · have hge : ¬ ((4 : Int) < 4) := by omega
    have hi1 : IntKind.i64.wrap (((4 * i : Nat) : Int) + 4) = ((4 * (i + 1) : Nat) : Int) := by rw [IntWalk.i64_in _ (by omega)]; omega
    simp only [vP.down, vS.down, vE.down, Nat.reduceEqDiff, Nat.reduceAdd, Nat.reduceSub, Nat.reduceMul, Nat.reduceLeDiff, Nat.reduceLT, Int.reduceToNat, reduceIte, reduceCtorEq, Int.reduceEq, Int.reduceLT, Int.reduceLE, ↓avp_condG, ↓tf_arrow, ↓ft_arrow, hge, show ((4 : Nat) : Int) = 4 from rfl, hi1]
    have f3' : S.f g3 = some (.box ((c4 (sumTo s (i + 1))).map .t) false) := by rw [hst]; exact f3
    exact round_to ((s.length + 3) / 4 - (i + 1)) [(2, .ptr g2 0), (3, .ptr g3 0), (4, .t (.str s)), (5, .t (.int .i64 (4 * (i + 1) : Nat)))] S (by omega) fewer_refl (by simp only [vP.down, vS.down, vE.down, Nat.reduceEqDiff, Nat.reduceAdd, Nat.reduceSub, Nat.reduceMul, Nat.reduceLeDiff, Nat.reduceLT, Int.reduceToNat, reduceIte, reduceCtorEq, Int.reduceEq, Int.reduceLT, Int.reduceLE, ↓avp_condG, ↓tf_arrow, ↓ft_arrow, wP.down]) ⟨i + 1, S, rfl, by omega, f2, f3', rfl⟩
noncomputable def c_sum_Of : Con := fnScal A_sum_Of p_sum_Of r_sum_Of
theorem ok_sum_Of : COk Tryz.prog 62 c_sum_Of := fn_sok sys_sum_Of mixed Tryz.func62 (by kernel_rfl) geq_sum_Of Tryz.ntmps62 (by rw [Tryz.results62]) (fun x => by unfold r_sum_Of; simp [AV.scal]) fun x hx => ⟨Nat.le_of_ble_eq_true rfl, body_sum_Of x hx⟩
end Go.Proofs.YtenckbcdfdmckaaGreatDoor

