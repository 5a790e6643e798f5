/-
  The seat's types.
-/
import Derived.Test.YtgdaibdfjhchbaaEngC
import Derived.Test.YtgdaibdfjhchbaaRows
set_option linter.unusedSimpArgs false
set_option linter.unusedVariables false
namespace Go.Proofs.Ytgdaibdfjhchbaa
open Go Go.Eng
set_option maxRecDepth 100000

noncomputable def tyF : TypeId → Option TyD := tyOf Try.prog
noncomputable def eqF : TypeId → Option (List Nat) := eqOf Try.prog
noncomputable def ctx (con : FuncId → Option Con) : Ctx := ⟨tyF, eqF, con⟩
theorem tyf_int : tyF 3 = some ⟨.int .i64, 1, 8, [.int .i64 0]⟩ := by kernel_rfl
theorem ty_int {con : FuncId → Option Con} : (ctx con).ty 3 = some ⟨.int .i64, 1, 8, [.int .i64 0]⟩ := tyf_int
theorem tyf_bool : tyF 4 = some ⟨.bool, 1, 1, [.bool false]⟩ := by kernel_rfl
theorem ty_bool {con : FuncId → Option Con} : (ctx con).ty 4 = some ⟨.bool, 1, 1, [.bool false]⟩ := tyf_bool
theorem tyf_uint8 : tyF 5 = some ⟨.int .u8, 1, 1, [.int .u8 0]⟩ := by kernel_rfl
theorem ty_uint8 {con : FuncId → Option Con} : (ctx con).ty 5 = some ⟨.int .u8, 1, 1, [.int .u8 0]⟩ := tyf_uint8
theorem tyf_string : tyF 9 = some ⟨.str, 1, 16, [.str []]⟩ := by kernel_rfl
theorem ty_string {con : FuncId → Option Con} : (ctx con).ty 9 = some ⟨.str, 1, 16, [.str []]⟩ := tyf_string
theorem tyf_Luint8 : tyF 22 = some ⟨.slice 5, 1, 24, [.nilS]⟩ := by kernel_rfl
theorem ty_Luint8 {con : FuncId → Option Con} : (ctx con).ty 22 = some ⟨.slice 5, 1, 24, [.nilS]⟩ := tyf_Luint8
theorem tyf_Lapi_Run : tyF 23 = some ⟨.slice 48, 1, 24, [.nilS]⟩ := by kernel_rfl
theorem ty_Lapi_Run {con : FuncId → Option Con} : (ctx con).ty 23 = some ⟨.slice 48, 1, 24, [.nilS]⟩ := tyf_Lapi_Run
theorem tyf_api_Space : tyF 26 = some ⟨.struct [(23, 0), (23, 1), (23, 2), (23, 3)], 4, 96, [.nilS, .nilS, .nilS, .nilS]⟩ := by kernel_rfl
theorem ty_api_Space {con : FuncId → Option Con} : (ctx con).ty 26 = some ⟨.struct [(23, 0), (23, 1), (23, 2), (23, 3)], 4, 96, [.nilS, .nilS, .nilS, .nilS]⟩ := tyf_api_Space
theorem tyf_Ppalimpmade_Picks : tyF 28 = some ⟨.ptr 51, 1, 8, [.nilP]⟩ := by kernel_rfl
theorem ty_Ppalimpmade_Picks {con : FuncId → Option Con} : (ctx con).ty 28 = some ⟨.ptr 51, 1, 8, [.nilP]⟩ := tyf_Ppalimpmade_Picks
theorem tyf_Lapi_Space : tyF 32 = some ⟨.slice 26, 1, 24, [.nilS]⟩ := by kernel_rfl
theorem ty_Lapi_Space {con : FuncId → Option Con} : (ctx con).ty 32 = some ⟨.slice 26, 1, 24, [.nilS]⟩ := tyf_Lapi_Space
theorem tyf_Lint : tyF 33 = some ⟨.slice 3, 1, 24, [.nilS]⟩ := by kernel_rfl
theorem ty_Lint {con : FuncId → Option Con} : (ctx con).ty 33 = some ⟨.slice 3, 1, 24, [.nilS]⟩ := tyf_Lint
theorem tyf_LLapi_Run : tyF 42 = some ⟨.slice 23, 1, 24, [.nilS]⟩ := by kernel_rfl
theorem ty_LLapi_Run {con : FuncId → Option Con} : (ctx con).ty 42 = some ⟨.slice 23, 1, 24, [.nilS]⟩ := tyf_LLapi_Run
theorem tyf_api_Run : tyF 48 = some ⟨.struct [(3, 0), (3, 1)], 2, 16, [.int .i64 0, .int .i64 0]⟩ := by kernel_rfl
theorem ty_api_Run {con : FuncId → Option Con} : (ctx con).ty 48 = some ⟨.struct [(3, 0), (3, 1)], 2, 16, [.int .i64 0, .int .i64 0]⟩ := tyf_api_Run
theorem tyf_palimpmade_Picks : tyF 51 = some ⟨.struct [(22, 0), (3, 1)], 2, 32, [.nilS, .int .i64 0]⟩ := by kernel_rfl
theorem ty_palimpmade_Picks {con : FuncId → Option Con} : (ctx con).ty 51 = some ⟨.struct [(22, 0), (3, 1)], 2, 32, [.nilS, .int .i64 0]⟩ := tyf_palimpmade_Picks
theorem tyf_space_taken : tyF 55 = some ⟨.struct [(26, 0)], 4, 96, [.nilS, .nilS, .nilS, .nilS]⟩ := by kernel_rfl
theorem ty_space_taken {con : FuncId → Option Con} : (ctx con).ty 55 = some ⟨.struct [(26, 0)], 4, 96, [.nilS, .nilS, .nilS, .nilS]⟩ := tyf_space_taken
theorem tyf_space_pool : tyF 57 = some ⟨.struct [(55, 0), (3, 4)], 5, 104, [.nilS, .nilS, .nilS, .nilS, .int .i64 0]⟩ := by kernel_rfl
theorem ty_space_pool {con : FuncId → Option Con} : (ctx con).ty 57 = some ⟨.struct [(55, 0), (3, 4)], 5, 104, [.nilS, .nilS, .nilS, .nilS, .int .i64 0]⟩ := tyf_space_pool
theorem tyf_A4Lapi_Run : tyF 61 = some ⟨.arr 4 23, 4, 96, [.nilS, .nilS, .nilS, .nilS]⟩ := by kernel_rfl
theorem ty_A4Lapi_Run {con : FuncId → Option Con} : (ctx con).ty 61 = some ⟨.arr 4 23, 4, 96, [.nilS, .nilS, .nilS, .nilS]⟩ := tyf_A4Lapi_Run
theorem tyf_span_rows : tyF 65 = some ⟨.struct [(23, 0), (23, 1)], 2, 48, [.nilS, .nilS]⟩ := by kernel_rfl
theorem ty_span_rows {con : FuncId → Option Con} : (ctx con).ty 65 = some ⟨.struct [(23, 0), (23, 1)], 2, 48, [.nilS, .nilS]⟩ := tyf_span_rows
theorem tyf_func_bool__bool__bool : tyF 67 = some ⟨.fn, 1, 8, [.nilF]⟩ := by kernel_rfl
theorem ty_func_bool__bool__bool {con : FuncId → Option Con} : (ctx con).ty 67 = some ⟨.fn, 1, 8, [.nilF]⟩ := tyf_func_bool__bool__bool
theorem tyf_span_run : tyF 78 = some ⟨.struct [(48, 0)], 2, 16, [.int .i64 0, .int .i64 0]⟩ := by kernel_rfl
theorem ty_span_run {con : FuncId → Option Con} : (ctx con).ty 78 = some ⟨.struct [(48, 0)], 2, 16, [.int .i64 0, .int .i64 0]⟩ := tyf_span_run
theorem tyf_func_api_Run__bool : tyF 79 = some ⟨.fn, 1, 8, [.nilF]⟩ := by kernel_rfl
theorem ty_func_api_Run__bool {con : FuncId → Option Con} : (ctx con).ty 79 = some ⟨.fn, 1, 8, [.nilF]⟩ := tyf_func_api_Run__bool
theorem tyf_uint : tyF 83 = some ⟨.int .u64, 1, 8, [.int .u64 0]⟩ := by kernel_rfl
theorem ty_uint {con : FuncId → Option Con} : (ctx con).ty 83 = some ⟨.int .u64, 1, 8, [.int .u64 0]⟩ := tyf_uint
theorem tyf_slices_sortedHint : tyF 86 = some ⟨.int .i64, 1, 8, [.int .i64 0]⟩ := by kernel_rfl
theorem ty_slices_sortedHint {con : FuncId → Option Con} : (ctx con).ty 86 = some ⟨.int .i64, 1, 8, [.int .i64 0]⟩ := tyf_slices_sortedHint
theorem tyf_uint32 : tyF 95 = some ⟨.int .u32, 1, 4, [.int .u32 0]⟩ := by kernel_rfl
theorem ty_uint32 {con : FuncId → Option Con} : (ctx con).ty 95 = some ⟨.int .u32, 1, 4, [.int .u32 0]⟩ := tyf_uint32
theorem tyf_uint64 : tyF 97 = some ⟨.int .u64, 1, 8, [.int .u64 0]⟩ := by kernel_rfl
theorem ty_uint64 {con : FuncId → Option Con} : (ctx con).ty 97 = some ⟨.int .u64, 1, 8, [.int .u64 0]⟩ := tyf_uint64
theorem tyf_slices_xorshift : tyF 98 = some ⟨.int .u64, 1, 8, [.int .u64 0]⟩ := by kernel_rfl
theorem ty_slices_xorshift {con : FuncId → Option Con} : (ctx con).ty 98 = some ⟨.int .u64, 1, 8, [.int .u64 0]⟩ := tyf_slices_xorshift
theorem tyf_Pint : tyF 102 = some ⟨.ptr 3, 1, 8, [.nilP]⟩ := by kernel_rfl
theorem ty_Pint {con : FuncId → Option Con} : (ctx con).ty 102 = some ⟨.ptr 3, 1, 8, [.nilP]⟩ := tyf_Pint
theorem tyf_Pslices_xorshift : tyF 104 = some ⟨.ptr 98, 1, 8, [.nilP]⟩ := by kernel_rfl
theorem ty_Pslices_xorshift {con : FuncId → Option Con} : (ctx con).ty 104 = some ⟨.ptr 98, 1, 8, [.nilP]⟩ := tyf_Pslices_xorshift
structure TRun where
  From : Int
  To : Int
  deriving DecidableEq
instance cTRun : Cell TRun := Cell.iso (α := Int × Int) (fun x => (x.From, x.To)) (fun y => ⟨y.1, y.2⟩) (fun _ => rfl) (fun _ => rfl)
instance iTRun : Inhabited TRun := ⟨⟨0, 0⟩⟩
theorem enc_TRun {x : TRun} : Cell.enc x = [.int .i64 x.From, .int .i64 x.To] := rfl
theorem dec_TRun {x y : TRun} : (decide (x.From = y.From) && (decide (x.To = y.To))) = decide (x = y) := by
  first | (cases x; cases y; simp [← UInt32.toNat_inj, Int.ofNat_inj, Prod.ext_iff, and_assoc]; done) | (cases x; cases y; simp only [true_and]; simp)
theorem dc_TRun {cs : List TV} : (Cell.dec cs : Option TRun) = (Cell.dec (α := Int × Int) cs).map fun y => ⟨y.1, y.2⟩ := rfl
theorem eta_TRun {x : TRun} : (⟨x.From, x.To⟩ : TRun) = x := rfl
theorem w_TRun : Cell.width TRun = 2 := rfl
structure TSpace where
  Held : (List TRun)
  One : (List TRun)
  Two : (List TRun)
  Kept : (List TRun)
  deriving DecidableEq
instance cTSpace : Cell TSpace := Cell.iso (α := (List TRun) × (List TRun) × (List TRun) × (List TRun)) (fun x => (x.Held, x.One, x.Two, x.Kept)) (fun y => ⟨y.1, y.2.1, y.2.2.1, y.2.2.2⟩) (fun _ => rfl) (fun _ => rfl)
instance iTSpace : Inhabited TSpace := ⟨⟨[], [], [], []⟩⟩
theorem enc_TSpace {x : TSpace} : Cell.enc x = [sl x.Held, sl x.One, sl x.Two, sl x.Kept] := rfl
theorem dc_TSpace {cs : List TV} : (Cell.dec cs : Option TSpace) = (Cell.dec (α := (List TRun) × (List TRun) × (List TRun) × (List TRun)) cs).map fun y => ⟨y.1, y.2.1, y.2.2.1, y.2.2.2⟩ := rfl
theorem eta_TSpace {x : TSpace} : (⟨x.Held, x.One, x.Two, x.Kept⟩ : TSpace) = x := rfl
theorem w_TSpace : Cell.width TSpace = 4 := rfl
structure TPicks where
  l : (List Byt)
  n : Int
  deriving DecidableEq
instance cTPicks : Cell TPicks := Cell.iso (α := (List Byt) × Int) (fun x => (x.l, x.n)) (fun y => ⟨y.1, y.2⟩) (fun _ => rfl) (fun _ => rfl)
instance iTPicks : Inhabited TPicks := ⟨⟨[], 0⟩⟩
theorem enc_TPicks {x : TPicks} : Cell.enc x = [sl x.l, .int .i64 x.n] := rfl
theorem dc_TPicks {cs : List TV} : (Cell.dec cs : Option TPicks) = (Cell.dec (α := (List Byt) × Int) cs).map fun y => ⟨y.1, y.2⟩ := rfl
theorem eta_TPicks {x : TPicks} : (⟨x.l, x.n⟩ : TPicks) = x := rfl
theorem w_TPicks : Cell.width TPicks = 2 := rfl
structure Ttaken where
  Space : TSpace
  deriving DecidableEq
instance cTtaken : Cell Ttaken := Cell.iso (α := TSpace) (fun x => (x.Space)) (fun y => ⟨y⟩) (fun _ => rfl) (fun _ => rfl)
instance iTtaken : Inhabited Ttaken := ⟨⟨⟨[], [], [], []⟩⟩⟩
theorem enc_Ttaken {x : Ttaken} : Cell.enc x = [sl x.Space.Held, sl x.Space.One, sl x.Space.Two, sl x.Space.Kept] := rfl
theorem dc_Ttaken {cs : List TV} : (Cell.dec cs : Option Ttaken) = (Cell.dec (α := TSpace) cs).map fun y => ⟨y⟩ := rfl
theorem eta_Ttaken {x : Ttaken} : (⟨⟨x.Space.Held, x.Space.One, x.Space.Two, x.Space.Kept⟩⟩ : Ttaken) = x := rfl
theorem w_Ttaken : Cell.width Ttaken = 4 := rfl
structure Tpool where
  taken : Ttaken
  data : Int
  deriving DecidableEq
instance cTpool : Cell Tpool := Cell.iso (α := Ttaken × Int) (fun x => (x.taken, x.data)) (fun y => ⟨y.1, y.2⟩) (fun _ => rfl) (fun _ => rfl)
instance iTpool : Inhabited Tpool := ⟨⟨⟨⟨[], [], [], []⟩⟩, 0⟩⟩
theorem enc_Tpool {x : Tpool} : Cell.enc x = [sl x.taken.Space.Held, sl x.taken.Space.One, sl x.taken.Space.Two, sl x.taken.Space.Kept, .int .i64 x.data] := rfl
theorem dc_Tpool {cs : List TV} : (Cell.dec cs : Option Tpool) = (Cell.dec (α := Ttaken × Int) cs).map fun y => ⟨y.1, y.2⟩ := rfl
theorem eta_Tpool {x : Tpool} : (⟨⟨⟨x.taken.Space.Held, x.taken.Space.One, x.taken.Space.Two, x.taken.Space.Kept⟩⟩, x.data⟩ : Tpool) = x := rfl
theorem w_Tpool : Cell.width Tpool = 5 := rfl
structure Trows where
  l : (List TRun)
  m : (List TRun)
  deriving DecidableEq
instance cTrows : Cell Trows := Cell.iso (α := (List TRun) × (List TRun)) (fun x => (x.l, x.m)) (fun y => ⟨y.1, y.2⟩) (fun _ => rfl) (fun _ => rfl)
instance iTrows : Inhabited Trows := ⟨⟨[], []⟩⟩
theorem enc_Trows {x : Trows} : Cell.enc x = [sl x.l, sl x.m] := rfl
theorem dc_Trows {cs : List TV} : (Cell.dec cs : Option Trows) = (Cell.dec (α := (List TRun) × (List TRun)) cs).map fun y => ⟨y.1, y.2⟩ := rfl
theorem eta_Trows {x : Trows} : (⟨x.l, x.m⟩ : Trows) = x := rfl
theorem w_Trows : Cell.width Trows = 2 := rfl
structure Trun where
  Run : TRun
  deriving DecidableEq
instance cTrun : Cell Trun := Cell.iso (α := TRun) (fun x => (x.Run)) (fun y => ⟨y⟩) (fun _ => rfl) (fun _ => rfl)
instance iTrun : Inhabited Trun := ⟨⟨⟨0, 0⟩⟩⟩
theorem enc_Trun {x : Trun} : Cell.enc x = [.int .i64 x.Run.From, .int .i64 x.Run.To] := rfl
theorem dec_Trun {x y : Trun} : (decide (x.Run.From = y.Run.From) && (decide (x.Run.To = y.Run.To))) = decide (x = y) := by
  first | (cases x; cases y; simp [← UInt32.toNat_inj, Int.ofNat_inj, Prod.ext_iff, and_assoc]; done) | (cases x; cases y; simp only [dec_TRun]; simp)
theorem dc_Trun {cs : List TV} : (Cell.dec cs : Option Trun) = (Cell.dec (α := TRun) cs).map fun y => ⟨y⟩ := rfl
theorem eta_Trun {x : Trun} : (⟨⟨x.Run.From, x.Run.To⟩⟩ : Trun) = x := rfl
theorem w_Trun : Cell.width Trun = 2 := rfl
def rl_int {con : FuncId → Option Con} := PLift.up (ld_rules (C := ctx con) ty_int)
def rA_int {con : FuncId → Option Con} := PLift.up (alloc_rules (C := ctx con) ty_int)
def rS_int {con : FuncId → Option Con} := PLift.up (store_rules (C := ctx con) ty_int)
def rR_int {con : FuncId → Option Con} := PLift.up (storeR_rules (C := ctx con) ty_int)
def rl_bool {con : FuncId → Option Con} := PLift.up (ld_rules (C := ctx con) ty_bool)
def rA_bool {con : FuncId → Option Con} := PLift.up (alloc_rules (C := ctx con) ty_bool)
def rS_bool {con : FuncId → Option Con} := PLift.up (store_rules (C := ctx con) ty_bool)
def rR_bool {con : FuncId → Option Con} := PLift.up (storeR_rules (C := ctx con) ty_bool)
def rq_bool {con : FuncId → Option Con} := PLift.up (bool_rules (C := ctx con) ty_bool)
def rl_uint8 {con : FuncId → Option Con} := PLift.up (ld_rules (C := ctx con) ty_uint8)
def rA_uint8 {con : FuncId → Option Con} := PLift.up (alloc_rules (C := ctx con) ty_uint8)
def rS_uint8 {con : FuncId → Option Con} := PLift.up (store_rules (C := ctx con) ty_uint8)
def rR_uint8 {con : FuncId → Option Con} := PLift.up (storeR_rules (C := ctx con) ty_uint8)
def rl_string {con : FuncId → Option Con} := PLift.up (ld_rules (C := ctx con) ty_string)
def rA_string {con : FuncId → Option Con} := PLift.up (alloc_rules (C := ctx con) ty_string)
def rS_string {con : FuncId → Option Con} := PLift.up (store_rules (C := ctx con) ty_string)
def rR_string {con : FuncId → Option Con} := PLift.up (storeR_rules (C := ctx con) ty_string)
def rs_string {con : FuncId → Option Con} := PLift.up (str_rules (C := ctx con) ty_string)
def rl_Luint8 {con : FuncId → Option Con} := PLift.up (ld_rules (C := ctx con) ty_Luint8)
def rA_Luint8 {con : FuncId → Option Con} := PLift.up (alloc_rules (C := ctx con) ty_Luint8)
def rS_Luint8 {con : FuncId → Option Con} := PLift.up (store_rules (C := ctx con) ty_Luint8)
def rR_Luint8 {con : FuncId → Option Con} := PLift.up (storeR_rules (C := ctx con) ty_Luint8)
def rv_Luint8 {con : FuncId → Option Con} := PLift.up (sl_rules (C := ctx con) Byt ty_Luint8 ty_uint8 rfl)
def ri_Luint8 {con : FuncId → Option Con} := PLift.up (idxt_rules (C := ctx con) Byt ty_Luint8 ty_uint8 rfl)
def rb_Luint8 {con : FuncId → Option Con} := PLift.up (bs_rules (C := ctx con) ty_Luint8 ty_uint8)
def rl_Lapi_Run {con : FuncId → Option Con} := PLift.up (ld_rules (C := ctx con) ty_Lapi_Run)
def rA_Lapi_Run {con : FuncId → Option Con} := PLift.up (alloc_rules (C := ctx con) ty_Lapi_Run)
def rS_Lapi_Run {con : FuncId → Option Con} := PLift.up (store_rules (C := ctx con) ty_Lapi_Run)
def rR_Lapi_Run {con : FuncId → Option Con} := PLift.up (storeR_rules (C := ctx con) ty_Lapi_Run)
def rv_Lapi_Run {con : FuncId → Option Con} := PLift.up (sl_rules (C := ctx con) TRun ty_Lapi_Run ty_api_Run rfl)
def ri_Lapi_Run {con : FuncId → Option Con} := PLift.up (idxt_rules (C := ctx con) TRun ty_Lapi_Run ty_api_Run rfl)
def rb_Lapi_Run {con : FuncId → Option Con} := PLift.up (bs_rules (C := ctx con) ty_Lapi_Run ty_api_Run)
def rl_api_Space {con : FuncId → Option Con} := PLift.up (ld_rules (C := ctx con) ty_api_Space)
def rA_api_Space {con : FuncId → Option Con} := PLift.up (alloc_rules (C := ctx con) ty_api_Space)
def rS_api_Space {con : FuncId → Option Con} := PLift.up (store_rules (C := ctx con) ty_api_Space)
def rR_api_Space {con : FuncId → Option Con} := PLift.up (storeR_rules (C := ctx con) ty_api_Space)
def rB_api_Space {con : FuncId → Option Con} := PLift.up (build_rules (C := ctx con) ty_api_Space rfl)
def rF_api_Space_0 {con : FuncId → Option Con} := PLift.up (fillS_rule (C := ctx con) (fs := [(23, 0), (23, 1), (23, 2), (23, 3)]) 0 rfl ty_Lapi_Run)
def rf_api_Space_0 {con : FuncId → Option Con} := PLift.up (fld_rules (C := ctx con) 0 ty_api_Space rfl ty_Lapi_Run)
def rF_api_Space_1 {con : FuncId → Option Con} := PLift.up (fillS_rule (C := ctx con) (fs := [(23, 0), (23, 1), (23, 2), (23, 3)]) 1 rfl ty_Lapi_Run)
def rf_api_Space_1 {con : FuncId → Option Con} := PLift.up (fld_rules (C := ctx con) 1 ty_api_Space rfl ty_Lapi_Run)
def rF_api_Space_2 {con : FuncId → Option Con} := PLift.up (fillS_rule (C := ctx con) (fs := [(23, 0), (23, 1), (23, 2), (23, 3)]) 2 rfl ty_Lapi_Run)
def rf_api_Space_2 {con : FuncId → Option Con} := PLift.up (fld_rules (C := ctx con) 2 ty_api_Space rfl ty_Lapi_Run)
def rF_api_Space_3 {con : FuncId → Option Con} := PLift.up (fillS_rule (C := ctx con) (fs := [(23, 0), (23, 1), (23, 2), (23, 3)]) 3 rfl ty_Lapi_Run)
def rf_api_Space_3 {con : FuncId → Option Con} := PLift.up (fld_rules (C := ctx con) 3 ty_api_Space rfl ty_Lapi_Run)
def rl_Ppalimpmade_Picks {con : FuncId → Option Con} := PLift.up (ld_rules (C := ctx con) ty_Ppalimpmade_Picks)
def rA_Ppalimpmade_Picks {con : FuncId → Option Con} := PLift.up (alloc_rules (C := ctx con) ty_Ppalimpmade_Picks)
def rS_Ppalimpmade_Picks {con : FuncId → Option Con} := PLift.up (store_rules (C := ctx con) ty_Ppalimpmade_Picks)
def rR_Ppalimpmade_Picks {con : FuncId → Option Con} := PLift.up (storeR_rules (C := ctx con) ty_Ppalimpmade_Picks)
def rl_Lapi_Space {con : FuncId → Option Con} := PLift.up (ld_rules (C := ctx con) ty_Lapi_Space)
def rA_Lapi_Space {con : FuncId → Option Con} := PLift.up (alloc_rules (C := ctx con) ty_Lapi_Space)
def rS_Lapi_Space {con : FuncId → Option Con} := PLift.up (store_rules (C := ctx con) ty_Lapi_Space)
def rR_Lapi_Space {con : FuncId → Option Con} := PLift.up (storeR_rules (C := ctx con) ty_Lapi_Space)
def rv_Lapi_Space {con : FuncId → Option Con} := PLift.up (sl_rules (C := ctx con) TSpace ty_Lapi_Space ty_api_Space rfl)
def ri_Lapi_Space {con : FuncId → Option Con} := PLift.up (idxt_rules (C := ctx con) TSpace ty_Lapi_Space ty_api_Space rfl)
def rb_Lapi_Space {con : FuncId → Option Con} := PLift.up (bs_rules (C := ctx con) ty_Lapi_Space ty_api_Space)
def rl_Lint {con : FuncId → Option Con} := PLift.up (ld_rules (C := ctx con) ty_Lint)
def rA_Lint {con : FuncId → Option Con} := PLift.up (alloc_rules (C := ctx con) ty_Lint)
def rS_Lint {con : FuncId → Option Con} := PLift.up (store_rules (C := ctx con) ty_Lint)
def rR_Lint {con : FuncId → Option Con} := PLift.up (storeR_rules (C := ctx con) ty_Lint)
def rv_Lint {con : FuncId → Option Con} := PLift.up (sl_rules (C := ctx con) Int ty_Lint ty_int rfl)
def ri_Lint {con : FuncId → Option Con} := PLift.up (idxt_rules (C := ctx con) Int ty_Lint ty_int rfl)
def rb_Lint {con : FuncId → Option Con} := PLift.up (bs_rules (C := ctx con) ty_Lint ty_int)
def rl_LLapi_Run {con : FuncId → Option Con} := PLift.up (ld_rules (C := ctx con) ty_LLapi_Run)
def rA_LLapi_Run {con : FuncId → Option Con} := PLift.up (alloc_rules (C := ctx con) ty_LLapi_Run)
def rS_LLapi_Run {con : FuncId → Option Con} := PLift.up (store_rules (C := ctx con) ty_LLapi_Run)
def rR_LLapi_Run {con : FuncId → Option Con} := PLift.up (storeR_rules (C := ctx con) ty_LLapi_Run)
def rv_LLapi_Run {con : FuncId → Option Con} := PLift.up (sl_rules (C := ctx con) (List TRun) ty_LLapi_Run ty_Lapi_Run rfl)
def ri_LLapi_Run {con : FuncId → Option Con} := PLift.up (idxt_rules (C := ctx con) (List TRun) ty_LLapi_Run ty_Lapi_Run rfl)
def rb_LLapi_Run {con : FuncId → Option Con} := PLift.up (bs_rules (C := ctx con) ty_LLapi_Run ty_Lapi_Run)
def rl_api_Run {con : FuncId → Option Con} := PLift.up (ld_rules (C := ctx con) ty_api_Run)
def rA_api_Run {con : FuncId → Option Con} := PLift.up (alloc_rules (C := ctx con) ty_api_Run)
def rS_api_Run {con : FuncId → Option Con} := PLift.up (store_rules (C := ctx con) ty_api_Run)
def rR_api_Run {con : FuncId → Option Con} := PLift.up (storeR_rules (C := ctx con) ty_api_Run)
theorem eqf_api_Run : eqF 48 = some [13, 13] := by kernel_rfl
theorem eq_api_Run {con : FuncId → Option Con} : (ctx con).eqk 48 = some [13, 13] := eqf_api_Run
def re_api_Run {con : FuncId → Option Con} := PLift.up (eq_rules (C := ctx con) eq_api_Run)
def rB_api_Run {con : FuncId → Option Con} := PLift.up (build_rules (C := ctx con) ty_api_Run rfl)
def rF_api_Run_0 {con : FuncId → Option Con} := PLift.up (fillS_rule (C := ctx con) (fs := [(3, 0), (3, 1)]) 0 rfl ty_int)
def rf_api_Run_0 {con : FuncId → Option Con} := PLift.up (fld_rules (C := ctx con) 0 ty_api_Run rfl ty_int)
def rF_api_Run_1 {con : FuncId → Option Con} := PLift.up (fillS_rule (C := ctx con) (fs := [(3, 0), (3, 1)]) 1 rfl ty_int)
def rf_api_Run_1 {con : FuncId → Option Con} := PLift.up (fld_rules (C := ctx con) 1 ty_api_Run rfl ty_int)
def rl_palimpmade_Picks {con : FuncId → Option Con} := PLift.up (ld_rules (C := ctx con) ty_palimpmade_Picks)
def rA_palimpmade_Picks {con : FuncId → Option Con} := PLift.up (alloc_rules (C := ctx con) ty_palimpmade_Picks)
def rS_palimpmade_Picks {con : FuncId → Option Con} := PLift.up (store_rules (C := ctx con) ty_palimpmade_Picks)
def rR_palimpmade_Picks {con : FuncId → Option Con} := PLift.up (storeR_rules (C := ctx con) ty_palimpmade_Picks)
def rB_palimpmade_Picks {con : FuncId → Option Con} := PLift.up (build_rules (C := ctx con) ty_palimpmade_Picks rfl)
def rF_palimpmade_Picks_0 {con : FuncId → Option Con} := PLift.up (fillS_rule (C := ctx con) (fs := [(22, 0), (3, 1)]) 0 rfl ty_Luint8)
def rf_palimpmade_Picks_0 {con : FuncId → Option Con} := PLift.up (fld_rules (C := ctx con) 0 ty_palimpmade_Picks rfl ty_Luint8)
def rF_palimpmade_Picks_1 {con : FuncId → Option Con} := PLift.up (fillS_rule (C := ctx con) (fs := [(22, 0), (3, 1)]) 1 rfl ty_int)
def rf_palimpmade_Picks_1 {con : FuncId → Option Con} := PLift.up (fld_rules (C := ctx con) 1 ty_palimpmade_Picks rfl ty_int)
def rl_space_taken {con : FuncId → Option Con} := PLift.up (ld_rules (C := ctx con) ty_space_taken)
def rA_space_taken {con : FuncId → Option Con} := PLift.up (alloc_rules (C := ctx con) ty_space_taken)
def rS_space_taken {con : FuncId → Option Con} := PLift.up (store_rules (C := ctx con) ty_space_taken)
def rR_space_taken {con : FuncId → Option Con} := PLift.up (storeR_rules (C := ctx con) ty_space_taken)
def rB_space_taken {con : FuncId → Option Con} := PLift.up (build_rules (C := ctx con) ty_space_taken rfl)
def rF_space_taken_0 {con : FuncId → Option Con} := PLift.up (fillS_rule (C := ctx con) (fs := [(26, 0)]) 0 rfl ty_api_Space)
def rf_space_taken_0 {con : FuncId → Option Con} := PLift.up (fld_rules (C := ctx con) 0 ty_space_taken rfl ty_api_Space)
def rl_space_pool {con : FuncId → Option Con} := PLift.up (ld_rules (C := ctx con) ty_space_pool)
def rA_space_pool {con : FuncId → Option Con} := PLift.up (alloc_rules (C := ctx con) ty_space_pool)
def rS_space_pool {con : FuncId → Option Con} := PLift.up (store_rules (C := ctx con) ty_space_pool)
def rR_space_pool {con : FuncId → Option Con} := PLift.up (storeR_rules (C := ctx con) ty_space_pool)
def rB_space_pool {con : FuncId → Option Con} := PLift.up (build_rules (C := ctx con) ty_space_pool rfl)
def rF_space_pool_0 {con : FuncId → Option Con} := PLift.up (fillS_rule (C := ctx con) (fs := [(55, 0), (3, 4)]) 0 rfl ty_space_taken)
def rf_space_pool_0 {con : FuncId → Option Con} := PLift.up (fld_rules (C := ctx con) 0 ty_space_pool rfl ty_space_taken)
def rF_space_pool_1 {con : FuncId → Option Con} := PLift.up (fillS_rule (C := ctx con) (fs := [(55, 0), (3, 4)]) 1 rfl ty_int)
def rf_space_pool_1 {con : FuncId → Option Con} := PLift.up (fld_rules (C := ctx con) 1 ty_space_pool rfl ty_int)
def rl_A4Lapi_Run {con : FuncId → Option Con} := PLift.up (ld_rules (C := ctx con) ty_A4Lapi_Run)
def rA_A4Lapi_Run {con : FuncId → Option Con} := PLift.up (alloc_rules (C := ctx con) ty_A4Lapi_Run)
def rS_A4Lapi_Run {con : FuncId → Option Con} := PLift.up (store_rules (C := ctx con) ty_A4Lapi_Run)
def rR_A4Lapi_Run {con : FuncId → Option Con} := PLift.up (storeR_rules (C := ctx con) ty_A4Lapi_Run)
def ra_A4Lapi_Run {con : FuncId → Option Con} := PLift.up (arr_rules (C := ctx con) ty_A4Lapi_Run ty_Lapi_Run)
def rB_A4Lapi_Run {con : FuncId → Option Con} := PLift.up (buildA_rules (C := ctx con) ty_A4Lapi_Run ty_Lapi_Run)
def rl_span_rows {con : FuncId → Option Con} := PLift.up (ld_rules (C := ctx con) ty_span_rows)
def rA_span_rows {con : FuncId → Option Con} := PLift.up (alloc_rules (C := ctx con) ty_span_rows)
def rS_span_rows {con : FuncId → Option Con} := PLift.up (store_rules (C := ctx con) ty_span_rows)
def rR_span_rows {con : FuncId → Option Con} := PLift.up (storeR_rules (C := ctx con) ty_span_rows)
def rB_span_rows {con : FuncId → Option Con} := PLift.up (build_rules (C := ctx con) ty_span_rows rfl)
def rF_span_rows_0 {con : FuncId → Option Con} := PLift.up (fillS_rule (C := ctx con) (fs := [(23, 0), (23, 1)]) 0 rfl ty_Lapi_Run)
def rf_span_rows_0 {con : FuncId → Option Con} := PLift.up (fld_rules (C := ctx con) 0 ty_span_rows rfl ty_Lapi_Run)
def rF_span_rows_1 {con : FuncId → Option Con} := PLift.up (fillS_rule (C := ctx con) (fs := [(23, 0), (23, 1)]) 1 rfl ty_Lapi_Run)
def rf_span_rows_1 {con : FuncId → Option Con} := PLift.up (fld_rules (C := ctx con) 1 ty_span_rows rfl ty_Lapi_Run)
def rl_func_bool__bool__bool {con : FuncId → Option Con} := PLift.up (ld_rules (C := ctx con) ty_func_bool__bool__bool)
def rA_func_bool__bool__bool {con : FuncId → Option Con} := PLift.up (alloc_rules (C := ctx con) ty_func_bool__bool__bool)
def rS_func_bool__bool__bool {con : FuncId → Option Con} := PLift.up (store_rules (C := ctx con) ty_func_bool__bool__bool)
def rR_func_bool__bool__bool {con : FuncId → Option Con} := PLift.up (storeR_rules (C := ctx con) ty_func_bool__bool__bool)
def rl_span_run {con : FuncId → Option Con} := PLift.up (ld_rules (C := ctx con) ty_span_run)
def rA_span_run {con : FuncId → Option Con} := PLift.up (alloc_rules (C := ctx con) ty_span_run)
def rS_span_run {con : FuncId → Option Con} := PLift.up (store_rules (C := ctx con) ty_span_run)
def rR_span_run {con : FuncId → Option Con} := PLift.up (storeR_rules (C := ctx con) ty_span_run)
theorem eqf_span_run : eqF 78 = some [13, 13] := by kernel_rfl
theorem eq_span_run {con : FuncId → Option Con} : (ctx con).eqk 78 = some [13, 13] := eqf_span_run
def re_span_run {con : FuncId → Option Con} := PLift.up (eq_rules (C := ctx con) eq_span_run)
def rB_span_run {con : FuncId → Option Con} := PLift.up (build_rules (C := ctx con) ty_span_run rfl)
def rF_span_run_0 {con : FuncId → Option Con} := PLift.up (fillS_rule (C := ctx con) (fs := [(48, 0)]) 0 rfl ty_api_Run)
def rf_span_run_0 {con : FuncId → Option Con} := PLift.up (fld_rules (C := ctx con) 0 ty_span_run rfl ty_api_Run)
def rl_func_api_Run__bool {con : FuncId → Option Con} := PLift.up (ld_rules (C := ctx con) ty_func_api_Run__bool)
def rA_func_api_Run__bool {con : FuncId → Option Con} := PLift.up (alloc_rules (C := ctx con) ty_func_api_Run__bool)
def rS_func_api_Run__bool {con : FuncId → Option Con} := PLift.up (store_rules (C := ctx con) ty_func_api_Run__bool)
def rR_func_api_Run__bool {con : FuncId → Option Con} := PLift.up (storeR_rules (C := ctx con) ty_func_api_Run__bool)
def rl_uint {con : FuncId → Option Con} := PLift.up (ld_rules (C := ctx con) ty_uint)
def rA_uint {con : FuncId → Option Con} := PLift.up (alloc_rules (C := ctx con) ty_uint)
def rS_uint {con : FuncId → Option Con} := PLift.up (store_rules (C := ctx con) ty_uint)
def rR_uint {con : FuncId → Option Con} := PLift.up (storeR_rules (C := ctx con) ty_uint)
def rl_slices_sortedHint {con : FuncId → Option Con} := PLift.up (ld_rules (C := ctx con) ty_slices_sortedHint)
def rA_slices_sortedHint {con : FuncId → Option Con} := PLift.up (alloc_rules (C := ctx con) ty_slices_sortedHint)
def rS_slices_sortedHint {con : FuncId → Option Con} := PLift.up (store_rules (C := ctx con) ty_slices_sortedHint)
def rR_slices_sortedHint {con : FuncId → Option Con} := PLift.up (storeR_rules (C := ctx con) ty_slices_sortedHint)
def rl_uint32 {con : FuncId → Option Con} := PLift.up (ld_rules (C := ctx con) ty_uint32)
def rA_uint32 {con : FuncId → Option Con} := PLift.up (alloc_rules (C := ctx con) ty_uint32)
def rS_uint32 {con : FuncId → Option Con} := PLift.up (store_rules (C := ctx con) ty_uint32)
def rR_uint32 {con : FuncId → Option Con} := PLift.up (storeR_rules (C := ctx con) ty_uint32)
def rl_uint64 {con : FuncId → Option Con} := PLift.up (ld_rules (C := ctx con) ty_uint64)
def rA_uint64 {con : FuncId → Option Con} := PLift.up (alloc_rules (C := ctx con) ty_uint64)
def rS_uint64 {con : FuncId → Option Con} := PLift.up (store_rules (C := ctx con) ty_uint64)
def rR_uint64 {con : FuncId → Option Con} := PLift.up (storeR_rules (C := ctx con) ty_uint64)
def rl_slices_xorshift {con : FuncId → Option Con} := PLift.up (ld_rules (C := ctx con) ty_slices_xorshift)
def rA_slices_xorshift {con : FuncId → Option Con} := PLift.up (alloc_rules (C := ctx con) ty_slices_xorshift)
def rS_slices_xorshift {con : FuncId → Option Con} := PLift.up (store_rules (C := ctx con) ty_slices_xorshift)
def rR_slices_xorshift {con : FuncId → Option Con} := PLift.up (storeR_rules (C := ctx con) ty_slices_xorshift)
def rl_Pint {con : FuncId → Option Con} := PLift.up (ld_rules (C := ctx con) ty_Pint)
def rA_Pint {con : FuncId → Option Con} := PLift.up (alloc_rules (C := ctx con) ty_Pint)
def rS_Pint {con : FuncId → Option Con} := PLift.up (store_rules (C := ctx con) ty_Pint)
def rR_Pint {con : FuncId → Option Con} := PLift.up (storeR_rules (C := ctx con) ty_Pint)
def rl_Pslices_xorshift {con : FuncId → Option Con} := PLift.up (ld_rules (C := ctx con) ty_Pslices_xorshift)
def rA_Pslices_xorshift {con : FuncId → Option Con} := PLift.up (alloc_rules (C := ctx con) ty_Pslices_xorshift)
def rS_Pslices_xorshift {con : FuncId → Option Con} := PLift.up (store_rules (C := ctx con) ty_Pslices_xorshift)
def rR_Pslices_xorshift {con : FuncId → Option Con} := PLift.up (storeR_rules (C := ctx con) ty_Pslices_xorshift)
def rc_int_uint {con : FuncId → Option Con} := PLift.up (conv_irule (C := ctx con) ty_int ty_uint)
def rc_int_slices_xorshift {con : FuncId → Option Con} := PLift.up (conv_irule (C := ctx con) ty_int ty_slices_xorshift)
def rc_uint8_int {con : FuncId → Option Con} := PLift.up (conv_irule (C := ctx con) ty_uint8 ty_int)
def rc_uint_int {con : FuncId → Option Con} := PLift.up (conv_irule (C := ctx con) ty_uint ty_int)
def rc_uint_uint32 {con : FuncId → Option Con} := PLift.up (conv_irule (C := ctx con) ty_uint ty_uint32)
def rc_uint32_uint8 {con : FuncId → Option Con} := PLift.up (conv_irule (C := ctx con) ty_uint32 ty_uint8)
def rc_uint64_uint8 {con : FuncId → Option Con} := PLift.up (conv_irule (C := ctx con) ty_uint64 ty_uint8)
def vS0 {con : FuncId → Option Con} := PLift.up (And.intro ((rl_int (con := con)).down) (And.intro ((rA_int (con := con)).down) (And.intro ((rS_int (con := con)).down) (And.intro ((rR_int (con := con)).down) (And.intro ((rl_bool (con := con)).down) (And.intro ((rA_bool (con := con)).down) (And.intro ((rS_bool (con := con)).down) (And.intro ((rR_bool (con := con)).down) (And.intro ((rq_bool (con := con)).down) (And.intro ((rl_uint8 (con := con)).down) (And.intro ((rA_uint8 (con := con)).down) (And.intro ((rS_uint8 (con := con)).down) (And.intro ((rR_uint8 (con := con)).down) (And.intro ((rl_string (con := con)).down) (And.intro ((rA_string (con := con)).down) (And.intro ((rS_string (con := con)).down) (And.intro ((rR_string (con := con)).down) (And.intro ((rs_string (con := con)).down) (And.intro ((rl_Luint8 (con := con)).down) ((rA_Luint8 (con := con)).down))))))))))))))))))))
def vS1 {con : FuncId → Option Con} := PLift.up (And.intro ((rS_Luint8 (con := con)).down) (And.intro ((rR_Luint8 (con := con)).down) (And.intro ((rv_Luint8 (con := con)).down) (And.intro ((ri_Luint8 (con := con)).down) (And.intro ((rb_Luint8 (con := con)).down) (And.intro ((rl_Lapi_Run (con := con)).down) (And.intro ((rA_Lapi_Run (con := con)).down) (And.intro ((rS_Lapi_Run (con := con)).down) (And.intro ((rR_Lapi_Run (con := con)).down) (And.intro ((rv_Lapi_Run (con := con)).down) (And.intro ((ri_Lapi_Run (con := con)).down) (And.intro ((rb_Lapi_Run (con := con)).down) (And.intro ((rl_api_Space (con := con)).down) (And.intro ((rA_api_Space (con := con)).down) (And.intro ((rS_api_Space (con := con)).down) (And.intro ((rR_api_Space (con := con)).down) (And.intro ((rB_api_Space (con := con)).down) (And.intro ((rF_api_Space_0 (con := con)).down) (And.intro ((rf_api_Space_0 (con := con)).down) ((rF_api_Space_1 (con := con)).down))))))))))))))))))))
def vS2 {con : FuncId → Option Con} := PLift.up (And.intro ((rf_api_Space_1 (con := con)).down) (And.intro ((rF_api_Space_2 (con := con)).down) (And.intro ((rf_api_Space_2 (con := con)).down) (And.intro ((rF_api_Space_3 (con := con)).down) (And.intro ((rf_api_Space_3 (con := con)).down) (And.intro ((rl_Ppalimpmade_Picks (con := con)).down) (And.intro ((rA_Ppalimpmade_Picks (con := con)).down) (And.intro ((rS_Ppalimpmade_Picks (con := con)).down) (And.intro ((rR_Ppalimpmade_Picks (con := con)).down) (And.intro ((rl_Lapi_Space (con := con)).down) (And.intro ((rA_Lapi_Space (con := con)).down) (And.intro ((rS_Lapi_Space (con := con)).down) (And.intro ((rR_Lapi_Space (con := con)).down) (And.intro ((rv_Lapi_Space (con := con)).down) (And.intro ((ri_Lapi_Space (con := con)).down) (And.intro ((rb_Lapi_Space (con := con)).down) (And.intro ((rl_Lint (con := con)).down) (And.intro ((rA_Lint (con := con)).down) (And.intro ((rS_Lint (con := con)).down) ((rR_Lint (con := con)).down))))))))))))))))))))
def vS3 {con : FuncId → Option Con} := PLift.up (And.intro ((rv_Lint (con := con)).down) (And.intro ((ri_Lint (con := con)).down) (And.intro ((rb_Lint (con := con)).down) (And.intro ((rl_LLapi_Run (con := con)).down) (And.intro ((rA_LLapi_Run (con := con)).down) (And.intro ((rS_LLapi_Run (con := con)).down) (And.intro ((rR_LLapi_Run (con := con)).down) (And.intro ((rv_LLapi_Run (con := con)).down) (And.intro ((ri_LLapi_Run (con := con)).down) (And.intro ((rb_LLapi_Run (con := con)).down) (And.intro ((rl_api_Run (con := con)).down) (And.intro ((rA_api_Run (con := con)).down) (And.intro ((rS_api_Run (con := con)).down) (And.intro ((rR_api_Run (con := con)).down) (And.intro ((re_api_Run (con := con)).down) (And.intro ((rB_api_Run (con := con)).down) (And.intro ((rF_api_Run_0 (con := con)).down) (And.intro ((rf_api_Run_0 (con := con)).down) (And.intro ((rF_api_Run_1 (con := con)).down) ((rf_api_Run_1 (con := con)).down))))))))))))))))))))
def vS4 {con : FuncId → Option Con} := PLift.up (And.intro ((rl_palimpmade_Picks (con := con)).down) (And.intro ((rA_palimpmade_Picks (con := con)).down) (And.intro ((rS_palimpmade_Picks (con := con)).down) (And.intro ((rR_palimpmade_Picks (con := con)).down) (And.intro ((rB_palimpmade_Picks (con := con)).down) (And.intro ((rF_palimpmade_Picks_0 (con := con)).down) (And.intro ((rf_palimpmade_Picks_0 (con := con)).down) (And.intro ((rF_palimpmade_Picks_1 (con := con)).down) (And.intro ((rf_palimpmade_Picks_1 (con := con)).down) (And.intro ((rl_space_taken (con := con)).down) (And.intro ((rA_space_taken (con := con)).down) (And.intro ((rS_space_taken (con := con)).down) (And.intro ((rR_space_taken (con := con)).down) (And.intro ((rB_space_taken (con := con)).down) (And.intro ((rF_space_taken_0 (con := con)).down) (And.intro ((rf_space_taken_0 (con := con)).down) (And.intro ((rl_space_pool (con := con)).down) (And.intro ((rA_space_pool (con := con)).down) (And.intro ((rS_space_pool (con := con)).down) ((rR_space_pool (con := con)).down))))))))))))))))))))
def vS5 {con : FuncId → Option Con} := PLift.up (And.intro ((rB_space_pool (con := con)).down) (And.intro ((rF_space_pool_0 (con := con)).down) (And.intro ((rf_space_pool_0 (con := con)).down) (And.intro ((rF_space_pool_1 (con := con)).down) (And.intro ((rf_space_pool_1 (con := con)).down) (And.intro ((rl_A4Lapi_Run (con := con)).down) (And.intro ((rA_A4Lapi_Run (con := con)).down) (And.intro ((rS_A4Lapi_Run (con := con)).down) (And.intro ((rR_A4Lapi_Run (con := con)).down) (And.intro ((ra_A4Lapi_Run (con := con)).down) (And.intro ((rB_A4Lapi_Run (con := con)).down) (And.intro ((rl_span_rows (con := con)).down) (And.intro ((rA_span_rows (con := con)).down) (And.intro ((rS_span_rows (con := con)).down) (And.intro ((rR_span_rows (con := con)).down) (And.intro ((rB_span_rows (con := con)).down) (And.intro ((rF_span_rows_0 (con := con)).down) (And.intro ((rf_span_rows_0 (con := con)).down) (And.intro ((rF_span_rows_1 (con := con)).down) ((rf_span_rows_1 (con := con)).down))))))))))))))))))))
def vS6 {con : FuncId → Option Con} := PLift.up (And.intro ((rl_func_bool__bool__bool (con := con)).down) (And.intro ((rA_func_bool__bool__bool (con := con)).down) (And.intro ((rS_func_bool__bool__bool (con := con)).down) (And.intro ((rR_func_bool__bool__bool (con := con)).down) (And.intro ((rl_span_run (con := con)).down) (And.intro ((rA_span_run (con := con)).down) (And.intro ((rS_span_run (con := con)).down) (And.intro ((rR_span_run (con := con)).down) (And.intro ((re_span_run (con := con)).down) (And.intro ((rB_span_run (con := con)).down) (And.intro ((rF_span_run_0 (con := con)).down) (And.intro ((rf_span_run_0 (con := con)).down) (And.intro ((rl_func_api_Run__bool (con := con)).down) (And.intro ((rA_func_api_Run__bool (con := con)).down) (And.intro ((rS_func_api_Run__bool (con := con)).down) (And.intro ((rR_func_api_Run__bool (con := con)).down) (And.intro ((rl_uint (con := con)).down) (And.intro ((rA_uint (con := con)).down) (And.intro ((rS_uint (con := con)).down) ((rR_uint (con := con)).down))))))))))))))))))))
def vS7 {con : FuncId → Option Con} := PLift.up (And.intro ((rl_slices_sortedHint (con := con)).down) (And.intro ((rA_slices_sortedHint (con := con)).down) (And.intro ((rS_slices_sortedHint (con := con)).down) (And.intro ((rR_slices_sortedHint (con := con)).down) (And.intro ((rl_uint32 (con := con)).down) (And.intro ((rA_uint32 (con := con)).down) (And.intro ((rS_uint32 (con := con)).down) (And.intro ((rR_uint32 (con := con)).down) (And.intro ((rl_uint64 (con := con)).down) (And.intro ((rA_uint64 (con := con)).down) (And.intro ((rS_uint64 (con := con)).down) (And.intro ((rR_uint64 (con := con)).down) (And.intro ((rl_slices_xorshift (con := con)).down) (And.intro ((rA_slices_xorshift (con := con)).down) (And.intro ((rS_slices_xorshift (con := con)).down) (And.intro ((rR_slices_xorshift (con := con)).down) (And.intro ((rl_Pint (con := con)).down) (And.intro ((rA_Pint (con := con)).down) (And.intro ((rS_Pint (con := con)).down) ((rR_Pint (con := con)).down))))))))))))))))))))
def vS8 {con : FuncId → Option Con} := PLift.up (And.intro ((rl_Pslices_xorshift (con := con)).down) (And.intro ((rA_Pslices_xorshift (con := con)).down) (And.intro ((rS_Pslices_xorshift (con := con)).down) (And.intro ((rR_Pslices_xorshift (con := con)).down) (And.intro ((rc_int_uint (con := con)).down) (And.intro ((rc_int_slices_xorshift (con := con)).down) (And.intro ((rc_uint8_int (con := con)).down) (And.intro ((rc_uint_int (con := con)).down) (And.intro ((rc_uint_uint32 (con := con)).down) (And.intro ((rc_uint32_uint8 (con := con)).down) ((rc_uint64_uint8 (con := con)).down)))))))))))
def vS {con : FuncId → Option Con} := PLift.up (And.intro ((vS0 (con := con)).down) (And.intro ((vS1 (con := con)).down) (And.intro ((vS2 (con := con)).down) (And.intro ((vS3 (con := con)).down) (And.intro ((vS4 (con := con)).down) (And.intro ((vS5 (con := con)).down) (And.intro ((vS6 (con := con)).down) (And.intro ((vS7 (con := con)).down) ((vS8 (con := con)).down)))))))))
def vE := PLift.up (And.intro (@enc_TRun) (And.intro (@enc_TSpace) (And.intro (@enc_TPicks) (And.intro (@enc_Ttaken) (And.intro (@enc_Tpool) (And.intro (@enc_Trows) (And.intro (@enc_Trun) (And.intro (@w_TRun) (And.intro (@w_TSpace) (And.intro (@w_TPicks) (And.intro (@w_Ttaken) (And.intro (@w_Tpool) (And.intro (@w_Trows) (And.intro (@w_Trun) (And.intro (@dc_TRun) (And.intro (@dc_TSpace) (And.intro (@dc_TPicks) (And.intro (@dc_Ttaken) (And.intro (@dc_Tpool) (And.intro (@dc_Trows) (And.intro (@dc_Trun) (And.intro (@eta_TRun) (And.intro (@eta_TSpace) (And.intro (@eta_TPicks) (And.intro (@eta_Ttaken) (And.intro (@eta_Tpool) (And.intro (@eta_Trows) (And.intro (@eta_Trun) (@w_int)))))))))))))))))))))))))))))
theorem mixed : Try.prog.follows .mixedOrders = true := by kernel_rfl
theorem own : ownKnob Try.prog.godebug = none := by kernel_rfl
theorem laid : laidOutB Try.prog = true := by kernel_rfl
end Go.Proofs.Ytgdaibdfjhchbaa

