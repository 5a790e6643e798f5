/-
  The seat's types.
-/
import Derived.Test.YthhgaeeeppipnaaEngC
import Derived.Test.YthhgaeeeppipnaaRows
set_option linter.unusedSimpArgs false
set_option linter.unusedVariables false
namespace Go.Proofs.Ythhgaeeeppipnaa
open Go Go.Eng

noncomputable def tyF : TypeId → Option TyD := tyOf Try.prog
noncomputable def eqF : TypeId → Option (List Nat) := eqOf Try.prog
noncomputable def ctx (con : FuncId → Option Con) : Ctx := ⟨tyF, eqF, con⟩
theorem tyf_int : tyF 3 = some ⟨.int .i64, 1, 8, [.int .i64 0]⟩ := by kernel_rfl
theorem ty_int {con : FuncId → Option Con} : (ctx con).ty 3 = some ⟨.int .i64, 1, 8, [.int .i64 0]⟩ := tyf_int
theorem tyf_bool : tyF 4 = some ⟨.bool, 1, 1, [.bool false]⟩ := by kernel_rfl
theorem ty_bool {con : FuncId → Option Con} : (ctx con).ty 4 = some ⟨.bool, 1, 1, [.bool false]⟩ := tyf_bool
theorem tyf_uint8 : tyF 5 = some ⟨.int .u8, 1, 1, [.int .u8 0]⟩ := by kernel_rfl
theorem ty_uint8 {con : FuncId → Option Con} : (ctx con).ty 5 = some ⟨.int .u8, 1, 1, [.int .u8 0]⟩ := tyf_uint8
theorem tyf_string : tyF 9 = some ⟨.str, 1, 16, [.str []]⟩ := by kernel_rfl
theorem ty_string {con : FuncId → Option Con} : (ctx con).ty 9 = some ⟨.str, 1, 16, [.str []]⟩ := tyf_string
theorem tyf_Lint : tyF 22 = some ⟨.slice 3, 1, 24, [.nilS]⟩ := by kernel_rfl
theorem ty_Lint {con : FuncId → Option Con} : (ctx con).ty 22 = some ⟨.slice 3, 1, 24, [.nilS]⟩ := tyf_Lint
theorem tyf_api_Step : tyF 24 = some ⟨.struct [(3, 0), (3, 1), (3, 2), (3, 3), (3, 4), (9, 5), (9, 6), (9, 7), (22, 8)], 9, 112, [.int .i64 0, .int .i64 0, .int .i64 0, .int .i64 0, .int .i64 0, .str [], .str [], .str [], .nilS]⟩ := by kernel_rfl
theorem ty_api_Step {con : FuncId → Option Con} : (ctx con).ty 24 = some ⟨.struct [(3, 0), (3, 1), (3, 2), (3, 3), (3, 4), (9, 5), (9, 6), (9, 7), (22, 8)], 9, 112, [.int .i64 0, .int .i64 0, .int .i64 0, .int .i64 0, .int .i64 0, .str [], .str [], .str [], .nilS]⟩ := tyf_api_Step
theorem tyf_Luint8 : tyF 25 = some ⟨.slice 5, 1, 24, [.nilS]⟩ := by kernel_rfl
theorem ty_Luint8 {con : FuncId → Option Con} : (ctx con).ty 25 = some ⟨.slice 5, 1, 24, [.nilS]⟩ := tyf_Luint8
theorem tyf_Lapi_Step : tyF 27 = some ⟨.slice 24, 1, 24, [.nilS]⟩ := by kernel_rfl
theorem ty_Lapi_Step {con : FuncId → Option Con} : (ctx con).ty 27 = some ⟨.slice 24, 1, 24, [.nilS]⟩ := tyf_Lapi_Step
theorem tyf_Lstring : tyF 31 = some ⟨.slice 9, 1, 24, [.nilS]⟩ := by kernel_rfl
theorem ty_Lstring {con : FuncId → Option Con} : (ctx con).ty 31 = some ⟨.slice 9, 1, 24, [.nilS]⟩ := tyf_Lstring
theorem tyf_uint16 : tyF 38 = some ⟨.int .u16, 1, 2, [.int .u16 0]⟩ := by kernel_rfl
theorem ty_uint16 {con : FuncId → Option Con} : (ctx con).ty 38 = some ⟨.int .u16, 1, 2, [.int .u16 0]⟩ := tyf_uint16
theorem tyf_Ppalimpmade_Picks : tyF 40 = some ⟨.ptr 58, 1, 8, [.nilP]⟩ := by kernel_rfl
theorem ty_Ppalimpmade_Picks {con : FuncId → Option Con} : (ctx con).ty 40 = some ⟨.ptr 58, 1, 8, [.nilP]⟩ := tyf_Ppalimpmade_Picks
theorem tyf_ops_step : tyF 44 = some ⟨.struct [(24, 0)], 9, 112, [.int .i64 0, .int .i64 0, .int .i64 0, .int .i64 0, .int .i64 0, .str [], .str [], .str [], .nilS]⟩ := by kernel_rfl
theorem ty_ops_step {con : FuncId → Option Con} : (ctx con).ty 44 = some ⟨.struct [(24, 0)], 9, 112, [.int .i64 0, .int .i64 0, .int .i64 0, .int .i64 0, .int .i64 0, .str [], .str [], .str [], .nilS]⟩ := tyf_ops_step
theorem tyf_Lops_field : tyF 46 = some ⟨.slice 48, 1, 24, [.nilS]⟩ := by kernel_rfl
theorem ty_Lops_field {con : FuncId → Option Con} : (ctx con).ty 46 = some ⟨.slice 48, 1, 24, [.nilS]⟩ := tyf_Lops_field
theorem tyf_ops_field : tyF 48 = some ⟨.int .i64, 1, 8, [.int .i64 0]⟩ := by kernel_rfl
theorem ty_ops_field {con : FuncId → Option Con} : (ctx con).ty 48 = some ⟨.int .i64, 1, 8, [.int .i64 0]⟩ := tyf_ops_field
theorem tyf_palimpmade_Picks : tyF 58 = some ⟨.struct [(25, 0), (3, 1)], 2, 32, [.nilS, .int .i64 0]⟩ := by kernel_rfl
theorem ty_palimpmade_Picks {con : FuncId → Option Con} : (ctx con).ty 58 = some ⟨.struct [(25, 0), (3, 1)], 2, 32, [.nilS, .int .i64 0]⟩ := tyf_palimpmade_Picks
theorem tyf_Pops_step : tyF 62 = some ⟨.ptr 44, 1, 8, [.nilP]⟩ := by kernel_rfl
theorem ty_Pops_step {con : FuncId → Option Con} : (ctx con).ty 62 = some ⟨.ptr 44, 1, 8, [.nilP]⟩ := tyf_Pops_step
theorem tyf_Pint : tyF 63 = some ⟨.ptr 3, 1, 8, [.nilP]⟩ := by kernel_rfl
theorem ty_Pint {con : FuncId → Option Con} : (ctx con).ty 63 = some ⟨.ptr 3, 1, 8, [.nilP]⟩ := tyf_Pint
theorem tyf_Pstring : tyF 66 = some ⟨.ptr 9, 1, 8, [.nilP]⟩ := by kernel_rfl
theorem ty_Pstring {con : FuncId → Option Con} : (ctx con).ty 66 = some ⟨.ptr 9, 1, 8, [.nilP]⟩ := tyf_Pstring
structure TStep where
  Kind : Int
  ID : Int
  N : Int
  M : Int
  By : Int
  Path : (List UInt8)
  To : (List UInt8)
  Text : (List UInt8)
  Keep : (List Int)
  deriving DecidableEq
instance cTStep : Cell TStep := Cell.iso (α := Int × Int × Int × Int × Int × (List UInt8) × (List UInt8) × (List UInt8) × (List Int)) (fun x => (x.Kind, x.ID, x.N, x.M, x.By, x.Path, x.To, x.Text, x.Keep)) (fun y => ⟨y.1, y.2.1, y.2.2.1, y.2.2.2.1, y.2.2.2.2.1, y.2.2.2.2.2.1, y.2.2.2.2.2.2.1, y.2.2.2.2.2.2.2.1, y.2.2.2.2.2.2.2.2⟩) (fun _ => rfl) (fun _ => rfl)
instance iTStep : Inhabited TStep := ⟨⟨0, 0, 0, 0, 0, [], [], [], []⟩⟩
theorem enc_TStep {x : TStep} : Cell.enc x = [.int .i64 x.Kind, .int .i64 x.ID, .int .i64 x.N, .int .i64 x.M, .int .i64 x.By, .str x.Path, .str x.To, .str x.Text, sl x.Keep] := rfl
theorem dc_TStep {cs : List TV} : (Cell.dec cs : Option TStep) = (Cell.dec (α := Int × Int × Int × Int × Int × (List UInt8) × (List UInt8) × (List UInt8) × (List Int)) cs).map fun y => ⟨y.1, y.2.1, y.2.2.1, y.2.2.2.1, y.2.2.2.2.1, y.2.2.2.2.2.1, y.2.2.2.2.2.2.1, y.2.2.2.2.2.2.2.1, y.2.2.2.2.2.2.2.2⟩ := rfl
theorem eta_TStep {x : TStep} : (⟨x.Kind, x.ID, x.N, x.M, x.By, x.Path, x.To, x.Text, x.Keep⟩ : TStep) = x := rfl
theorem w_TStep : Cell.width TStep = 9 := rfl
structure Tstep where
  Step : TStep
  deriving DecidableEq
instance cTstep : Cell Tstep := Cell.iso (α := TStep) (fun x => (x.Step)) (fun y => ⟨y⟩) (fun _ => rfl) (fun _ => rfl)
instance iTstep : Inhabited Tstep := ⟨⟨⟨0, 0, 0, 0, 0, [], [], [], []⟩⟩⟩
theorem enc_Tstep {x : Tstep} : Cell.enc x = [.int .i64 x.Step.Kind, .int .i64 x.Step.ID, .int .i64 x.Step.N, .int .i64 x.Step.M, .int .i64 x.Step.By, .str x.Step.Path, .str x.Step.To, .str x.Step.Text, sl x.Step.Keep] := rfl
theorem dc_Tstep {cs : List TV} : (Cell.dec cs : Option Tstep) = (Cell.dec (α := TStep) cs).map fun y => ⟨y⟩ := rfl
theorem eta_Tstep {x : Tstep} : (⟨⟨x.Step.Kind, x.Step.ID, x.Step.N, x.Step.M, x.Step.By, x.Step.Path, x.Step.To, x.Step.Text, x.Step.Keep⟩⟩ : Tstep) = x := rfl
theorem w_Tstep : Cell.width Tstep = 9 := rfl
structure TPicks where
  l : (List Byt)
  n : Int
  deriving DecidableEq
instance cTPicks : Cell TPicks := Cell.iso (α := (List Byt) × Int) (fun x => (x.l, x.n)) (fun y => ⟨y.1, y.2⟩) (fun _ => rfl) (fun _ => rfl)
instance iTPicks : Inhabited TPicks := ⟨⟨[], 0⟩⟩
theorem enc_TPicks {x : TPicks} : Cell.enc x = [sl x.l, .int .i64 x.n] := rfl
theorem dc_TPicks {cs : List TV} : (Cell.dec cs : Option TPicks) = (Cell.dec (α := (List Byt) × Int) cs).map fun y => ⟨y.1, y.2⟩ := rfl
theorem eta_TPicks {x : TPicks} : (⟨x.l, x.n⟩ : TPicks) = x := rfl
theorem w_TPicks : Cell.width TPicks = 2 := rfl
def rl_int {con : FuncId → Option Con} := PLift.up (ld_rules (C := ctx con) ty_int)
def rA_int {con : FuncId → Option Con} := PLift.up (alloc_rules (C := ctx con) ty_int)
def rS_int {con : FuncId → Option Con} := PLift.up (store_rules (C := ctx con) ty_int)
def rR_int {con : FuncId → Option Con} := PLift.up (storeR_rules (C := ctx con) ty_int)
def rl_bool {con : FuncId → Option Con} := PLift.up (ld_rules (C := ctx con) ty_bool)
def rA_bool {con : FuncId → Option Con} := PLift.up (alloc_rules (C := ctx con) ty_bool)
def rS_bool {con : FuncId → Option Con} := PLift.up (store_rules (C := ctx con) ty_bool)
def rR_bool {con : FuncId → Option Con} := PLift.up (storeR_rules (C := ctx con) ty_bool)
def rq_bool {con : FuncId → Option Con} := PLift.up (bool_rules (C := ctx con) ty_bool)
def rl_uint8 {con : FuncId → Option Con} := PLift.up (ld_rules (C := ctx con) ty_uint8)
def rA_uint8 {con : FuncId → Option Con} := PLift.up (alloc_rules (C := ctx con) ty_uint8)
def rS_uint8 {con : FuncId → Option Con} := PLift.up (store_rules (C := ctx con) ty_uint8)
def rR_uint8 {con : FuncId → Option Con} := PLift.up (storeR_rules (C := ctx con) ty_uint8)
def rl_string {con : FuncId → Option Con} := PLift.up (ld_rules (C := ctx con) ty_string)
def rA_string {con : FuncId → Option Con} := PLift.up (alloc_rules (C := ctx con) ty_string)
def rS_string {con : FuncId → Option Con} := PLift.up (store_rules (C := ctx con) ty_string)
def rR_string {con : FuncId → Option Con} := PLift.up (storeR_rules (C := ctx con) ty_string)
def rs_string {con : FuncId → Option Con} := PLift.up (str_rules (C := ctx con) ty_string)
def rl_Lint {con : FuncId → Option Con} := PLift.up (ld_rules (C := ctx con) ty_Lint)
def rA_Lint {con : FuncId → Option Con} := PLift.up (alloc_rules (C := ctx con) ty_Lint)
def rS_Lint {con : FuncId → Option Con} := PLift.up (store_rules (C := ctx con) ty_Lint)
def rR_Lint {con : FuncId → Option Con} := PLift.up (storeR_rules (C := ctx con) ty_Lint)
def rv_Lint {con : FuncId → Option Con} := PLift.up (sl_rules (C := ctx con) Int ty_Lint ty_int rfl)
def ri_Lint {con : FuncId → Option Con} := PLift.up (idxt_rules (C := ctx con) Int ty_Lint ty_int rfl)
def rb_Lint {con : FuncId → Option Con} := PLift.up (bs_rules (C := ctx con) ty_Lint ty_int)
def rl_api_Step {con : FuncId → Option Con} := PLift.up (ld_rules (C := ctx con) ty_api_Step)
def rA_api_Step {con : FuncId → Option Con} := PLift.up (alloc_rules (C := ctx con) ty_api_Step)
def rS_api_Step {con : FuncId → Option Con} := PLift.up (store_rules (C := ctx con) ty_api_Step)
def rR_api_Step {con : FuncId → Option Con} := PLift.up (storeR_rules (C := ctx con) ty_api_Step)
def rB_api_Step {con : FuncId → Option Con} := PLift.up (build_rules (C := ctx con) ty_api_Step rfl)
def rF_api_Step_0 {con : FuncId → Option Con} := PLift.up (fillS_rule (C := ctx con) (fs := [(3, 0), (3, 1), (3, 2), (3, 3), (3, 4), (9, 5), (9, 6), (9, 7), (22, 8)]) 0 rfl ty_int)
def rf_api_Step_0 {con : FuncId → Option Con} := PLift.up (fld_rules (C := ctx con) 0 ty_api_Step rfl ty_int)
def rF_api_Step_1 {con : FuncId → Option Con} := PLift.up (fillS_rule (C := ctx con) (fs := [(3, 0), (3, 1), (3, 2), (3, 3), (3, 4), (9, 5), (9, 6), (9, 7), (22, 8)]) 1 rfl ty_int)
def rf_api_Step_1 {con : FuncId → Option Con} := PLift.up (fld_rules (C := ctx con) 1 ty_api_Step rfl ty_int)
def rF_api_Step_2 {con : FuncId → Option Con} := PLift.up (fillS_rule (C := ctx con) (fs := [(3, 0), (3, 1), (3, 2), (3, 3), (3, 4), (9, 5), (9, 6), (9, 7), (22, 8)]) 2 rfl ty_int)
def rf_api_Step_2 {con : FuncId → Option Con} := PLift.up (fld_rules (C := ctx con) 2 ty_api_Step rfl ty_int)
def rF_api_Step_3 {con : FuncId → Option Con} := PLift.up (fillS_rule (C := ctx con) (fs := [(3, 0), (3, 1), (3, 2), (3, 3), (3, 4), (9, 5), (9, 6), (9, 7), (22, 8)]) 3 rfl ty_int)
def rf_api_Step_3 {con : FuncId → Option Con} := PLift.up (fld_rules (C := ctx con) 3 ty_api_Step rfl ty_int)
def rF_api_Step_4 {con : FuncId → Option Con} := PLift.up (fillS_rule (C := ctx con) (fs := [(3, 0), (3, 1), (3, 2), (3, 3), (3, 4), (9, 5), (9, 6), (9, 7), (22, 8)]) 4 rfl ty_int)
def rf_api_Step_4 {con : FuncId → Option Con} := PLift.up (fld_rules (C := ctx con) 4 ty_api_Step rfl ty_int)
def rF_api_Step_5 {con : FuncId → Option Con} := PLift.up (fillS_rule (C := ctx con) (fs := [(3, 0), (3, 1), (3, 2), (3, 3), (3, 4), (9, 5), (9, 6), (9, 7), (22, 8)]) 5 rfl ty_string)
def rf_api_Step_5 {con : FuncId → Option Con} := PLift.up (fld_rules (C := ctx con) 5 ty_api_Step rfl ty_string)
def rF_api_Step_6 {con : FuncId → Option Con} := PLift.up (fillS_rule (C := ctx con) (fs := [(3, 0), (3, 1), (3, 2), (3, 3), (3, 4), (9, 5), (9, 6), (9, 7), (22, 8)]) 6 rfl ty_string)
def rf_api_Step_6 {con : FuncId → Option Con} := PLift.up (fld_rules (C := ctx con) 6 ty_api_Step rfl ty_string)
def rF_api_Step_7 {con : FuncId → Option Con} := PLift.up (fillS_rule (C := ctx con) (fs := [(3, 0), (3, 1), (3, 2), (3, 3), (3, 4), (9, 5), (9, 6), (9, 7), (22, 8)]) 7 rfl ty_string)
def rf_api_Step_7 {con : FuncId → Option Con} := PLift.up (fld_rules (C := ctx con) 7 ty_api_Step rfl ty_string)
def rF_api_Step_8 {con : FuncId → Option Con} := PLift.up (fillS_rule (C := ctx con) (fs := [(3, 0), (3, 1), (3, 2), (3, 3), (3, 4), (9, 5), (9, 6), (9, 7), (22, 8)]) 8 rfl ty_Lint)
def rf_api_Step_8 {con : FuncId → Option Con} := PLift.up (fld_rules (C := ctx con) 8 ty_api_Step rfl ty_Lint)
def rl_Luint8 {con : FuncId → Option Con} := PLift.up (ld_rules (C := ctx con) ty_Luint8)
def rA_Luint8 {con : FuncId → Option Con} := PLift.up (alloc_rules (C := ctx con) ty_Luint8)
def rS_Luint8 {con : FuncId → Option Con} := PLift.up (store_rules (C := ctx con) ty_Luint8)
def rR_Luint8 {con : FuncId → Option Con} := PLift.up (storeR_rules (C := ctx con) ty_Luint8)
def rv_Luint8 {con : FuncId → Option Con} := PLift.up (sl_rules (C := ctx con) Byt ty_Luint8 ty_uint8 rfl)
def ri_Luint8 {con : FuncId → Option Con} := PLift.up (idxt_rules (C := ctx con) Byt ty_Luint8 ty_uint8 rfl)
def rb_Luint8 {con : FuncId → Option Con} := PLift.up (bs_rules (C := ctx con) ty_Luint8 ty_uint8)
def rl_Lapi_Step {con : FuncId → Option Con} := PLift.up (ld_rules (C := ctx con) ty_Lapi_Step)
def rA_Lapi_Step {con : FuncId → Option Con} := PLift.up (alloc_rules (C := ctx con) ty_Lapi_Step)
def rS_Lapi_Step {con : FuncId → Option Con} := PLift.up (store_rules (C := ctx con) ty_Lapi_Step)
def rR_Lapi_Step {con : FuncId → Option Con} := PLift.up (storeR_rules (C := ctx con) ty_Lapi_Step)
def rv_Lapi_Step {con : FuncId → Option Con} := PLift.up (sl_rules (C := ctx con) TStep ty_Lapi_Step ty_api_Step rfl)
def ri_Lapi_Step {con : FuncId → Option Con} := PLift.up (idxt_rules (C := ctx con) TStep ty_Lapi_Step ty_api_Step rfl)
def rb_Lapi_Step {con : FuncId → Option Con} := PLift.up (bs_rules (C := ctx con) ty_Lapi_Step ty_api_Step)
def rl_Lstring {con : FuncId → Option Con} := PLift.up (ld_rules (C := ctx con) ty_Lstring)
def rA_Lstring {con : FuncId → Option Con} := PLift.up (alloc_rules (C := ctx con) ty_Lstring)
def rS_Lstring {con : FuncId → Option Con} := PLift.up (store_rules (C := ctx con) ty_Lstring)
def rR_Lstring {con : FuncId → Option Con} := PLift.up (storeR_rules (C := ctx con) ty_Lstring)
def rv_Lstring {con : FuncId → Option Con} := PLift.up (sl_rules (C := ctx con) (List UInt8) ty_Lstring ty_string rfl)
def ri_Lstring {con : FuncId → Option Con} := PLift.up (idxt_rules (C := ctx con) (List UInt8) ty_Lstring ty_string rfl)
def rb_Lstring {con : FuncId → Option Con} := PLift.up (bs_rules (C := ctx con) ty_Lstring ty_string)
def rl_uint16 {con : FuncId → Option Con} := PLift.up (ld_rules (C := ctx con) ty_uint16)
def rA_uint16 {con : FuncId → Option Con} := PLift.up (alloc_rules (C := ctx con) ty_uint16)
def rS_uint16 {con : FuncId → Option Con} := PLift.up (store_rules (C := ctx con) ty_uint16)
def rR_uint16 {con : FuncId → Option Con} := PLift.up (storeR_rules (C := ctx con) ty_uint16)
def rl_Ppalimpmade_Picks {con : FuncId → Option Con} := PLift.up (ld_rules (C := ctx con) ty_Ppalimpmade_Picks)
def rA_Ppalimpmade_Picks {con : FuncId → Option Con} := PLift.up (alloc_rules (C := ctx con) ty_Ppalimpmade_Picks)
def rS_Ppalimpmade_Picks {con : FuncId → Option Con} := PLift.up (store_rules (C := ctx con) ty_Ppalimpmade_Picks)
def rR_Ppalimpmade_Picks {con : FuncId → Option Con} := PLift.up (storeR_rules (C := ctx con) ty_Ppalimpmade_Picks)
def rl_ops_step {con : FuncId → Option Con} := PLift.up (ld_rules (C := ctx con) ty_ops_step)
def rA_ops_step {con : FuncId → Option Con} := PLift.up (alloc_rules (C := ctx con) ty_ops_step)
def rS_ops_step {con : FuncId → Option Con} := PLift.up (store_rules (C := ctx con) ty_ops_step)
def rR_ops_step {con : FuncId → Option Con} := PLift.up (storeR_rules (C := ctx con) ty_ops_step)
def rB_ops_step {con : FuncId → Option Con} := PLift.up (build_rules (C := ctx con) ty_ops_step rfl)
def rF_ops_step_0 {con : FuncId → Option Con} := PLift.up (fillS_rule (C := ctx con) (fs := [(24, 0)]) 0 rfl ty_api_Step)
def rf_ops_step_0 {con : FuncId → Option Con} := PLift.up (fld_rules (C := ctx con) 0 ty_ops_step rfl ty_api_Step)
def rl_Lops_field {con : FuncId → Option Con} := PLift.up (ld_rules (C := ctx con) ty_Lops_field)
def rA_Lops_field {con : FuncId → Option Con} := PLift.up (alloc_rules (C := ctx con) ty_Lops_field)
def rS_Lops_field {con : FuncId → Option Con} := PLift.up (store_rules (C := ctx con) ty_Lops_field)
def rR_Lops_field {con : FuncId → Option Con} := PLift.up (storeR_rules (C := ctx con) ty_Lops_field)
def rv_Lops_field {con : FuncId → Option Con} := PLift.up (sl_rules (C := ctx con) Int ty_Lops_field ty_ops_field rfl)
def ri_Lops_field {con : FuncId → Option Con} := PLift.up (idxt_rules (C := ctx con) Int ty_Lops_field ty_ops_field rfl)
def rb_Lops_field {con : FuncId → Option Con} := PLift.up (bs_rules (C := ctx con) ty_Lops_field ty_ops_field)
def rl_ops_field {con : FuncId → Option Con} := PLift.up (ld_rules (C := ctx con) ty_ops_field)
def rA_ops_field {con : FuncId → Option Con} := PLift.up (alloc_rules (C := ctx con) ty_ops_field)
def rS_ops_field {con : FuncId → Option Con} := PLift.up (store_rules (C := ctx con) ty_ops_field)
def rR_ops_field {con : FuncId → Option Con} := PLift.up (storeR_rules (C := ctx con) ty_ops_field)
def rl_palimpmade_Picks {con : FuncId → Option Con} := PLift.up (ld_rules (C := ctx con) ty_palimpmade_Picks)
def rA_palimpmade_Picks {con : FuncId → Option Con} := PLift.up (alloc_rules (C := ctx con) ty_palimpmade_Picks)
def rS_palimpmade_Picks {con : FuncId → Option Con} := PLift.up (store_rules (C := ctx con) ty_palimpmade_Picks)
def rR_palimpmade_Picks {con : FuncId → Option Con} := PLift.up (storeR_rules (C := ctx con) ty_palimpmade_Picks)
def rB_palimpmade_Picks {con : FuncId → Option Con} := PLift.up (build_rules (C := ctx con) ty_palimpmade_Picks rfl)
def rF_palimpmade_Picks_0 {con : FuncId → Option Con} := PLift.up (fillS_rule (C := ctx con) (fs := [(25, 0), (3, 1)]) 0 rfl ty_Luint8)
def rf_palimpmade_Picks_0 {con : FuncId → Option Con} := PLift.up (fld_rules (C := ctx con) 0 ty_palimpmade_Picks rfl ty_Luint8)
def rF_palimpmade_Picks_1 {con : FuncId → Option Con} := PLift.up (fillS_rule (C := ctx con) (fs := [(25, 0), (3, 1)]) 1 rfl ty_int)
def rf_palimpmade_Picks_1 {con : FuncId → Option Con} := PLift.up (fld_rules (C := ctx con) 1 ty_palimpmade_Picks rfl ty_int)
def rl_Pops_step {con : FuncId → Option Con} := PLift.up (ld_rules (C := ctx con) ty_Pops_step)
def rA_Pops_step {con : FuncId → Option Con} := PLift.up (alloc_rules (C := ctx con) ty_Pops_step)
def rS_Pops_step {con : FuncId → Option Con} := PLift.up (store_rules (C := ctx con) ty_Pops_step)
def rR_Pops_step {con : FuncId → Option Con} := PLift.up (storeR_rules (C := ctx con) ty_Pops_step)
def rl_Pint {con : FuncId → Option Con} := PLift.up (ld_rules (C := ctx con) ty_Pint)
def rA_Pint {con : FuncId → Option Con} := PLift.up (alloc_rules (C := ctx con) ty_Pint)
def rS_Pint {con : FuncId → Option Con} := PLift.up (store_rules (C := ctx con) ty_Pint)
def rR_Pint {con : FuncId → Option Con} := PLift.up (storeR_rules (C := ctx con) ty_Pint)
def rl_Pstring {con : FuncId → Option Con} := PLift.up (ld_rules (C := ctx con) ty_Pstring)
def rA_Pstring {con : FuncId → Option Con} := PLift.up (alloc_rules (C := ctx con) ty_Pstring)
def rS_Pstring {con : FuncId → Option Con} := PLift.up (store_rules (C := ctx con) ty_Pstring)
def rR_Pstring {con : FuncId → Option Con} := PLift.up (storeR_rules (C := ctx con) ty_Pstring)
def rc_int_uint8 {con : FuncId → Option Con} := PLift.up (conv_irule (C := ctx con) ty_int ty_uint8)
def rc_uint8_int {con : FuncId → Option Con} := PLift.up (conv_irule (C := ctx con) ty_uint8 ty_int)
def rc_string_Luint8 {con : FuncId → Option Con} := PLift.up (conv_brule (C := ctx con) ty_string ty_Luint8 ty_uint8)
def rc_Luint8_string {con : FuncId → Option Con} := PLift.up (conv_trule (C := ctx con) ty_Luint8 ty_string ty_uint8)
def rc_uint16_int {con : FuncId → Option Con} := PLift.up (conv_irule (C := ctx con) ty_uint16 ty_int)
def vS0 {con : FuncId → Option Con} := PLift.up (And.intro ((rl_int (con := con)).down) (And.intro ((rA_int (con := con)).down) (And.intro ((rS_int (con := con)).down) (And.intro ((rR_int (con := con)).down) (And.intro ((rl_bool (con := con)).down) (And.intro ((rA_bool (con := con)).down) (And.intro ((rS_bool (con := con)).down) (And.intro ((rR_bool (con := con)).down) (And.intro ((rq_bool (con := con)).down) (And.intro ((rl_uint8 (con := con)).down) (And.intro ((rA_uint8 (con := con)).down) (And.intro ((rS_uint8 (con := con)).down) (And.intro ((rR_uint8 (con := con)).down) (And.intro ((rl_string (con := con)).down) (And.intro ((rA_string (con := con)).down) (And.intro ((rS_string (con := con)).down) (And.intro ((rR_string (con := con)).down) (And.intro ((rs_string (con := con)).down) (And.intro ((rl_Lint (con := con)).down) ((rA_Lint (con := con)).down))))))))))))))))))))
def vS1 {con : FuncId → Option Con} := PLift.up (And.intro ((rS_Lint (con := con)).down) (And.intro ((rR_Lint (con := con)).down) (And.intro ((rv_Lint (con := con)).down) (And.intro ((ri_Lint (con := con)).down) (And.intro ((rb_Lint (con := con)).down) (And.intro ((rl_api_Step (con := con)).down) (And.intro ((rA_api_Step (con := con)).down) (And.intro ((rS_api_Step (con := con)).down) (And.intro ((rR_api_Step (con := con)).down) (And.intro ((rB_api_Step (con := con)).down) (And.intro ((rF_api_Step_0 (con := con)).down) (And.intro ((rf_api_Step_0 (con := con)).down) (And.intro ((rF_api_Step_1 (con := con)).down) (And.intro ((rf_api_Step_1 (con := con)).down) (And.intro ((rF_api_Step_2 (con := con)).down) (And.intro ((rf_api_Step_2 (con := con)).down) (And.intro ((rF_api_Step_3 (con := con)).down) (And.intro ((rf_api_Step_3 (con := con)).down) (And.intro ((rF_api_Step_4 (con := con)).down) ((rf_api_Step_4 (con := con)).down))))))))))))))))))))
def vS2 {con : FuncId → Option Con} := PLift.up (And.intro ((rF_api_Step_5 (con := con)).down) (And.intro ((rf_api_Step_5 (con := con)).down) (And.intro ((rF_api_Step_6 (con := con)).down) (And.intro ((rf_api_Step_6 (con := con)).down) (And.intro ((rF_api_Step_7 (con := con)).down) (And.intro ((rf_api_Step_7 (con := con)).down) (And.intro ((rF_api_Step_8 (con := con)).down) (And.intro ((rf_api_Step_8 (con := con)).down) (And.intro ((rl_Luint8 (con := con)).down) (And.intro ((rA_Luint8 (con := con)).down) (And.intro ((rS_Luint8 (con := con)).down) (And.intro ((rR_Luint8 (con := con)).down) (And.intro ((rv_Luint8 (con := con)).down) (And.intro ((ri_Luint8 (con := con)).down) (And.intro ((rb_Luint8 (con := con)).down) (And.intro ((rl_Lapi_Step (con := con)).down) (And.intro ((rA_Lapi_Step (con := con)).down) (And.intro ((rS_Lapi_Step (con := con)).down) (And.intro ((rR_Lapi_Step (con := con)).down) ((rv_Lapi_Step (con := con)).down))))))))))))))))))))
def vS3 {con : FuncId → Option Con} := PLift.up (And.intro ((ri_Lapi_Step (con := con)).down) (And.intro ((rb_Lapi_Step (con := con)).down) (And.intro ((rl_Lstring (con := con)).down) (And.intro ((rA_Lstring (con := con)).down) (And.intro ((rS_Lstring (con := con)).down) (And.intro ((rR_Lstring (con := con)).down) (And.intro ((rv_Lstring (con := con)).down) (And.intro ((ri_Lstring (con := con)).down) (And.intro ((rb_Lstring (con := con)).down) (And.intro ((rl_uint16 (con := con)).down) (And.intro ((rA_uint16 (con := con)).down) (And.intro ((rS_uint16 (con := con)).down) (And.intro ((rR_uint16 (con := con)).down) (And.intro ((rl_Ppalimpmade_Picks (con := con)).down) (And.intro ((rA_Ppalimpmade_Picks (con := con)).down) (And.intro ((rS_Ppalimpmade_Picks (con := con)).down) (And.intro ((rR_Ppalimpmade_Picks (con := con)).down) (And.intro ((rl_ops_step (con := con)).down) (And.intro ((rA_ops_step (con := con)).down) ((rS_ops_step (con := con)).down))))))))))))))))))))
def vS4 {con : FuncId → Option Con} := PLift.up (And.intro ((rR_ops_step (con := con)).down) (And.intro ((rB_ops_step (con := con)).down) (And.intro ((rF_ops_step_0 (con := con)).down) (And.intro ((rf_ops_step_0 (con := con)).down) (And.intro ((rl_Lops_field (con := con)).down) (And.intro ((rA_Lops_field (con := con)).down) (And.intro ((rS_Lops_field (con := con)).down) (And.intro ((rR_Lops_field (con := con)).down) (And.intro ((rv_Lops_field (con := con)).down) (And.intro ((ri_Lops_field (con := con)).down) (And.intro ((rb_Lops_field (con := con)).down) (And.intro ((rl_ops_field (con := con)).down) (And.intro ((rA_ops_field (con := con)).down) (And.intro ((rS_ops_field (con := con)).down) (And.intro ((rR_ops_field (con := con)).down) (And.intro ((rl_palimpmade_Picks (con := con)).down) (And.intro ((rA_palimpmade_Picks (con := con)).down) (And.intro ((rS_palimpmade_Picks (con := con)).down) (And.intro ((rR_palimpmade_Picks (con := con)).down) ((rB_palimpmade_Picks (con := con)).down))))))))))))))))))))
def vS5 {con : FuncId → Option Con} := PLift.up (And.intro ((rF_palimpmade_Picks_0 (con := con)).down) (And.intro ((rf_palimpmade_Picks_0 (con := con)).down) (And.intro ((rF_palimpmade_Picks_1 (con := con)).down) (And.intro ((rf_palimpmade_Picks_1 (con := con)).down) (And.intro ((rl_Pops_step (con := con)).down) (And.intro ((rA_Pops_step (con := con)).down) (And.intro ((rS_Pops_step (con := con)).down) (And.intro ((rR_Pops_step (con := con)).down) (And.intro ((rl_Pint (con := con)).down) (And.intro ((rA_Pint (con := con)).down) (And.intro ((rS_Pint (con := con)).down) (And.intro ((rR_Pint (con := con)).down) (And.intro ((rl_Pstring (con := con)).down) (And.intro ((rA_Pstring (con := con)).down) (And.intro ((rS_Pstring (con := con)).down) (And.intro ((rR_Pstring (con := con)).down) (And.intro ((rc_int_uint8 (con := con)).down) (And.intro ((rc_uint8_int (con := con)).down) (And.intro ((rc_string_Luint8 (con := con)).down) ((rc_Luint8_string (con := con)).down))))))))))))))))))))
def vS6 {con : FuncId → Option Con} := PLift.up ((rc_uint16_int (con := con)).down)
def vS {con : FuncId → Option Con} := PLift.up (And.intro ((vS0 (con := con)).down) (And.intro ((vS1 (con := con)).down) (And.intro ((vS2 (con := con)).down) (And.intro ((vS3 (con := con)).down) (And.intro ((vS4 (con := con)).down) (And.intro ((vS5 (con := con)).down) ((vS6 (con := con)).down)))))))
def vE := PLift.up (And.intro (@enc_TStep) (And.intro (@enc_Tstep) (And.intro (@enc_TPicks) (And.intro (@w_TStep) (And.intro (@w_Tstep) (And.intro (@w_TPicks) (And.intro (@dc_TStep) (And.intro (@dc_Tstep) (And.intro (@dc_TPicks) (And.intro (@eta_TStep) (And.intro (@eta_Tstep) (And.intro (@eta_TPicks) (@w_int)))))))))))))
theorem mixed : Try.prog.follows .mixedOrders = true := by kernel_rfl
theorem own : ownKnob Try.prog.godebug = none := by kernel_rfl
theorem laid : laidOutB Try.prog = true := by kernel_rfl
end Go.Proofs.Ythhgaeeeppipnaa

