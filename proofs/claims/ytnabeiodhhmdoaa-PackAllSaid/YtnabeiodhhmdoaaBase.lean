/-
  The seat's types.
-/
import Derived.Test.YtnabeiodhhmdoaaEngC
import Derived.Test.YtnabeiodhhmdoaaRows
set_option linter.unusedSimpArgs false
set_option linter.unusedVariables false
namespace Go.Proofs.Ytnabeiodhhmdoaa
open Go Go.Eng

noncomputable def tyF : TypeId → Option TyD := tyOf Try.prog
noncomputable def ctx (con : FuncId → Option Con) : Ctx := ⟨tyF, fun _ => none, con⟩
theorem tyf_int : tyF 3 = some ⟨.int .i64, 1, 8, [.int .i64 0]⟩ := by kernel_rfl
theorem ty_int {con : FuncId → Option Con} : (ctx con).ty 3 = some ⟨.int .i64, 1, 8, [.int .i64 0]⟩ := tyf_int
theorem tyf_bool : tyF 4 = some ⟨.bool, 1, 1, [.bool false]⟩ := by kernel_rfl
theorem ty_bool {con : FuncId → Option Con} : (ctx con).ty 4 = some ⟨.bool, 1, 1, [.bool false]⟩ := tyf_bool
theorem tyf_uint8 : tyF 5 = some ⟨.int .u8, 1, 1, [.int .u8 0]⟩ := by kernel_rfl
theorem ty_uint8 {con : FuncId → Option Con} : (ctx con).ty 5 = some ⟨.int .u8, 1, 1, [.int .u8 0]⟩ := tyf_uint8
theorem tyf_string : tyF 9 = some ⟨.str, 1, 16, [.str []]⟩ := by kernel_rfl
theorem ty_string {con : FuncId → Option Con} : (ctx con).ty 9 = some ⟨.str, 1, 16, [.str []]⟩ := tyf_string
theorem tyf_A4int : tyF 22 = some ⟨.arr 4 3, 4, 32, [.int .i64 0, .int .i64 0, .int .i64 0, .int .i64 0]⟩ := by kernel_rfl
theorem ty_A4int {con : FuncId → Option Con} : (ctx con).ty 22 = some ⟨.arr 4 3, 4, 32, [.int .i64 0, .int .i64 0, .int .i64 0, .int .i64 0]⟩ := tyf_A4int
theorem tyf_Lstring : tyF 24 = some ⟨.slice 9, 1, 24, [.nilS]⟩ := by kernel_rfl
theorem ty_Lstring {con : FuncId → Option Con} : (ctx con).ty 24 = some ⟨.slice 9, 1, 24, [.nilS]⟩ := tyf_Lstring
theorem tyf_Lint : tyF 26 = some ⟨.slice 3, 1, 24, [.nilS]⟩ := by kernel_rfl
theorem ty_Lint {con : FuncId → Option Con} : (ctx con).ty 26 = some ⟨.slice 3, 1, 24, [.nilS]⟩ := tyf_Lint
theorem tyf_uint32 : tyF 32 = some ⟨.int .u32, 1, 4, [.int .u32 0]⟩ := by kernel_rfl
theorem ty_uint32 {con : FuncId → Option Con} : (ctx con).ty 32 = some ⟨.int .u32, 1, 4, [.int .u32 0]⟩ := tyf_uint32
theorem tyf_A4uint32 : tyF 33 = some ⟨.arr 4 32, 4, 16, [.int .u32 0, .int .u32 0, .int .u32 0, .int .u32 0]⟩ := by kernel_rfl
theorem ty_A4uint32 {con : FuncId → Option Con} : (ctx con).ty 33 = some ⟨.arr 4 32, 4, 16, [.int .u32 0, .int .u32 0, .int .u32 0, .int .u32 0]⟩ := tyf_A4uint32
theorem tyf_A4uint8 : tyF 34 = some ⟨.arr 4 5, 4, 4, [.int .u8 0, .int .u8 0, .int .u8 0, .int .u8 0]⟩ := by kernel_rfl
theorem ty_A4uint8 {con : FuncId → Option Con} : (ctx con).ty 34 = some ⟨.arr 4 5, 4, 4, [.int .u8 0, .int .u8 0, .int .u8 0, .int .u8 0]⟩ := tyf_A4uint8
theorem tyf_Luint8 : tyF 41 = some ⟨.slice 5, 1, 24, [.nilS]⟩ := by kernel_rfl
theorem ty_Luint8 {con : FuncId → Option Con} : (ctx con).ty 41 = some ⟨.slice 5, 1, 24, [.nilS]⟩ := tyf_Luint8
def rl_int {con : FuncId → Option Con} := PLift.up (ld_rules (C := ctx con) ty_int)
def rl_bool {con : FuncId → Option Con} := PLift.up (ld_rules (C := ctx con) ty_bool)
def rq_bool {con : FuncId → Option Con} := PLift.up (bool_rules (C := ctx con) ty_bool)
def rl_uint8 {con : FuncId → Option Con} := PLift.up (ld_rules (C := ctx con) ty_uint8)
def rl_string {con : FuncId → Option Con} := PLift.up (ld_rules (C := ctx con) ty_string)
def rs_string {con : FuncId → Option Con} := PLift.up (str_rules (C := ctx con) ty_string)
def rl_A4int {con : FuncId → Option Con} := PLift.up (ld_rules (C := ctx con) ty_A4int)
def ra_A4int {con : FuncId → Option Con} := PLift.up (arr_rules (C := ctx con) ty_A4int ty_int)
def rl_Lstring {con : FuncId → Option Con} := PLift.up (ld_rules (C := ctx con) ty_Lstring)
def rv_Lstring {con : FuncId → Option Con} := PLift.up (sl_rules (C := ctx con) (List UInt8) ty_Lstring ty_string rfl)
def ri_Lstring {con : FuncId → Option Con} := PLift.up (idxt_rules (C := ctx con) (List UInt8) ty_Lstring ty_string rfl)
def rb_Lstring {con : FuncId → Option Con} := PLift.up (bs_rules (C := ctx con) ty_Lstring ty_string)
def rl_Lint {con : FuncId → Option Con} := PLift.up (ld_rules (C := ctx con) ty_Lint)
def rv_Lint {con : FuncId → Option Con} := PLift.up (sl_rules (C := ctx con) Int ty_Lint ty_int rfl)
def ri_Lint {con : FuncId → Option Con} := PLift.up (idxt_rules (C := ctx con) Int ty_Lint ty_int rfl)
def rb_Lint {con : FuncId → Option Con} := PLift.up (bs_rules (C := ctx con) ty_Lint ty_int)
def rl_uint32 {con : FuncId → Option Con} := PLift.up (ld_rules (C := ctx con) ty_uint32)
def rl_A4uint32 {con : FuncId → Option Con} := PLift.up (ld_rules (C := ctx con) ty_A4uint32)
def ra_A4uint32 {con : FuncId → Option Con} := PLift.up (arr_rules (C := ctx con) ty_A4uint32 ty_uint32)
def rl_A4uint8 {con : FuncId → Option Con} := PLift.up (ld_rules (C := ctx con) ty_A4uint8)
def ra_A4uint8 {con : FuncId → Option Con} := PLift.up (arr_rules (C := ctx con) ty_A4uint8 ty_uint8)
def rl_Luint8 {con : FuncId → Option Con} := PLift.up (ld_rules (C := ctx con) ty_Luint8)
def rv_Luint8 {con : FuncId → Option Con} := PLift.up (sl_rules (C := ctx con) Byt ty_Luint8 ty_uint8 rfl)
def ri_Luint8 {con : FuncId → Option Con} := PLift.up (idxt_rules (C := ctx con) Byt ty_Luint8 ty_uint8 rfl)
def rb_Luint8 {con : FuncId → Option Con} := PLift.up (bs_rules (C := ctx con) ty_Luint8 ty_uint8)
def rc_int_uint8 {con : FuncId → Option Con} := PLift.up (conv_irule (C := ctx con) ty_int ty_uint8)
def rc_int_uint32 {con : FuncId → Option Con} := PLift.up (conv_irule (C := ctx con) ty_int ty_uint32)
def rc_uint8_int {con : FuncId → Option Con} := PLift.up (conv_irule (C := ctx con) ty_uint8 ty_int)
def rc_string_Luint8 {con : FuncId → Option Con} := PLift.up (conv_brule (C := ctx con) ty_string ty_Luint8 ty_uint8)
def rc_uint32_int {con : FuncId → Option Con} := PLift.up (conv_irule (C := ctx con) ty_uint32 ty_int)
def rc_Luint8_string {con : FuncId → Option Con} := PLift.up (conv_trule (C := ctx con) ty_Luint8 ty_string ty_uint8)
def vS0 {con : FuncId → Option Con} := PLift.up (And.intro ((rl_int (con := con)).down) (And.intro ((rl_bool (con := con)).down) (And.intro ((rq_bool (con := con)).down) (And.intro ((rl_uint8 (con := con)).down) (And.intro ((rl_string (con := con)).down) (And.intro ((rs_string (con := con)).down) (And.intro ((rl_A4int (con := con)).down) (And.intro ((ra_A4int (con := con)).down) (And.intro ((rl_Lstring (con := con)).down) (And.intro ((rv_Lstring (con := con)).down) (And.intro ((ri_Lstring (con := con)).down) (And.intro ((rb_Lstring (con := con)).down) (And.intro ((rl_Lint (con := con)).down) (And.intro ((rv_Lint (con := con)).down) (And.intro ((ri_Lint (con := con)).down) (And.intro ((rb_Lint (con := con)).down) (And.intro ((rl_uint32 (con := con)).down) (And.intro ((rl_A4uint32 (con := con)).down) (And.intro ((ra_A4uint32 (con := con)).down) ((rl_A4uint8 (con := con)).down))))))))))))))))))))
def vS1 {con : FuncId → Option Con} := PLift.up (And.intro ((ra_A4uint8 (con := con)).down) (And.intro ((rl_Luint8 (con := con)).down) (And.intro ((rv_Luint8 (con := con)).down) (And.intro ((ri_Luint8 (con := con)).down) (And.intro ((rb_Luint8 (con := con)).down) (And.intro ((rc_int_uint8 (con := con)).down) (And.intro ((rc_int_uint32 (con := con)).down) (And.intro ((rc_uint8_int (con := con)).down) (And.intro ((rc_string_Luint8 (con := con)).down) (And.intro ((rc_uint32_int (con := con)).down) ((rc_Luint8_string (con := con)).down)))))))))))
def vS {con : FuncId → Option Con} := PLift.up (And.intro ((vS0 (con := con)).down) ((vS1 (con := con)).down))
theorem mixed : Try.prog.follows .mixedOrders = true := by kernel_rfl
theorem own : ownKnob Try.prog.godebug = none := by kernel_rfl
theorem laid : laidOutB Try.prog = true := by kernel_rfl
end Go.Proofs.Ytnabeiodhhmdoaa
