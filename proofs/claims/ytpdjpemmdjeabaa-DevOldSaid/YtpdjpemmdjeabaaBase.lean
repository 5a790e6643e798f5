/-
  The seat's types.
-/
import Derived.Test.YtpdjpemmdjeabaaEngC
import Derived.Test.YtpdjpemmdjeabaaRows
set_option linter.unusedSimpArgs false
set_option linter.unusedVariables false
namespace Go.Proofs.Ytpdjpemmdjeabaa
open Go Go.Eng

noncomputable def tyF : TypeId → Option TyD := tyOf Try.prog
noncomputable def eqF : TypeId → Option (List Nat) := eqOf Try.prog
noncomputable def ctx (con : FuncId → Option Con) : Ctx := ⟨tyF, eqF, con⟩
theorem tyf_int : tyF 3 = some ⟨.int .i64, 1, 8, [.int .i64 0]⟩ := by kernel_rfl
theorem ty_int {con : FuncId → Option Con} : (ctx con).ty 3 = some ⟨.int .i64, 1, 8, [.int .i64 0]⟩ := tyf_int
theorem tyf_bool : tyF 4 = some ⟨.bool, 1, 1, [.bool false]⟩ := by kernel_rfl
theorem ty_bool {con : FuncId → Option Con} : (ctx con).ty 4 = some ⟨.bool, 1, 1, [.bool false]⟩ := tyf_bool
theorem tyf_uint8 : tyF 5 = some ⟨.int .u8, 1, 1, [.int .u8 0]⟩ := by kernel_rfl
theorem ty_uint8 {con : FuncId → Option Con} : (ctx con).ty 5 = some ⟨.int .u8, 1, 1, [.int .u8 0]⟩ := tyf_uint8
theorem tyf_string : tyF 9 = some ⟨.str, 1, 16, [.str []]⟩ := by kernel_rfl
theorem ty_string {con : FuncId → Option Con} : (ctx con).ty 9 = some ⟨.str, 1, 16, [.str []]⟩ := tyf_string
theorem tyf_LA2uint8 : tyF 22 = some ⟨.slice 32, 1, 24, [.nilS]⟩ := by kernel_rfl
theorem ty_LA2uint8 {con : FuncId → Option Con} : (ctx con).ty 22 = some ⟨.slice 32, 1, 24, [.nilS]⟩ := tyf_LA2uint8
theorem tyf_Luint8 : tyF 23 = some ⟨.slice 5, 1, 24, [.nilS]⟩ := by kernel_rfl
theorem ty_Luint8 {con : FuncId → Option Con} : (ctx con).ty 23 = some ⟨.slice 5, 1, 24, [.nilS]⟩ := tyf_Luint8
theorem tyf_Lstring : tyF 25 = some ⟨.slice 9, 1, 24, [.nilS]⟩ := by kernel_rfl
theorem ty_Lstring {con : FuncId → Option Con} : (ctx con).ty 25 = some ⟨.slice 9, 1, 24, [.nilS]⟩ := tyf_Lstring
theorem tyf_Lapi_Put : tyF 26 = some ⟨.slice 35, 1, 24, [.nilS]⟩ := by kernel_rfl
theorem ty_Lapi_Put {con : FuncId → Option Con} : (ctx con).ty 26 = some ⟨.slice 35, 1, 24, [.nilS]⟩ := tyf_Lapi_Put
theorem tyf_api_Dev : tyF 28 = some ⟨.struct [(25, 0), (26, 1), (3, 2), (3, 3), (4, 4)], 5, 72, [.nilS, .nilS, .int .i64 0, .int .i64 0, .bool false]⟩ := by kernel_rfl
theorem ty_api_Dev {con : FuncId → Option Con} : (ctx con).ty 28 = some ⟨.struct [(25, 0), (26, 1), (3, 2), (3, 3), (4, 4)], 5, 72, [.nilS, .nilS, .int .i64 0, .int .i64 0, .bool false]⟩ := tyf_api_Dev
theorem tyf_A2uint8 : tyF 32 = some ⟨.arr 2 5, 2, 2, [.int .u8 0, .int .u8 0]⟩ := by kernel_rfl
theorem ty_A2uint8 {con : FuncId → Option Con} : (ctx con).ty 32 = some ⟨.arr 2 5, 2, 2, [.int .u8 0, .int .u8 0]⟩ := tyf_A2uint8
theorem tyf_api_Put : tyF 35 = some ⟨.struct [(3, 0), (9, 1)], 2, 24, [.int .i64 0, .str []]⟩ := by kernel_rfl
theorem ty_api_Put {con : FuncId → Option Con} : (ctx con).ty 35 = some ⟨.struct [(3, 0), (9, 1)], 2, 24, [.int .i64 0, .str []]⟩ := tyf_api_Put
theorem tyf_Lint : tyF 37 = some ⟨.slice 3, 1, 24, [.nilS]⟩ := by kernel_rfl
theorem ty_Lint {con : FuncId → Option Con} : (ctx con).ty 37 = some ⟨.slice 3, 1, 24, [.nilS]⟩ := tyf_Lint
theorem tyf_LA3uint8 : tyF 47 = some ⟨.slice 48, 1, 24, [.nilS]⟩ := by kernel_rfl
theorem ty_LA3uint8 {con : FuncId → Option Con} : (ctx con).ty 47 = some ⟨.slice 48, 1, 24, [.nilS]⟩ := tyf_LA3uint8
theorem tyf_A3uint8 : tyF 48 = some ⟨.arr 3 5, 3, 3, [.int .u8 0, .int .u8 0, .int .u8 0]⟩ := by kernel_rfl
theorem ty_A3uint8 {con : FuncId → Option Con} : (ctx con).ty 48 = some ⟨.arr 3 5, 3, 3, [.int .u8 0, .int .u8 0, .int .u8 0]⟩ := tyf_A3uint8
theorem tyf_A4api_Dev : tyF 54 = some ⟨.arr 4 28, 20, 288, [.nilS, .nilS, .int .i64 0, .int .i64 0, .bool false, .nilS, .nilS, .int .i64 0, .int .i64 0, .bool false, .nilS, .nilS, .int .i64 0, .int .i64 0, .bool false, .nilS, .nilS, .int .i64 0, .int .i64 0, .bool false]⟩ := by kernel_rfl
theorem ty_A4api_Dev {con : FuncId → Option Con} : (ctx con).ty 54 = some ⟨.arr 4 28, 20, 288, [.nilS, .nilS, .int .i64 0, .int .i64 0, .bool false, .nilS, .nilS, .int .i64 0, .int .i64 0, .bool false, .nilS, .nilS, .int .i64 0, .int .i64 0, .bool false, .nilS, .nilS, .int .i64 0, .int .i64 0, .bool false]⟩ := tyf_A4api_Dev
theorem tyf_Papi_Dev : tyF 59 = some ⟨.ptr 28, 1, 8, [.nilP]⟩ := by kernel_rfl
theorem ty_Papi_Dev {con : FuncId → Option Con} : (ctx con).ty 59 = some ⟨.ptr 28, 1, 8, [.nilP]⟩ := tyf_Papi_Dev
theorem tyf_func_int__int : tyF 60 = some ⟨.fn, 1, 8, [.nilF]⟩ := by kernel_rfl
theorem ty_func_int__int {con : FuncId → Option Con} : (ctx con).ty 60 = some ⟨.fn, 1, 8, [.nilF]⟩ := tyf_func_int__int
theorem tyf_iter_Seq2_int_api_Put_ : tyF 62 = some ⟨.fn, 1, 8, [.nilF]⟩ := by kernel_rfl
theorem ty_iter_Seq2_int_api_Put_ {con : FuncId → Option Con} : (ctx con).ty 62 = some ⟨.fn, 1, 8, [.nilF]⟩ := tyf_iter_Seq2_int_api_Put_
theorem tyf_func_int__api_Put__bool : tyF 70 = some ⟨.fn, 1, 8, [.nilF]⟩ := by kernel_rfl
theorem ty_func_int__api_Put__bool {con : FuncId → Option Con} : (ctx con).ty 70 = some ⟨.fn, 1, 8, [.nilF]⟩ := tyf_func_int__api_Put__bool
theorem tyf_A2string : tyF 71 = some ⟨.arr 2 9, 2, 32, [.str [], .str []]⟩ := by kernel_rfl
theorem ty_A2string {con : FuncId → Option Con} : (ctx con).ty 71 = some ⟨.arr 2 9, 2, 32, [.str [], .str []]⟩ := tyf_A2string
structure TPut where
  At : Int
  B : (List UInt8)
  deriving DecidableEq
instance cTPut : Cell TPut := Cell.iso (α := Int × (List UInt8)) (fun x => (x.At, x.B)) (fun y => ⟨y.1, y.2⟩) (fun _ => rfl) (fun _ => rfl)
instance iTPut : Inhabited TPut := ⟨⟨0, []⟩⟩
theorem enc_TPut {x : TPut} : Cell.enc x = [.int .i64 x.At, .str x.B] := rfl
theorem dec_TPut {x y : TPut} : (decide (x.At = y.At) && (decide (x.B = y.B))) = decide (x = y) := by
  first | (cases x; cases y; simp [← UInt32.toNat_inj, Int.ofNat_inj, Prod.ext_iff, and_assoc]; done) | (cases x; cases y; simp only [true_and]; simp)
theorem dc_TPut {cs : List TV} : (Cell.dec cs : Option TPut) = (Cell.dec (α := Int × (List UInt8)) cs).map fun y => ⟨y.1, y.2⟩ := rfl
theorem eta_TPut {x : TPut} : (⟨x.At, x.B⟩ : TPut) = x := rfl
theorem w_TPut : Cell.width TPut = 2 := rfl
structure TDev where
  Last : (List (List UInt8))
  Wait : (List TPut)
  Lies : Int
  Arm : Int
  Down : Bool
  deriving DecidableEq
instance cTDev : Cell TDev := Cell.iso (α := (List (List UInt8)) × (List TPut) × Int × Int × Bool) (fun x => (x.Last, x.Wait, x.Lies, x.Arm, x.Down)) (fun y => ⟨y.1, y.2.1, y.2.2.1, y.2.2.2.1, y.2.2.2.2⟩) (fun _ => rfl) (fun _ => rfl)
instance iTDev : Inhabited TDev := ⟨⟨[], [], 0, 0, false⟩⟩
theorem enc_TDev {x : TDev} : Cell.enc x = [sl x.Last, sl x.Wait, .int .i64 x.Lies, .int .i64 x.Arm, .bool x.Down] := rfl
theorem dc_TDev {cs : List TV} : (Cell.dec cs : Option TDev) = (Cell.dec (α := (List (List UInt8)) × (List TPut) × Int × Int × Bool) cs).map fun y => ⟨y.1, y.2.1, y.2.2.1, y.2.2.2.1, y.2.2.2.2⟩ := rfl
theorem eta_TDev {x : TDev} : (⟨x.Last, x.Wait, x.Lies, x.Arm, x.Down⟩ : TDev) = x := rfl
theorem w_TDev : Cell.width TDev = 5 := rfl
def rl_int {con : FuncId → Option Con} := PLift.up (ld_rules (C := ctx con) ty_int)
def rA_int {con : FuncId → Option Con} := PLift.up (alloc_rules (C := ctx con) ty_int)
def rS_int {con : FuncId → Option Con} := PLift.up (store_rules (C := ctx con) ty_int)
def rR_int {con : FuncId → Option Con} := PLift.up (storeR_rules (C := ctx con) ty_int)
def rl_bool {con : FuncId → Option Con} := PLift.up (ld_rules (C := ctx con) ty_bool)
def rA_bool {con : FuncId → Option Con} := PLift.up (alloc_rules (C := ctx con) ty_bool)
def rS_bool {con : FuncId → Option Con} := PLift.up (store_rules (C := ctx con) ty_bool)
def rR_bool {con : FuncId → Option Con} := PLift.up (storeR_rules (C := ctx con) ty_bool)
def rq_bool {con : FuncId → Option Con} := PLift.up (bool_rules (C := ctx con) ty_bool)
def rl_uint8 {con : FuncId → Option Con} := PLift.up (ld_rules (C := ctx con) ty_uint8)
def rA_uint8 {con : FuncId → Option Con} := PLift.up (alloc_rules (C := ctx con) ty_uint8)
def rS_uint8 {con : FuncId → Option Con} := PLift.up (store_rules (C := ctx con) ty_uint8)
def rR_uint8 {con : FuncId → Option Con} := PLift.up (storeR_rules (C := ctx con) ty_uint8)
def rl_string {con : FuncId → Option Con} := PLift.up (ld_rules (C := ctx con) ty_string)
def rA_string {con : FuncId → Option Con} := PLift.up (alloc_rules (C := ctx con) ty_string)
def rS_string {con : FuncId → Option Con} := PLift.up (store_rules (C := ctx con) ty_string)
def rR_string {con : FuncId → Option Con} := PLift.up (storeR_rules (C := ctx con) ty_string)
def rs_string {con : FuncId → Option Con} := PLift.up (str_rules (C := ctx con) ty_string)
def rl_LA2uint8 {con : FuncId → Option Con} := PLift.up (ld_rules (C := ctx con) ty_LA2uint8)
def rA_LA2uint8 {con : FuncId → Option Con} := PLift.up (alloc_rules (C := ctx con) ty_LA2uint8)
def rS_LA2uint8 {con : FuncId → Option Con} := PLift.up (store_rules (C := ctx con) ty_LA2uint8)
def rR_LA2uint8 {con : FuncId → Option Con} := PLift.up (storeR_rules (C := ctx con) ty_LA2uint8)
def rv_LA2uint8 {con : FuncId → Option Con} := PLift.up (sl_rules (C := ctx con) (Byt × Byt) ty_LA2uint8 ty_A2uint8 rfl)
def ri_LA2uint8 {con : FuncId → Option Con} := PLift.up (idxt_rules (C := ctx con) (Byt × Byt) ty_LA2uint8 ty_A2uint8 rfl)
def rb_LA2uint8 {con : FuncId → Option Con} := PLift.up (bs_rules (C := ctx con) ty_LA2uint8 ty_A2uint8)
def rl_Luint8 {con : FuncId → Option Con} := PLift.up (ld_rules (C := ctx con) ty_Luint8)
def rA_Luint8 {con : FuncId → Option Con} := PLift.up (alloc_rules (C := ctx con) ty_Luint8)
def rS_Luint8 {con : FuncId → Option Con} := PLift.up (store_rules (C := ctx con) ty_Luint8)
def rR_Luint8 {con : FuncId → Option Con} := PLift.up (storeR_rules (C := ctx con) ty_Luint8)
def rv_Luint8 {con : FuncId → Option Con} := PLift.up (sl_rules (C := ctx con) Byt ty_Luint8 ty_uint8 rfl)
def ri_Luint8 {con : FuncId → Option Con} := PLift.up (idxt_rules (C := ctx con) Byt ty_Luint8 ty_uint8 rfl)
def rb_Luint8 {con : FuncId → Option Con} := PLift.up (bs_rules (C := ctx con) ty_Luint8 ty_uint8)
def rl_Lstring {con : FuncId → Option Con} := PLift.up (ld_rules (C := ctx con) ty_Lstring)
def rA_Lstring {con : FuncId → Option Con} := PLift.up (alloc_rules (C := ctx con) ty_Lstring)
def rS_Lstring {con : FuncId → Option Con} := PLift.up (store_rules (C := ctx con) ty_Lstring)
def rR_Lstring {con : FuncId → Option Con} := PLift.up (storeR_rules (C := ctx con) ty_Lstring)
def rv_Lstring {con : FuncId → Option Con} := PLift.up (sl_rules (C := ctx con) (List UInt8) ty_Lstring ty_string rfl)
def ri_Lstring {con : FuncId → Option Con} := PLift.up (idxt_rules (C := ctx con) (List UInt8) ty_Lstring ty_string rfl)
def rb_Lstring {con : FuncId → Option Con} := PLift.up (bs_rules (C := ctx con) ty_Lstring ty_string)
def rl_Lapi_Put {con : FuncId → Option Con} := PLift.up (ld_rules (C := ctx con) ty_Lapi_Put)
def rA_Lapi_Put {con : FuncId → Option Con} := PLift.up (alloc_rules (C := ctx con) ty_Lapi_Put)
def rS_Lapi_Put {con : FuncId → Option Con} := PLift.up (store_rules (C := ctx con) ty_Lapi_Put)
def rR_Lapi_Put {con : FuncId → Option Con} := PLift.up (storeR_rules (C := ctx con) ty_Lapi_Put)
def rv_Lapi_Put {con : FuncId → Option Con} := PLift.up (sl_rules (C := ctx con) TPut ty_Lapi_Put ty_api_Put rfl)
def ri_Lapi_Put {con : FuncId → Option Con} := PLift.up (idxt_rules (C := ctx con) TPut ty_Lapi_Put ty_api_Put rfl)
def rb_Lapi_Put {con : FuncId → Option Con} := PLift.up (bs_rules (C := ctx con) ty_Lapi_Put ty_api_Put)
def rl_api_Dev {con : FuncId → Option Con} := PLift.up (ld_rules (C := ctx con) ty_api_Dev)
def rA_api_Dev {con : FuncId → Option Con} := PLift.up (alloc_rules (C := ctx con) ty_api_Dev)
def rS_api_Dev {con : FuncId → Option Con} := PLift.up (store_rules (C := ctx con) ty_api_Dev)
def rR_api_Dev {con : FuncId → Option Con} := PLift.up (storeR_rules (C := ctx con) ty_api_Dev)
def rB_api_Dev {con : FuncId → Option Con} := PLift.up (build_rules (C := ctx con) ty_api_Dev rfl)
def rF_api_Dev_0 {con : FuncId → Option Con} := PLift.up (fillS_rule (C := ctx con) (fs := [(25, 0), (26, 1), (3, 2), (3, 3), (4, 4)]) 0 rfl ty_Lstring)
def rf_api_Dev_0 {con : FuncId → Option Con} := PLift.up (fld_rules (C := ctx con) 0 ty_api_Dev rfl ty_Lstring)
def rF_api_Dev_1 {con : FuncId → Option Con} := PLift.up (fillS_rule (C := ctx con) (fs := [(25, 0), (26, 1), (3, 2), (3, 3), (4, 4)]) 1 rfl ty_Lapi_Put)
def rf_api_Dev_1 {con : FuncId → Option Con} := PLift.up (fld_rules (C := ctx con) 1 ty_api_Dev rfl ty_Lapi_Put)
def rF_api_Dev_2 {con : FuncId → Option Con} := PLift.up (fillS_rule (C := ctx con) (fs := [(25, 0), (26, 1), (3, 2), (3, 3), (4, 4)]) 2 rfl ty_int)
def rf_api_Dev_2 {con : FuncId → Option Con} := PLift.up (fld_rules (C := ctx con) 2 ty_api_Dev rfl ty_int)
def rF_api_Dev_3 {con : FuncId → Option Con} := PLift.up (fillS_rule (C := ctx con) (fs := [(25, 0), (26, 1), (3, 2), (3, 3), (4, 4)]) 3 rfl ty_int)
def rf_api_Dev_3 {con : FuncId → Option Con} := PLift.up (fld_rules (C := ctx con) 3 ty_api_Dev rfl ty_int)
def rF_api_Dev_4 {con : FuncId → Option Con} := PLift.up (fillS_rule (C := ctx con) (fs := [(25, 0), (26, 1), (3, 2), (3, 3), (4, 4)]) 4 rfl ty_bool)
def rf_api_Dev_4 {con : FuncId → Option Con} := PLift.up (fld_rules (C := ctx con) 4 ty_api_Dev rfl ty_bool)
def rl_A2uint8 {con : FuncId → Option Con} := PLift.up (ld_rules (C := ctx con) ty_A2uint8)
def rA_A2uint8 {con : FuncId → Option Con} := PLift.up (alloc_rules (C := ctx con) ty_A2uint8)
def rS_A2uint8 {con : FuncId → Option Con} := PLift.up (store_rules (C := ctx con) ty_A2uint8)
def rR_A2uint8 {con : FuncId → Option Con} := PLift.up (storeR_rules (C := ctx con) ty_A2uint8)
theorem eqf_A2uint8 : eqF 32 = some [14, 14] := by kernel_rfl
theorem eq_A2uint8 {con : FuncId → Option Con} : (ctx con).eqk 32 = some [14, 14] := eqf_A2uint8
def re_A2uint8 {con : FuncId → Option Con} := PLift.up (eq_rules (C := ctx con) eq_A2uint8)
def ra_A2uint8 {con : FuncId → Option Con} := PLift.up (arr_rules (C := ctx con) ty_A2uint8 ty_uint8)
def rB_A2uint8 {con : FuncId → Option Con} := PLift.up (buildA_rules (C := ctx con) ty_A2uint8 ty_uint8)
def rl_api_Put {con : FuncId → Option Con} := PLift.up (ld_rules (C := ctx con) ty_api_Put)
def rA_api_Put {con : FuncId → Option Con} := PLift.up (alloc_rules (C := ctx con) ty_api_Put)
def rS_api_Put {con : FuncId → Option Con} := PLift.up (store_rules (C := ctx con) ty_api_Put)
def rR_api_Put {con : FuncId → Option Con} := PLift.up (storeR_rules (C := ctx con) ty_api_Put)
theorem eqf_api_Put : eqF 35 = some [13, 3] := by kernel_rfl
theorem eq_api_Put {con : FuncId → Option Con} : (ctx con).eqk 35 = some [13, 3] := eqf_api_Put
def re_api_Put {con : FuncId → Option Con} := PLift.up (eq_rules (C := ctx con) eq_api_Put)
def rB_api_Put {con : FuncId → Option Con} := PLift.up (build_rules (C := ctx con) ty_api_Put rfl)
def rF_api_Put_0 {con : FuncId → Option Con} := PLift.up (fillS_rule (C := ctx con) (fs := [(3, 0), (9, 1)]) 0 rfl ty_int)
def rf_api_Put_0 {con : FuncId → Option Con} := PLift.up (fld_rules (C := ctx con) 0 ty_api_Put rfl ty_int)
def rF_api_Put_1 {con : FuncId → Option Con} := PLift.up (fillS_rule (C := ctx con) (fs := [(3, 0), (9, 1)]) 1 rfl ty_string)
def rf_api_Put_1 {con : FuncId → Option Con} := PLift.up (fld_rules (C := ctx con) 1 ty_api_Put rfl ty_string)
def rl_Lint {con : FuncId → Option Con} := PLift.up (ld_rules (C := ctx con) ty_Lint)
def rA_Lint {con : FuncId → Option Con} := PLift.up (alloc_rules (C := ctx con) ty_Lint)
def rS_Lint {con : FuncId → Option Con} := PLift.up (store_rules (C := ctx con) ty_Lint)
def rR_Lint {con : FuncId → Option Con} := PLift.up (storeR_rules (C := ctx con) ty_Lint)
def rv_Lint {con : FuncId → Option Con} := PLift.up (sl_rules (C := ctx con) Int ty_Lint ty_int rfl)
def ri_Lint {con : FuncId → Option Con} := PLift.up (idxt_rules (C := ctx con) Int ty_Lint ty_int rfl)
def rb_Lint {con : FuncId → Option Con} := PLift.up (bs_rules (C := ctx con) ty_Lint ty_int)
def rl_LA3uint8 {con : FuncId → Option Con} := PLift.up (ld_rules (C := ctx con) ty_LA3uint8)
def rA_LA3uint8 {con : FuncId → Option Con} := PLift.up (alloc_rules (C := ctx con) ty_LA3uint8)
def rS_LA3uint8 {con : FuncId → Option Con} := PLift.up (store_rules (C := ctx con) ty_LA3uint8)
def rR_LA3uint8 {con : FuncId → Option Con} := PLift.up (storeR_rules (C := ctx con) ty_LA3uint8)
def rv_LA3uint8 {con : FuncId → Option Con} := PLift.up (sl_rules (C := ctx con) (Byt × Byt × Byt) ty_LA3uint8 ty_A3uint8 rfl)
def ri_LA3uint8 {con : FuncId → Option Con} := PLift.up (idxt_rules (C := ctx con) (Byt × Byt × Byt) ty_LA3uint8 ty_A3uint8 rfl)
def rb_LA3uint8 {con : FuncId → Option Con} := PLift.up (bs_rules (C := ctx con) ty_LA3uint8 ty_A3uint8)
def rl_A3uint8 {con : FuncId → Option Con} := PLift.up (ld_rules (C := ctx con) ty_A3uint8)
def rA_A3uint8 {con : FuncId → Option Con} := PLift.up (alloc_rules (C := ctx con) ty_A3uint8)
def rS_A3uint8 {con : FuncId → Option Con} := PLift.up (store_rules (C := ctx con) ty_A3uint8)
def rR_A3uint8 {con : FuncId → Option Con} := PLift.up (storeR_rules (C := ctx con) ty_A3uint8)
theorem eqf_A3uint8 : eqF 48 = some [14, 14, 14] := by kernel_rfl
theorem eq_A3uint8 {con : FuncId → Option Con} : (ctx con).eqk 48 = some [14, 14, 14] := eqf_A3uint8
def re_A3uint8 {con : FuncId → Option Con} := PLift.up (eq_rules (C := ctx con) eq_A3uint8)
def ra_A3uint8 {con : FuncId → Option Con} := PLift.up (arr_rules (C := ctx con) ty_A3uint8 ty_uint8)
def rB_A3uint8 {con : FuncId → Option Con} := PLift.up (buildA_rules (C := ctx con) ty_A3uint8 ty_uint8)
def rl_A4api_Dev {con : FuncId → Option Con} := PLift.up (ld_rules (C := ctx con) ty_A4api_Dev)
def rA_A4api_Dev {con : FuncId → Option Con} := PLift.up (alloc_rules (C := ctx con) ty_A4api_Dev)
def rS_A4api_Dev {con : FuncId → Option Con} := PLift.up (store_rules (C := ctx con) ty_A4api_Dev)
def rR_A4api_Dev {con : FuncId → Option Con} := PLift.up (storeR_rules (C := ctx con) ty_A4api_Dev)
def ra_A4api_Dev {con : FuncId → Option Con} := PLift.up (arr_rules (C := ctx con) ty_A4api_Dev ty_api_Dev)
def rB_A4api_Dev {con : FuncId → Option Con} := PLift.up (buildA_rules (C := ctx con) ty_A4api_Dev ty_api_Dev)
def rl_Papi_Dev {con : FuncId → Option Con} := PLift.up (ld_rules (C := ctx con) ty_Papi_Dev)
def rA_Papi_Dev {con : FuncId → Option Con} := PLift.up (alloc_rules (C := ctx con) ty_Papi_Dev)
def rS_Papi_Dev {con : FuncId → Option Con} := PLift.up (store_rules (C := ctx con) ty_Papi_Dev)
def rR_Papi_Dev {con : FuncId → Option Con} := PLift.up (storeR_rules (C := ctx con) ty_Papi_Dev)
def rl_func_int__int {con : FuncId → Option Con} := PLift.up (ld_rules (C := ctx con) ty_func_int__int)
def rA_func_int__int {con : FuncId → Option Con} := PLift.up (alloc_rules (C := ctx con) ty_func_int__int)
def rS_func_int__int {con : FuncId → Option Con} := PLift.up (store_rules (C := ctx con) ty_func_int__int)
def rR_func_int__int {con : FuncId → Option Con} := PLift.up (storeR_rules (C := ctx con) ty_func_int__int)
def rl_iter_Seq2_int_api_Put_ {con : FuncId → Option Con} := PLift.up (ld_rules (C := ctx con) ty_iter_Seq2_int_api_Put_)
def rA_iter_Seq2_int_api_Put_ {con : FuncId → Option Con} := PLift.up (alloc_rules (C := ctx con) ty_iter_Seq2_int_api_Put_)
def rS_iter_Seq2_int_api_Put_ {con : FuncId → Option Con} := PLift.up (store_rules (C := ctx con) ty_iter_Seq2_int_api_Put_)
def rR_iter_Seq2_int_api_Put_ {con : FuncId → Option Con} := PLift.up (storeR_rules (C := ctx con) ty_iter_Seq2_int_api_Put_)
def rl_func_int__api_Put__bool {con : FuncId → Option Con} := PLift.up (ld_rules (C := ctx con) ty_func_int__api_Put__bool)
def rA_func_int__api_Put__bool {con : FuncId → Option Con} := PLift.up (alloc_rules (C := ctx con) ty_func_int__api_Put__bool)
def rS_func_int__api_Put__bool {con : FuncId → Option Con} := PLift.up (store_rules (C := ctx con) ty_func_int__api_Put__bool)
def rR_func_int__api_Put__bool {con : FuncId → Option Con} := PLift.up (storeR_rules (C := ctx con) ty_func_int__api_Put__bool)
def rl_A2string {con : FuncId → Option Con} := PLift.up (ld_rules (C := ctx con) ty_A2string)
def rA_A2string {con : FuncId → Option Con} := PLift.up (alloc_rules (C := ctx con) ty_A2string)
def rS_A2string {con : FuncId → Option Con} := PLift.up (store_rules (C := ctx con) ty_A2string)
def rR_A2string {con : FuncId → Option Con} := PLift.up (storeR_rules (C := ctx con) ty_A2string)
theorem eqf_A2string : eqF 71 = some [3, 3] := by kernel_rfl
theorem eq_A2string {con : FuncId → Option Con} : (ctx con).eqk 71 = some [3, 3] := eqf_A2string
def re_A2string {con : FuncId → Option Con} := PLift.up (eq_rules (C := ctx con) eq_A2string)
def ra_A2string {con : FuncId → Option Con} := PLift.up (arr_rules (C := ctx con) ty_A2string ty_string)
def rB_A2string {con : FuncId → Option Con} := PLift.up (buildA_rules (C := ctx con) ty_A2string ty_string)
def rc_int_uint8 {con : FuncId → Option Con} := PLift.up (conv_irule (C := ctx con) ty_int ty_uint8)
def rc_uint8_int {con : FuncId → Option Con} := PLift.up (conv_irule (C := ctx con) ty_uint8 ty_int)
def rc_string_Luint8 {con : FuncId → Option Con} := PLift.up (conv_brule (C := ctx con) ty_string ty_Luint8 ty_uint8)
def rc_Luint8_string {con : FuncId → Option Con} := PLift.up (conv_trule (C := ctx con) ty_Luint8 ty_string ty_uint8)
def vS0 {con : FuncId → Option Con} := PLift.up (And.intro ((rl_int (con := con)).down) (And.intro ((rA_int (con := con)).down) (And.intro ((rS_int (con := con)).down) (And.intro ((rR_int (con := con)).down) (And.intro ((rl_bool (con := con)).down) (And.intro ((rA_bool (con := con)).down) (And.intro ((rS_bool (con := con)).down) (And.intro ((rR_bool (con := con)).down) (And.intro ((rq_bool (con := con)).down) (And.intro ((rl_uint8 (con := con)).down) (And.intro ((rA_uint8 (con := con)).down) (And.intro ((rS_uint8 (con := con)).down) (And.intro ((rR_uint8 (con := con)).down) (And.intro ((rl_string (con := con)).down) (And.intro ((rA_string (con := con)).down) (And.intro ((rS_string (con := con)).down) (And.intro ((rR_string (con := con)).down) (And.intro ((rs_string (con := con)).down) (And.intro ((rl_LA2uint8 (con := con)).down) ((rA_LA2uint8 (con := con)).down))))))))))))))))))))
def vS1 {con : FuncId → Option Con} := PLift.up (And.intro ((rS_LA2uint8 (con := con)).down) (And.intro ((rR_LA2uint8 (con := con)).down) (And.intro ((rv_LA2uint8 (con := con)).down) (And.intro ((ri_LA2uint8 (con := con)).down) (And.intro ((rb_LA2uint8 (con := con)).down) (And.intro ((rl_Luint8 (con := con)).down) (And.intro ((rA_Luint8 (con := con)).down) (And.intro ((rS_Luint8 (con := con)).down) (And.intro ((rR_Luint8 (con := con)).down) (And.intro ((rv_Luint8 (con := con)).down) (And.intro ((ri_Luint8 (con := con)).down) (And.intro ((rb_Luint8 (con := con)).down) (And.intro ((rl_Lstring (con := con)).down) (And.intro ((rA_Lstring (con := con)).down) (And.intro ((rS_Lstring (con := con)).down) (And.intro ((rR_Lstring (con := con)).down) (And.intro ((rv_Lstring (con := con)).down) (And.intro ((ri_Lstring (con := con)).down) (And.intro ((rb_Lstring (con := con)).down) ((rl_Lapi_Put (con := con)).down))))))))))))))))))))
def vS2 {con : FuncId → Option Con} := PLift.up (And.intro ((rA_Lapi_Put (con := con)).down) (And.intro ((rS_Lapi_Put (con := con)).down) (And.intro ((rR_Lapi_Put (con := con)).down) (And.intro ((rv_Lapi_Put (con := con)).down) (And.intro ((ri_Lapi_Put (con := con)).down) (And.intro ((rb_Lapi_Put (con := con)).down) (And.intro ((rl_api_Dev (con := con)).down) (And.intro ((rA_api_Dev (con := con)).down) (And.intro ((rS_api_Dev (con := con)).down) (And.intro ((rR_api_Dev (con := con)).down) (And.intro ((rB_api_Dev (con := con)).down) (And.intro ((rF_api_Dev_0 (con := con)).down) (And.intro ((rf_api_Dev_0 (con := con)).down) (And.intro ((rF_api_Dev_1 (con := con)).down) (And.intro ((rf_api_Dev_1 (con := con)).down) (And.intro ((rF_api_Dev_2 (con := con)).down) (And.intro ((rf_api_Dev_2 (con := con)).down) (And.intro ((rF_api_Dev_3 (con := con)).down) (And.intro ((rf_api_Dev_3 (con := con)).down) ((rF_api_Dev_4 (con := con)).down))))))))))))))))))))
def vS3 {con : FuncId → Option Con} := PLift.up (And.intro ((rf_api_Dev_4 (con := con)).down) (And.intro ((rl_A2uint8 (con := con)).down) (And.intro ((rA_A2uint8 (con := con)).down) (And.intro ((rS_A2uint8 (con := con)).down) (And.intro ((rR_A2uint8 (con := con)).down) (And.intro ((re_A2uint8 (con := con)).down) (And.intro ((ra_A2uint8 (con := con)).down) (And.intro ((rB_A2uint8 (con := con)).down) (And.intro ((rl_api_Put (con := con)).down) (And.intro ((rA_api_Put (con := con)).down) (And.intro ((rS_api_Put (con := con)).down) (And.intro ((rR_api_Put (con := con)).down) (And.intro ((re_api_Put (con := con)).down) (And.intro ((rB_api_Put (con := con)).down) (And.intro ((rF_api_Put_0 (con := con)).down) (And.intro ((rf_api_Put_0 (con := con)).down) (And.intro ((rF_api_Put_1 (con := con)).down) (And.intro ((rf_api_Put_1 (con := con)).down) (And.intro ((rl_Lint (con := con)).down) ((rA_Lint (con := con)).down))))))))))))))))))))
def vS4 {con : FuncId → Option Con} := PLift.up (And.intro ((rS_Lint (con := con)).down) (And.intro ((rR_Lint (con := con)).down) (And.intro ((rv_Lint (con := con)).down) (And.intro ((ri_Lint (con := con)).down) (And.intro ((rb_Lint (con := con)).down) (And.intro ((rl_LA3uint8 (con := con)).down) (And.intro ((rA_LA3uint8 (con := con)).down) (And.intro ((rS_LA3uint8 (con := con)).down) (And.intro ((rR_LA3uint8 (con := con)).down) (And.intro ((rv_LA3uint8 (con := con)).down) (And.intro ((ri_LA3uint8 (con := con)).down) (And.intro ((rb_LA3uint8 (con := con)).down) (And.intro ((rl_A3uint8 (con := con)).down) (And.intro ((rA_A3uint8 (con := con)).down) (And.intro ((rS_A3uint8 (con := con)).down) (And.intro ((rR_A3uint8 (con := con)).down) (And.intro ((re_A3uint8 (con := con)).down) (And.intro ((ra_A3uint8 (con := con)).down) (And.intro ((rB_A3uint8 (con := con)).down) ((rl_A4api_Dev (con := con)).down))))))))))))))))))))
def vS5 {con : FuncId → Option Con} := PLift.up (And.intro ((rA_A4api_Dev (con := con)).down) (And.intro ((rS_A4api_Dev (con := con)).down) (And.intro ((rR_A4api_Dev (con := con)).down) (And.intro ((ra_A4api_Dev (con := con)).down) (And.intro ((rB_A4api_Dev (con := con)).down) (And.intro ((rl_Papi_Dev (con := con)).down) (And.intro ((rA_Papi_Dev (con := con)).down) (And.intro ((rS_Papi_Dev (con := con)).down) (And.intro ((rR_Papi_Dev (con := con)).down) (And.intro ((rl_func_int__int (con := con)).down) (And.intro ((rA_func_int__int (con := con)).down) (And.intro ((rS_func_int__int (con := con)).down) (And.intro ((rR_func_int__int (con := con)).down) (And.intro ((rl_iter_Seq2_int_api_Put_ (con := con)).down) (And.intro ((rA_iter_Seq2_int_api_Put_ (con := con)).down) (And.intro ((rS_iter_Seq2_int_api_Put_ (con := con)).down) (And.intro ((rR_iter_Seq2_int_api_Put_ (con := con)).down) (And.intro ((rl_func_int__api_Put__bool (con := con)).down) (And.intro ((rA_func_int__api_Put__bool (con := con)).down) ((rS_func_int__api_Put__bool (con := con)).down))))))))))))))))))))
def vS6 {con : FuncId → Option Con} := PLift.up (And.intro ((rR_func_int__api_Put__bool (con := con)).down) (And.intro ((rl_A2string (con := con)).down) (And.intro ((rA_A2string (con := con)).down) (And.intro ((rS_A2string (con := con)).down) (And.intro ((rR_A2string (con := con)).down) (And.intro ((re_A2string (con := con)).down) (And.intro ((ra_A2string (con := con)).down) (And.intro ((rB_A2string (con := con)).down) (And.intro ((rc_int_uint8 (con := con)).down) (And.intro ((rc_uint8_int (con := con)).down) (And.intro ((rc_string_Luint8 (con := con)).down) ((rc_Luint8_string (con := con)).down))))))))))))
def vS {con : FuncId → Option Con} := PLift.up (And.intro ((vS0 (con := con)).down) (And.intro ((vS1 (con := con)).down) (And.intro ((vS2 (con := con)).down) (And.intro ((vS3 (con := con)).down) (And.intro ((vS4 (con := con)).down) (And.intro ((vS5 (con := con)).down) ((vS6 (con := con)).down)))))))
def vE := PLift.up (And.intro (@enc_TPut) (And.intro (@enc_TDev) (And.intro (@w_TPut) (And.intro (@w_TDev) (And.intro (@dc_TPut) (And.intro (@dc_TDev) (And.intro (@eta_TPut) (And.intro (@eta_TDev) (@w_int)))))))))
theorem mixed : Try.prog.follows .mixedOrders = true := by kernel_rfl
theorem own : ownKnob Try.prog.godebug = none := by kernel_rfl
theorem laid : laidOutB Try.prog = true := by kernel_rfl
end Go.Proofs.Ytpdjpemmdjeabaa

