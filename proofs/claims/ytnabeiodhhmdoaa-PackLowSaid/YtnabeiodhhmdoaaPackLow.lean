/-
  PackLow: of a number that is too great, or below 0, its lowest bytes are put.
-/
import Derived.Test.YtnabeiodhhmdoaaLaws
set_option linter.unusedSimpArgs false
set_option linter.unusedVariables false
namespace Go.Proofs.Ytnabeiodhhmdoaa
open Go Go.Eng
def G_law3_PackLow : GCode := .seq (.region [⟨(some 4), none, .assign (.const (.bool false))⟩]) (.seq (.seq (.region [⟨(some 10), none, .call ⟨.value (.func 9), #[], #[]⟩⟩, ⟨(some 11), none, .unOp .not 4 (.tmp 10)⟩]) (.cond (.tmp 11) (.seq (.region [⟨(some 4), none, .assign (.const (.bool false))⟩]) (.ret)) (.skip))) (.seq (.region [⟨(some 12), none, .move (.tmp 1)⟩, ⟨(some 13), none, .binOp .rem 5 (.tmp 12) (.const (.int .u8 4)) 5⟩, ⟨(some 14), none, .convert 5 3 (.tmp 13)⟩, ⟨(some 15), none, .binOp .add 3 (.const (.int .i64 1)) (.tmp 14) 3⟩, ⟨(some 5), none, .assign (.tmp 15)⟩]) (.seq (.region [⟨(some 16), none, .move (.tmp 5)⟩, ⟨(some 17), none, .binOp .sub 3 (.tmp 16) (.const (.int .i64 1)) 3⟩, ⟨(some 18), none, .move (.tmp 5)⟩, ⟨(some 19), none, .slice 9 (.const (.string ⟨#[49, 50, 51, 52]⟩)) (some (.tmp 17)) (some (.tmp 18)) none⟩, ⟨(some 20), none, .move (.tmp 0)⟩, ⟨(some 21), none, .buildSlice 26 1 #[(0, .tmp 20)]⟩, ⟨(some 22), none, .call ⟨.value (.func 10), #[.tmp 19, .tmp 21], #[9, 26]⟩⟩, ⟨(some 6), none, .assign (.tmp 22)⟩]) (.seq (.region [⟨(some 24), none, .move (.tmp 5)⟩, ⟨(some 25), none, .binOp .sub 3 (.tmp 24) (.const (.int .i64 1)) 3⟩, ⟨(some 26), none, .move (.tmp 5)⟩, ⟨(some 27), none, .slice 9 (.const (.string ⟨#[49, 50, 51, 52]⟩)) (some (.tmp 25)) (some (.tmp 26)) none⟩, ⟨(some 28), none, .move (.tmp 6)⟩, ⟨(some 29), none, .call ⟨.value (.func 12), #[.tmp 27, .tmp 28], #[9, 9]⟩⟩, ⟨(some 23), none, .move (.tmp 29)⟩, ⟨(some 30), none, .extract (.tmp 23) 0⟩, ⟨(some 31), none, .extract (.tmp 23) 1⟩, ⟨(some 32), none, .extract (.tmp 23) 2⟩, ⟨(some 7), none, .assign (.tmp 30)⟩, ⟨(some 8), none, .assign (.tmp 31)⟩, ⟨(some 9), none, .assign (.tmp 32)⟩]) (.seq (.region [⟨(some 33), none, .move (.tmp 6)⟩, ⟨(some 34), none, .call ⟨.builtin .len, #[.tmp 33], #[9]⟩⟩, ⟨(some 35), none, .move (.tmp 5)⟩, ⟨(some 36), none, .binOp .eql 3 (.tmp 34) (.tmp 35) 3⟩, ⟨(some 37), none, .move (.tmp 36)⟩, ⟨(some 38), (some (37, true)), .move (.tmp 9)⟩, ⟨(some 39), none, .pick (.tmp 37) (.tmp 38) (.const (.bool false))⟩, ⟨(some 40), none, .move (.tmp 39)⟩, ⟨(some 41), (some (40, true)), .move (.tmp 8)⟩, ⟨(some 42), (some (40, true)), .binOp .eql 9 (.tmp 41) (.const (.string ⟨#[]⟩)) 9⟩, ⟨(some 43), none, .pick (.tmp 40) (.tmp 42) (.const (.bool false))⟩, ⟨(some 44), none, .move (.tmp 43)⟩, ⟨(some 45), (some (44, true)), .move (.tmp 7)⟩, ⟨(some 46), (some (44, true)), .call ⟨.builtin .len, #[.tmp 45], #[26]⟩⟩, ⟨(some 47), (some (44, true)), .binOp .eql 3 (.tmp 46) (.const (.int .i64 1)) 3⟩, ⟨(some 48), none, .pick (.tmp 44) (.tmp 47) (.const (.bool false))⟩, ⟨(some 49), none, .move (.tmp 48)⟩, ⟨(some 50), (some (49, true)), .move (.tmp 7)⟩, ⟨(some 51), (some (49, true)), .indexAddr 26 (.tmp 50) (.const (.int .i64 0))⟩, ⟨(some 52), (some (49, true)), .load 3 (.tmp 51)⟩, ⟨(some 53), (some (49, true)), .move (.tmp 0)⟩, ⟨(some 54), (some (49, true)), .convert 3 32 (.tmp 53)⟩, ⟨(some 55), (some (49, true)), .move (.tmp 5)⟩, ⟨(some 56), (some (49, true)), .binOp .mul 3 (.const (.int .i64 8)) (.tmp 55) 3⟩, ⟨(some 57), (some (49, true)), .binOp .sub 3 (.const (.int .i64 32)) (.tmp 56) 3⟩, ⟨(some 58), (some (49, true)), .binOp .shl 32 (.tmp 54) (.tmp 57) 3⟩, ⟨(some 59), (some (49, true)), .move (.tmp 5)⟩, ⟨(some 60), (some (49, true)), .binOp .mul 3 (.const (.int .i64 8)) (.tmp 59) 3⟩, ⟨(some 61), (some (49, true)), .binOp .sub 3 (.const (.int .i64 32)) (.tmp 60) 3⟩, ⟨(some 62), (some (49, true)), .binOp .shr 32 (.tmp 58) (.tmp 61) 3⟩, ⟨(some 63), (some (49, true)), .convert 32 3 (.tmp 62)⟩, ⟨(some 64), (some (49, true)), .binOp .eql 3 (.tmp 52) (.tmp 63) 3⟩, ⟨(some 65), none, .pick (.tmp 49) (.tmp 64) (.const (.bool false))⟩, ⟨(some 4), none, .assign (.tmp 65)⟩]) (.ret))))))
noncomputable def l_law3_PackLow : List (Nat × Con) := [(9, c_law3_begun), (10, c_pack_Put), (12, c_pack_Take)]
noncomputable abbrev K_law3_PackLow : Ctx := ctx (cl l_law3_PackLow)
theorem geq_law3_PackLow : gof K_law3_PackLow Try.f8 = some G_law3_PackLow.strip := by kernel_rfl
theorem sys_law3_PackLow : Go.Eng.Sys Try.prog K_law3_PackLow := sys_of ⟨ok_law3_begun, ok_pack_Put, ok_pack_Take, trivial⟩
theorem hm_law3_PackLow : ConMono K_law3_PackLow := conMono_of sys_law3_PackLow.con
noncomputable def k_law3_PackLow_law3_begun := PLift.up (call_scal (C := K_law3_PackLow) (f := 9) (A := A_law3_begun) (p := p_law3_begun) (r := r_law3_begun) rfl)
noncomputable def k_law3_PackLow_pack_Put := PLift.up (call_scal (C := K_law3_PackLow) (f := 10) (A := A_pack_Put) (p := p_pack_Put) (r := r_pack_Put) rfl)
noncomputable def k_law3_PackLow_pack_Take := PLift.up (call_fn (C := K_law3_PackLow) (f := 12) (A := A_pack_Take) (p := p_pack_Take) (r := r_pack_Take) rfl)
noncomputable def A_law3_PackLow : Arms (Int × Byt × Unit) := Arms.cons (argT Int) (Arms.cons (argT Byt) (Arms.nil))
def p_law3_PackLow (x : Int × Byt × Unit) : Prop := (goodInt x.1) ∧ (goodAny x.2.1) ∧ goodAny (x.2.2)
abbrev r_law3_PackLow (x : Int × Byt × Unit) : AV := rTrue x
theorem rd_law3_PackLow : ReadsA Try.prog [3, 5] A_law3_PackLow p_law3_PackLow := (readsA_T (reads_int Try.underlying3) (by kernel_rfl) (readsA_T (reads_u8 Try.underlying5) (by kernel_rfl) readsA_nil))

theorem u32_wrap (x : Int) : IntKind.u32.wrap x = x % 4294967296 := by simp [IntKind.wrap, IntKind.signed, IntKind.bits]
theorem low_of (v : Int) {n : Nat} (h1 : 1 ≤ n) (h4 : n ≤ 4) :
    IntKind.i64.wrap ((IntKind.u32.wrap (IntKind.u32.wrap v * 2 ^ min (32 - 8 * (n : Int)).toNat IntKind.u32.bits)).fdiv (2 ^ min (32 - 8 * (n : Int)).toNat IntKind.u32.bits)) = v % 256 ^ n := by
  have e : ∀ x : Int, min x.toNat IntKind.u32.bits = min x.toNat 32 := fun _ => rfl
  rw [e, u32_wrap, u32_wrap, Int.fdiv_eq_ediv_of_nonneg _ (Int.le_of_lt (Int.pow_pos (by decide)))]
  rcases (by omega : n = 1 ∨ n = 2 ∨ n = 3 ∨ n = 4) with rfl | rfl | rfl | rfl
  · simp; rw [IntWalk.i64_in _ (by omega)]; omega
  · simp; rw [IntWalk.i64_in _ (by omega)]; omega
  · simp; rw [IntWalk.i64_in _ (by omega)]; omega
  · simp; rw [IntWalk.i64_in _ (by omega)]

set_option maxRecDepth 100000 in
theorem body_law3_PackLow (x : Int × Byt × Unit) (hx : p_law3_PackLow x) : avp K_law3_PackLow G_law3_PackLow (Ret K_law3_PackLow [.tmp 4] fun v _ => v = r_law3_PackLow x) (entry (A_law3_PackLow.enc x) .empty) := by
  obtain ⟨v, ⟨w⟩, ⟨⟩⟩ := x
  change avp _ _ (Ret _ _ fun v _ => v = .t (.bool true)) (entry [.t (.int .i64 v), .t (.int .u8 (w.toNat : Int))] .empty)
  obtain ⟨n, c, hn, hc, h1, h4, hs⟩ : ∃ (n : Nat) (c : UInt8), IntKind.i64.wrap (1 + IntKind.i64.wrap ((w.toNat : Int).tmod 4)) = (n : Int) ∧ dig c = (n : Int) ∧ 1 ≤ n ∧ n ≤ 4 ∧ (([49, 50, 51, 52] : List UInt8).take n).drop (n - 1) = [c] := by
    have hw := w.toNat_lt
    have e : (w.toNat : Int).tmod 4 = (w.toNat : Int) % 4 := Int.tmod_eq_emod_of_nonneg (by omega)
    rw [e, IntWalk.i64_in ((w.toNat : Int) % 4) (by omega), IntWalk.i64_in _ (by omega)]
    rcases (by omega : (w.toNat : Int) % 4 = 0 ∨ (w.toNat : Int) % 4 = 1 ∨ (w.toNat : Int) % 4 = 2 ∨ (w.toNat : Int) % 4 = 3) with h | h | h | h
    · exact ⟨1, 49, by rw [h]; rfl, by decide, by decide, by decide, by decide⟩
    · exact ⟨2, 50, by rw [h]; rfl, by decide, by decide, by decide, by decide⟩
    · exact ⟨3, 51, by rw [h]; rfl, by decide, by decide, by decide, by decide⟩
    · exact ⟨4, 52, by rw [h]; rfl, by decide, by decide, by decide, by decide⟩
  have hn1 : IntKind.i64.wrap ((n : Int) - 1) = (n : Int) - 1 := IntWalk.i64_in _ (by omega)
  have hnt : ((n : Int) - 1).toNat = n - 1 := by omega
  have hn8 : IntKind.i64.wrap (8 * (n : Int)) = 8 * (n : Int) := IntWalk.i64_in _ (by omega)
  have hn32 : IntKind.i64.wrap (32 - 8 * (n : Int)) = 32 - 8 * (n : Int) := IntWalk.i64_in _ (by omega)
  have hp := putF_one (v := v) hc h1 h4
  obtain ⟨t1, t2, t3⟩ := takeOk_one (s := be n v) hc h1 h4 (be_len n v)
  have hlo := low_of v h1 h4
  have hle : 0 ≤ 32 - 8 * (n : Int) := by omega
  unfold G_law3_PackLow
  simp only [vR.down, vr20.down, vr40.down, vr50.down, vS.down, List.drop_succ_cons, List.drop_zero, List.take_succ_cons, List.take_zero, Nat.zero_add, Nat.reduceEqDiff, Nat.reduceAdd, Nat.reduceSub, Nat.reduceMul, Nat.reduceLeDiff, Nat.reduceLT, Int.reduceToNat, reduceIte, reduceCtorEq, true_and, and_true, implies_true, forall_const, List.map_cons, List.map_nil, Option.map_some, Option.map_none, Option.bind_some, List.append_nil, List.nil_append, List.length_cons, List.length_nil, List.getD_cons_zero, List.getD_cons_succ, Bool.false_eq_true, Nat.zero_lt_succ, vr30.down, Option.toList_some, Option.toList_none, List.cons_append, getD_byt, Int.toNat_natCast, decide_eq_true_eq, decide_eq_false_iff_not, Bool.not_eq_true', Bool.not_eq_false', Bool.and_eq_true, Bool.or_eq_true, Bool.or_eq_false_iff, Bool.and_eq_false_imp, Decidable.not_not, List.length_map, beq_true, beq_false, imp_self, and_self, Option.isSome_some, List.toList_toArray, decide_true, decide_false, Bool.and_true, Bool.true_and, Bool.and_false, Bool.false_and, Bool.or_true, Bool.true_or, Bool.or_false, Bool.false_or, Bool.not_true, Bool.not_false, Int.reduceEq, Int.reduceLT, Int.reduceLE, Int.cast_ofNat_Int, eq_self, Nat.reduceLeDiff, Nat.le_refl, Bool.not_not, k_law3_PackLow_law3_begun.down, A_law3_begun, p_law3_begun, r_law3_begun, k_law3_PackLow_pack_Put.down, A_pack_Put, p_pack_Put, r_pack_Put, k_law3_PackLow_pack_Take.down, A_pack_Take, p_pack_Take, r_pack_Take, hn, hn1, hnt, hs, hn8, hn32, hp, t1, t2, t3, be_len, num_be, hlo, hle]
  refine ⟨fun h => h.elim, by decide, by omega, fun g hg => ⟨by omega, by omega, ?_⟩⟩
  simp only [vR.down, vr20.down, vr40.down, vr50.down, vS.down, List.drop_succ_cons, List.drop_zero, List.take_succ_cons, List.take_zero, Nat.zero_add, Nat.reduceEqDiff, Nat.reduceAdd, Nat.reduceSub, Nat.reduceMul, Nat.reduceLeDiff, Nat.reduceLT, Int.reduceToNat, reduceIte, reduceCtorEq, true_and, and_true, implies_true, forall_const, List.map_cons, List.map_nil, Option.map_some, Option.map_none, Option.bind_some, List.append_nil, List.nil_append, List.length_cons, List.length_nil, List.getD_cons_zero, List.getD_cons_succ, Bool.false_eq_true, Nat.zero_lt_succ, vr30.down, Option.toList_some, Option.toList_none, List.cons_append, getD_byt, Int.toNat_natCast, decide_eq_true_eq, decide_eq_false_iff_not, Bool.not_eq_true', Bool.not_eq_false', Bool.and_eq_true, Bool.or_eq_true, Bool.or_eq_false_iff, Bool.and_eq_false_imp, Decidable.not_not, List.length_map, beq_true, beq_false, imp_self, and_self, Option.isSome_some, List.toList_toArray, decide_true, decide_false, Bool.and_true, Bool.true_and, Bool.and_false, Bool.false_and, Bool.or_true, Bool.true_or, Bool.or_false, Bool.false_or, Bool.not_true, Bool.not_false, Int.reduceEq, Int.reduceLT, Int.reduceLE, Int.cast_ofNat_Int, eq_self, Nat.reduceLeDiff, Nat.le_refl, Bool.not_not, vT.down, r_law3_PackLow, rTrue]
noncomputable def c_law3_PackLow : Con := fnScal A_law3_PackLow p_law3_PackLow r_law3_PackLow
theorem ok_law3_PackLow : COk Try.prog 8 c_law3_PackLow := fn_sok sys_law3_PackLow mixed Try.func8 (by kernel_rfl) geq_law3_PackLow Try.ntmps8 (by rw [Try.results8]) (fun x => by simp [rTrue, AV.scal]) fun x hx => ⟨Nat.le_of_ble_eq_true rfl, body_law3_PackLow x hx⟩
theorem says_law3_PackLow : SaysTrue Rows.packLowSpec 2 := ⟨rfl, fun H ds h => by
  match ds, h with
  | [d0, d1], _ => exact ⟨rfl, rfl, rfl⟩⟩
set_option maxRecDepth 100000 in
theorem lifted_law3_PackLow (os : Os) (started : os.Started) (H : Type) (enc : TypeId × Value → H) :
    ReturnsInHanded {} Try.checked os 8 .any (Rows.packLowSpec.pre6 enc Try.prog Try.f8 Rows.packLowRow.domain false) (Rows.packLowSpec.post enc Try.prog Try.f8 false true false false) := by
  refine returnsInHanded_of_change (C := Try.checked) own started (by kernel_rfl) Try.func8
    (ChangeSpec.witness6 (enc := enc) (C := Try.checked) false ⟨#[], #[.int .i64 0, .int .u8 0], []⟩ 8 (by kernel_rfl) (by kernel_rfl) (by kernel_rfl) (by kernel_rfl)) ?_
  intro W base args ds gs before hval hW _ _
  exact law_contract (ts := [3, 5]) (tb := 4) ok_law3_PackLow (by rw [Try.params8]) (by kernel_rfl) Try.underlying4 laid (by kernel_rfl) rd_law3_PackLow (fun _ h => h) says_law3_PackLow H enc W base args ds gs before hval hW
theorem over_law3_PackLow : Rows.packLowRow.holds Try.pinned (OpenSpec.ofChange Rows.packLowSpec) :=
  OpenClaim.holds_of_wide 8 Try.f8 rfl rfl rfl rfl rfl rfl rfl ⟨rfl, rfl, rfl, rfl, rfl⟩ rfl rfl rfl rfl rfl (by kernel_rfl) Try.func8 (by kernel_rfl)
    (of_decide_eq_true (by kernel_rfl)) (by unfold Func.isWrapper; first | (rw [if_pos (by decide +kernel)]; kernel_rfl) | (rw [if_neg (by decide +kernel)]; exact ⟨rfl, rfl⟩))
    (fun os started H enc _ => lifted_law3_PackLow os started H enc)
theorem packLow_holds : Rows.PackLowSaid := over_law3_PackLow
end Go.Proofs.Ytnabeiodhhmdoaa

