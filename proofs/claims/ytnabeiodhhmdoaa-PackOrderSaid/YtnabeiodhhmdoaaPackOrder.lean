/-
  PackOrder: of two numbers of as many bytes the lesser one's bytes are the lesser.
-/
import Derived.Test.YtnabeiodhhmdoaaLaws
set_option linter.unusedSimpArgs false
set_option linter.unusedVariables false
namespace Go.Proofs.Ytnabeiodhhmdoaa
open Go Go.Eng
def G_law3_PackOrder : GCode := .seq (.region [⟨(some 6), none, .assign (.const (.bool false))⟩]) (.seq (.seq (.region [⟨(some 12), none, .call ⟨.value (.func 9), #[], #[]⟩⟩, ⟨(some 13), none, .unOp .not 4 (.tmp 12)⟩]) (.cond (.tmp 13) (.seq (.region [⟨(some 6), none, .assign (.const (.bool false))⟩]) (.ret)) (.skip))) (.seq (.region [⟨(some 14), none, .move (.tmp 2)⟩, ⟨(some 15), none, .binOp .rem 5 (.tmp 14) (.const (.int .u8 4)) 5⟩, ⟨(some 16), none, .convert 5 3 (.tmp 15)⟩, ⟨(some 17), none, .binOp .add 3 (.const (.int .i64 1)) (.tmp 16) 3⟩, ⟨(some 7), none, .assign (.tmp 17)⟩]) (.seq (.region [⟨(some 18), none, .move (.tmp 0)⟩, ⟨(some 19), none, .move (.tmp 7)⟩, ⟨(some 20), none, .binOp .mul 3 (.const (.int .i64 8)) (.tmp 19) 3⟩, ⟨(some 21), none, .binOp .sub 3 (.const (.int .i64 32)) (.tmp 20) 3⟩, ⟨(some 22), none, .binOp .shr 32 (.tmp 18) (.tmp 21) 3⟩, ⟨(some 23), none, .convert 32 3 (.tmp 22)⟩, ⟨(some 24), none, .move (.tmp 1)⟩, ⟨(some 25), none, .move (.tmp 7)⟩, ⟨(some 26), none, .binOp .mul 3 (.const (.int .i64 8)) (.tmp 25) 3⟩, ⟨(some 27), none, .binOp .sub 3 (.const (.int .i64 32)) (.tmp 26) 3⟩, ⟨(some 28), none, .binOp .shr 32 (.tmp 24) (.tmp 27) 3⟩, ⟨(some 29), none, .convert 32 3 (.tmp 28)⟩, ⟨(some 8), none, .assign (.tmp 23)⟩, ⟨(some 9), none, .assign (.tmp 29)⟩]) (.seq (.region [⟨(some 30), none, .move (.tmp 7)⟩, ⟨(some 31), none, .binOp .sub 3 (.tmp 30) (.const (.int .i64 1)) 3⟩, ⟨(some 32), none, .move (.tmp 7)⟩, ⟨(some 33), none, .slice 9 (.const (.string ⟨#[49, 50, 51, 52]⟩)) (some (.tmp 31)) (some (.tmp 32)) none⟩, ⟨(some 34), none, .move (.tmp 8)⟩, ⟨(some 35), none, .buildSlice 26 1 #[(0, .tmp 34)]⟩, ⟨(some 36), none, .call ⟨.value (.func 10), #[.tmp 33, .tmp 35], #[9, 26]⟩⟩, ⟨(some 37), none, .move (.tmp 7)⟩, ⟨(some 38), none, .binOp .sub 3 (.tmp 37) (.const (.int .i64 1)) 3⟩, ⟨(some 39), none, .move (.tmp 7)⟩, ⟨(some 40), none, .slice 9 (.const (.string ⟨#[49, 50, 51, 52]⟩)) (some (.tmp 38)) (some (.tmp 39)) none⟩, ⟨(some 41), none, .move (.tmp 9)⟩, ⟨(some 42), none, .buildSlice 26 1 #[(0, .tmp 41)]⟩, ⟨(some 43), none, .call ⟨.value (.func 10), #[.tmp 40, .tmp 42], #[9, 26]⟩⟩, ⟨(some 10), none, .assign (.tmp 36)⟩, ⟨(some 11), none, .assign (.tmp 43)⟩]) (.seq (.region [⟨(some 44), none, .move (.tmp 10)⟩, ⟨(some 45), none, .call ⟨.builtin .len, #[.tmp 44], #[9]⟩⟩, ⟨(some 46), none, .move (.tmp 7)⟩, ⟨(some 47), none, .binOp .eql 3 (.tmp 45) (.tmp 46) 3⟩, ⟨(some 48), none, .move (.tmp 47)⟩, ⟨(some 49), (some (48, true)), .move (.tmp 11)⟩, ⟨(some 50), (some (48, true)), .call ⟨.builtin .len, #[.tmp 49], #[9]⟩⟩, ⟨(some 51), (some (48, true)), .move (.tmp 7)⟩, ⟨(some 52), (some (48, true)), .binOp .eql 3 (.tmp 50) (.tmp 51) 3⟩, ⟨(some 53), none, .pick (.tmp 48) (.tmp 52) (.const (.bool false))⟩, ⟨(some 54), none, .move (.tmp 53)⟩, ⟨(some 55), (some (54, true)), .move (.tmp 10)⟩, ⟨(some 56), (some (54, true)), .move (.tmp 11)⟩, ⟨(some 57), (some (54, true)), .binOp .lss 9 (.tmp 55) (.tmp 56) 9⟩, ⟨(some 58), (some (54, true)), .move (.tmp 8)⟩, ⟨(some 59), (some (54, true)), .move (.tmp 9)⟩, ⟨(some 60), (some (54, true)), .binOp .lss 3 (.tmp 58) (.tmp 59) 3⟩, ⟨(some 61), (some (54, true)), .binOp .eql 4 (.tmp 57) (.tmp 60) 4⟩, ⟨(some 62), none, .pick (.tmp 54) (.tmp 61) (.const (.bool false))⟩, ⟨(some 63), none, .move (.tmp 62)⟩, ⟨(some 64), (some (63, true)), .move (.tmp 10)⟩, ⟨(some 65), (some (63, true)), .move (.tmp 11)⟩, ⟨(some 66), (some (63, true)), .binOp .eql 9 (.tmp 64) (.tmp 65) 9⟩, ⟨(some 67), (some (63, true)), .move (.tmp 8)⟩, ⟨(some 68), (some (63, true)), .move (.tmp 9)⟩, ⟨(some 69), (some (63, true)), .binOp .eql 3 (.tmp 67) (.tmp 68) 3⟩, ⟨(some 70), (some (63, true)), .binOp .eql 4 (.tmp 66) (.tmp 69) 4⟩, ⟨(some 71), none, .pick (.tmp 63) (.tmp 70) (.const (.bool false))⟩, ⟨(some 6), none, .assign (.tmp 71)⟩]) (.ret))))))
noncomputable def l_law3_PackOrder : List (Nat × Con) := [(9, c_law3_begun), (10, c_pack_Put)]
noncomputable abbrev K_law3_PackOrder : Ctx := ctx (cl l_law3_PackOrder)
theorem geq_law3_PackOrder : gof K_law3_PackOrder Try.f7 = some G_law3_PackOrder.strip := by kernel_rfl
theorem sys_law3_PackOrder : Go.Eng.Sys Try.prog K_law3_PackOrder := sys_of ⟨ok_law3_begun, ok_pack_Put, trivial⟩
theorem hm_law3_PackOrder : ConMono K_law3_PackOrder := conMono_of sys_law3_PackOrder.con
noncomputable def k_law3_PackOrder_law3_begun := PLift.up (call_scal (C := K_law3_PackOrder) (f := 9) (A := A_law3_begun) (p := p_law3_begun) (r := r_law3_begun) rfl)
noncomputable def k_law3_PackOrder_pack_Put := PLift.up (call_scal (C := K_law3_PackOrder) (f := 10) (A := A_pack_Put) (p := p_pack_Put) (r := r_pack_Put) rfl)
noncomputable def A_law3_PackOrder : Arms (UInt32 × UInt32 × Byt × Unit) := Arms.cons (argT UInt32) (Arms.cons (argT UInt32) (Arms.cons (argT Byt) (Arms.nil)))
def p_law3_PackOrder (x : UInt32 × UInt32 × Byt × Unit) : Prop := (goodAny x.1) ∧ (goodAny x.2.1) ∧ (goodAny x.2.2.1) ∧ goodAny (x.2.2.2)
abbrev r_law3_PackOrder (x : UInt32 × UInt32 × Byt × Unit) : AV := rTrue x
theorem rd_law3_PackOrder : ReadsA Try.prog [32, 32, 5] A_law3_PackOrder p_law3_PackOrder := (readsA_T (reads_u32 Try.underlying32) (by kernel_rfl) (readsA_T (reads_u32 Try.underlying32) (by kernel_rfl) (readsA_T (reads_u8 Try.underlying5) (by kernel_rfl) readsA_nil)))

theorem top_of (a : UInt32) {n : Nat} (h1 : 1 ≤ n) (h4 : n ≤ 4) :
    ∃ x : Int, IntKind.i64.wrap ((a.toNat : Int).fdiv (2 ^ min (32 - 8 * (n : Int)).toNat IntKind.u32.bits)) = x ∧ 0 ≤ x ∧ x < 256 ^ n := by
  have e : ∀ x : Int, min x.toNat IntKind.u32.bits = min x.toNat 32 := fun _ => rfl
  have ha := a.toNat_lt
  refine ⟨_, rfl, ?_⟩
  rw [e, Int.fdiv_eq_ediv_of_nonneg _ (Int.le_of_lt (Int.pow_pos (by decide)))]
  rcases (by omega : n = 1 ∨ n = 2 ∨ n = 3 ∨ n = 4) with rfl | rfl | rfl | rfl
  · simp; rw [IntWalk.i64_in _ (by omega)]; omega
  · simp; rw [IntWalk.i64_in _ (by omega)]; omega
  · simp; rw [IntWalk.i64_in _ (by omega)]; omega
  · simp; rw [IntWalk.i64_in _ (by omega)]; omega

set_option maxRecDepth 100000 in
theorem body_law3_PackOrder (x : UInt32 × UInt32 × Byt × Unit) (hx : p_law3_PackOrder x) : avp K_law3_PackOrder G_law3_PackOrder (Ret K_law3_PackOrder [.tmp 6] fun v _ => v = r_law3_PackOrder x) (entry (A_law3_PackOrder.enc x) .empty) := by
  obtain ⟨a, b, ⟨w⟩, ⟨⟩⟩ := x
  change avp _ _ (Ret _ _ fun v _ => v = .t (.bool true)) (entry [.t (.int .u32 (a.toNat : Int)), .t (.int .u32 (b.toNat : Int)), .t (.int .u8 (w.toNat : Int))] .empty)
  obtain ⟨n, c, hn, hc, h1, h4, hs⟩ : ∃ (n : Nat) (c : UInt8), IntKind.i64.wrap (1 + IntKind.i64.wrap ((w.toNat : Int).tmod 4)) = (n : Int) ∧ dig c = (n : Int) ∧ 1 ≤ n ∧ n ≤ 4 ∧ (([49, 50, 51, 52] : List UInt8).take n).drop (n - 1) = [c] := by
    have hw := w.toNat_lt
    have e : (w.toNat : Int).tmod 4 = (w.toNat : Int) % 4 := Int.tmod_eq_emod_of_nonneg (by omega)
    rw [e, IntWalk.i64_in ((w.toNat : Int) % 4) (by omega), IntWalk.i64_in _ (by omega)]
    rcases (by omega : (w.toNat : Int) % 4 = 0 ∨ (w.toNat : Int) % 4 = 1 ∨ (w.toNat : Int) % 4 = 2 ∨ (w.toNat : Int) % 4 = 3) with h | h | h | h
    · exact ⟨1, 49, by rw [h]; rfl, by decide, by decide, by decide, by decide⟩
    · exact ⟨2, 50, by rw [h]; rfl, by decide, by decide, by decide, by decide⟩
    · exact ⟨3, 51, by rw [h]; rfl, by decide, by decide, by decide, by decide⟩
    · exact ⟨4, 52, by rw [h]; rfl, by decide, by decide, by decide, by decide⟩
  have hn1 : IntKind.i64.wrap ((n : Int) - 1) = (n : Int) - 1 := IntWalk.i64_in _ (by omega)
  have hnt : ((n : Int) - 1).toNat = n - 1 := by omega
  have hn8 : IntKind.i64.wrap (8 * (n : Int)) = 8 * (n : Int) := IntWalk.i64_in _ (by omega)
  have hn32 : IntKind.i64.wrap (32 - 8 * (n : Int)) = 32 - 8 * (n : Int) := IntWalk.i64_in _ (by omega)
  obtain ⟨x, hx, hx0, hx1⟩ := top_of a h1 h4
  obtain ⟨y, hy, hy0, hy1⟩ := top_of b h1 h4
  have hp := putF_one (v := x) hc h1 h4
  have hq := putF_one (v := y) hc h1 h4
  have hle : 0 ≤ 32 - 8 * (n : Int) := by omega
  have ex : num (be n x) = x := by rw [num_be, Int.emod_eq_of_lt hx0 hx1]
  have ey : num (be n y) = y := by rw [num_be, Int.emod_eq_of_lt hy0 hy1]
  have hl : Op.bytesLess (be n x) (be n y) = decide (x < y) := by rw [less_num _ _ (by rw [be_len, be_len]), ex, ey]
  have he : (be n x = be n y) = (x = y) := propext ⟨fun h => by rw [← ex, ← ey, h], fun h => by rw [h]⟩
  unfold G_law3_PackOrder
  simp only [vR.down, vr20.down, vr40.down, vr50.down, vS.down, List.drop_succ_cons, List.drop_zero, List.take_succ_cons, List.take_zero, Nat.zero_add, Nat.reduceEqDiff, Nat.reduceAdd, Nat.reduceSub, Nat.reduceMul, Nat.reduceLeDiff, Nat.reduceLT, Int.reduceToNat, reduceIte, reduceCtorEq, true_and, and_true, implies_true, forall_const, List.map_cons, List.map_nil, Option.map_some, Option.map_none, Option.bind_some, List.append_nil, List.nil_append, List.length_cons, List.length_nil, List.getD_cons_zero, List.getD_cons_succ, Bool.false_eq_true, Nat.zero_lt_succ, vr30.down, Option.toList_some, Option.toList_none, List.cons_append, getD_byt, Int.toNat_natCast, decide_eq_true_eq, decide_eq_false_iff_not, Bool.not_eq_true', Bool.not_eq_false', Bool.and_eq_true, Bool.or_eq_true, Bool.or_eq_false_iff, Bool.and_eq_false_imp, Decidable.not_not, List.length_map, beq_true, beq_false, imp_self, and_self, Option.isSome_some, List.toList_toArray, decide_true, decide_false, Bool.and_true, Bool.true_and, Bool.and_false, Bool.false_and, Bool.or_true, Bool.true_or, Bool.or_false, Bool.false_or, Bool.not_true, Bool.not_false, Int.reduceEq, Int.reduceLT, Int.reduceLE, Int.cast_ofNat_Int, eq_self, Nat.reduceLeDiff, Nat.le_refl, Bool.not_not, k_law3_PackOrder_law3_begun.down, A_law3_begun, p_law3_begun, r_law3_begun, k_law3_PackOrder_pack_Put.down, A_pack_Put, p_pack_Put, r_pack_Put, hn, hn1, hnt, hs, hn8, hn32, hp, hq, be_len, hx, hy, hle, hl, he, beq_self_eq_true]
  refine ⟨fun h => h.elim, by decide, by omega, fun g hg => ⟨by omega, fun g' hg' => ?_⟩⟩
  simp only [vR.down, vr20.down, vr40.down, vr50.down, vS.down, List.drop_succ_cons, List.drop_zero, List.take_succ_cons, List.take_zero, Nat.zero_add, Nat.reduceEqDiff, Nat.reduceAdd, Nat.reduceSub, Nat.reduceMul, Nat.reduceLeDiff, Nat.reduceLT, Int.reduceToNat, reduceIte, reduceCtorEq, true_and, and_true, implies_true, forall_const, List.map_cons, List.map_nil, Option.map_some, Option.map_none, Option.bind_some, List.append_nil, List.nil_append, List.length_cons, List.length_nil, List.getD_cons_zero, List.getD_cons_succ, Bool.false_eq_true, Nat.zero_lt_succ, vr30.down, Option.toList_some, Option.toList_none, List.cons_append, getD_byt, Int.toNat_natCast, decide_eq_true_eq, decide_eq_false_iff_not, Bool.not_eq_true', Bool.not_eq_false', Bool.and_eq_true, Bool.or_eq_true, Bool.or_eq_false_iff, Bool.and_eq_false_imp, Decidable.not_not, List.length_map, beq_true, beq_false, imp_self, and_self, Option.isSome_some, List.toList_toArray, decide_true, decide_false, Bool.and_true, Bool.true_and, Bool.and_false, Bool.false_and, Bool.or_true, Bool.true_or, Bool.or_false, Bool.false_or, Bool.not_true, Bool.not_false, Int.reduceEq, Int.reduceLT, Int.reduceLE, Int.cast_ofNat_Int, eq_self, Nat.reduceLeDiff, Nat.le_refl, Bool.not_not, vT.down, r_law3_PackOrder, rTrue]
noncomputable def c_law3_PackOrder : Con := fnScal A_law3_PackOrder p_law3_PackOrder r_law3_PackOrder
theorem ok_law3_PackOrder : COk Try.prog 7 c_law3_PackOrder := fn_sok sys_law3_PackOrder mixed Try.func7 (by kernel_rfl) geq_law3_PackOrder Try.ntmps7 (by rw [Try.results7]) (fun x => by simp [rTrue, AV.scal]) fun x hx => ⟨Nat.le_of_ble_eq_true rfl, body_law3_PackOrder x hx⟩
theorem says_law3_PackOrder : SaysTrue Rows.packOrderSpec 3 := ⟨rfl, fun H ds h => by
  match ds, h with
  | [d0, d1, d2], _ => exact ⟨rfl, rfl, rfl⟩⟩
set_option maxRecDepth 100000 in
theorem lifted_law3_PackOrder (os : Os) (started : os.Started) (H : Type) (enc : TypeId × Value → H) :
    ReturnsInHanded {} Try.checked os 7 .any (Rows.packOrderSpec.pre6 enc Try.prog Try.f7 Rows.packOrderRow.domain false) (Rows.packOrderSpec.post enc Try.prog Try.f7 false true false false) := by
  refine returnsInHanded_of_change (C := Try.checked) own started (by kernel_rfl) Try.func7
    (ChangeSpec.witness6 (enc := enc) (C := Try.checked) false ⟨#[], #[.int .u32 0, .int .u32 0, .int .u8 0], []⟩ 8 (by kernel_rfl) (by kernel_rfl) (by kernel_rfl) (by kernel_rfl)) ?_
  intro W base args ds gs before hval hW _ _
  exact law_contract (ts := [32, 32, 5]) (tb := 4) ok_law3_PackOrder (by rw [Try.params7]) (by kernel_rfl) Try.underlying4 laid (by kernel_rfl) rd_law3_PackOrder (fun _ h => h) says_law3_PackOrder H enc W base args ds gs before hval hW
theorem over_law3_PackOrder : Rows.packOrderRow.holds Try.pinned (OpenSpec.ofChange Rows.packOrderSpec) :=
  OpenClaim.holds_of_wide 7 Try.f7 rfl rfl rfl rfl rfl rfl rfl ⟨rfl, rfl, rfl, rfl, rfl⟩ rfl rfl rfl rfl rfl (by kernel_rfl) Try.func7 (by kernel_rfl)
    (of_decide_eq_true (by kernel_rfl)) (by unfold Func.isWrapper; first | (rw [if_pos (by decide +kernel)]; kernel_rfl) | (rw [if_neg (by decide +kernel)]; exact ⟨rfl, rfl⟩))
    (fun os started H enc _ => lifted_law3_PackOrder os started H enc)
theorem packOrder_holds : Rows.PackOrderSaid := over_law3_PackOrder
end Go.Proofs.Ytnabeiodhhmdoaa

