/-
  MapBit.
-/
import Derived.Test.YtlfncfaonnaneaaFnsE
set_option linter.unusedSimpArgs false
set_option linter.unusedVariables false
namespace Go.Proofs.Ytlfncfaonnaneaa
open Go Go.Eng
def G_law9_MapBit_7 : GCode := .seq (.seq .weak (.region [⟨(some 34), none, .move (.tmp 5)⟩, ⟨(some 35), none, .move (.tmp 5)⟩, ⟨(some 36), none, .binOp .add 3 (.tmp 35) (.const (.int .i64 7)) 3⟩, ⟨(some 37), none, .binOp .quo 3 (.tmp 36) (.const (.int .i64 8)) 3⟩, ⟨(some 38), none, .slice 35 (.tmp 6) none (some (.tmp 37)) none⟩, ⟨(some 39), none, .convert 22 9 (.tmp 38)⟩, ⟨(some 40), none, .binOp .add 9 (.tmp 39) (.const (.string ⟨#[122]⟩)) 9⟩, ⟨(some 41), none, .call ⟨.value (.func 13), #[.tmp 34, .tmp 40], #[3, 9]⟩⟩, ⟨(some 33), none, .move (.tmp 41)⟩, ⟨(some 42), none, .extract (.tmp 33) 0⟩, ⟨(some 43), none, .extract (.tmp 33) 1⟩, ⟨(some 44), none, .extract (.tmp 33) 2⟩, ⟨(some 7), none, .assign (.tmp 42)⟩, ⟨(some 8), none, .assign (.tmp 43)⟩, ⟨(some 9), none, .assign (.tmp 44)⟩])) (.seq (.seq (.seq .weak (.region [⟨(some 45), none, .move (.tmp 9)⟩, ⟨(some 46), none, .unOp .not 4 (.tmp 45)⟩, ⟨(some 47), none, .move (.tmp 46)⟩, ⟨(some 48), (some (47, false)), .move (.tmp 8)⟩, ⟨(some 49), (some (47, false)), .binOp .neq 9 (.tmp 48) (.const (.string ⟨#[122]⟩)) 9⟩, ⟨(some 50), none, .pick (.tmp 47) (.const (.bool true)) (.tmp 49)⟩, ⟨(some 51), none, .move (.tmp 50)⟩, ⟨(some 52), (some (51, false)), .move (.tmp 7)⟩, ⟨(some 53), (some (51, false)), .call ⟨.value (.func 20), #[.tmp 52], #[23]⟩⟩, ⟨(some 54), (some (51, false)), .unOp .not 4 (.tmp 53)⟩, ⟨(some 55), none, .pick (.tmp 51) (.const (.bool true)) (.tmp 54)⟩])) (.cond (.tmp 55) (.seq (.region [⟨(some 4), none, .assign (.const (.bool false))⟩]) (.ret)) (.skip))) (.seq (.seq (.seq .weak (.region [⟨(some 10), none, .assign (.const (.int .i64 0))⟩])) (.block 0 (.loop (.seq .weak (.seq (.seq (.region [⟨(some 56), none, .move (.tmp 10)⟩, ⟨(some 57), none, .move (.tmp 5)⟩, ⟨(some 58), none, .binOp .lss 3 (.tmp 56) (.tmp 57) 3⟩]) (.cond (.tmp 58) (.skip) (.exit 0))) (.seq (.block 1 (.seq (.region [⟨(some 61), none, .move (.tmp 7)⟩, ⟨(some 62), none, .move (.tmp 10)⟩, ⟨(some 63), none, .binOp .add 3 (.const (.int .i64 14)) (.tmp 62) 3⟩, ⟨(some 64), none, .call ⟨.value (.func 21), #[.tmp 61, .tmp 63], #[23, 3]⟩⟩, ⟨(some 65), none, .move (.tmp 10)⟩, ⟨(some 66), none, .binOp .quo 3 (.tmp 65) (.const (.int .i64 8)) 3⟩, ⟨(some 67), none, .indexAddr 35 (.tmp 6) (.tmp 66)⟩, ⟨(some 68), none, .load 5 (.tmp 67)⟩, ⟨(some 69), none, .move (.tmp 10)⟩, ⟨(some 70), none, .binOp .rem 3 (.tmp 69) (.const (.int .i64 8)) 3⟩, ⟨(some 71), none, .binOp .shr 5 (.tmp 68) (.tmp 70) 3⟩, ⟨(some 72), none, .binOp .and 5 (.tmp 71) (.const (.int .u8 1)) 5⟩, ⟨(some 73), none, .binOp .eql 5 (.tmp 72) (.const (.int .u8 1)) 5⟩, ⟨(some 74), none, .binOp .neq 4 (.tmp 64) (.tmp 73) 4⟩]) (.cond (.tmp 74) (.seq (.region [⟨(some 4), none, .assign (.const (.bool false))⟩]) (.ret)) (.skip)))) (.region [⟨(some 59), none, .move (.tmp 10)⟩, ⟨(some 60), none, .binOp .add 3 (.tmp 59) (.const (.int .i64 1)) 3⟩, ⟨(some 10), none, .assign (.tmp 60)⟩]))))))) (.seq (.region [⟨(some 75), none, .move (.tmp 7)⟩, ⟨(some 76), none, .call ⟨.value (.func 21), #[.tmp 75, .const (.int .i64 13)], #[23, 3]⟩⟩, ⟨(some 77), none, .unOp .not 4 (.tmp 76)⟩, ⟨(some 78), none, .move (.tmp 77)⟩, ⟨(some 79), (some (78, true)), .move (.tmp 7)⟩, ⟨(some 80), (some (78, true)), .move (.tmp 5)⟩, ⟨(some 81), (some (78, true)), .binOp .add 3 (.const (.int .i64 14)) (.tmp 80) 3⟩, ⟨(some 82), (some (78, true)), .call ⟨.value (.func 21), #[.tmp 79, .tmp 81], #[23, 3]⟩⟩, ⟨(some 83), (some (78, true)), .unOp .not 4 (.tmp 82)⟩, ⟨(some 84), none, .pick (.tmp 78) (.tmp 83) (.const (.bool false))⟩, ⟨(some 4), none, .assign (.tmp 84)⟩]) (.ret))))
def G_law9_MapBit : GCode := .seq (.region [⟨(some 3), none, .box 35 (.tmp 1)⟩, ⟨(some 4), none, .assign (.const (.bool false))⟩]) (.seq (.seq (.region [⟨(some 11), none, .call ⟨.value (.func 8), #[], #[]⟩⟩, ⟨(some 12), none, .unOp .not 4 (.tmp 11)⟩]) (.cond (.tmp 12) (.seq (.region [⟨(some 4), none, .assign (.const (.bool false))⟩]) (.ret)) (.skip))) (.seq (.region [⟨(some 13), none, .move (.tmp 0)⟩, ⟨(some 14), none, .convert 5 3 (.tmp 13)⟩, ⟨(some 15), none, .binOp .rem 3 (.tmp 14) (.const (.int .i64 201)) 3⟩, ⟨(some 16), none, .binOp .add 3 (.const (.int .i64 40)) (.tmp 15) 3⟩, ⟨(some 5), none, .assign (.tmp 16)⟩]) (.seq (.seq .weak (.region [⟨(some 17), none, .load 35 (.tmp 3)⟩, ⟨(some 6), none, .alloc 35⟩, ⟨none, none, .store 35 (.tmp 6) (.tmp 17)⟩])) (.seq (.seq (.seq .weak (.region [⟨(some 18), none, .move (.tmp 5)⟩, ⟨(some 19), none, .binOp .rem 3 (.tmp 18) (.const (.int .i64 8)) 3⟩, ⟨(some 20), none, .binOp .gtr 3 (.tmp 19) (.const (.int .i64 0)) 3⟩])) (.cond (.tmp 20) (.region [⟨(some 21), none, .move (.tmp 5)⟩, ⟨(some 22), none, .binOp .quo 3 (.tmp 21) (.const (.int .i64 8)) 3⟩, ⟨(some 23), none, .move (.tmp 5)⟩, ⟨(some 24), none, .binOp .quo 3 (.tmp 23) (.const (.int .i64 8)) 3⟩, ⟨(some 25), none, .indexAddr 35 (.tmp 6) (.tmp 24)⟩, ⟨(some 26), none, .load 5 (.tmp 25)⟩, ⟨(some 27), none, .move (.tmp 5)⟩, ⟨(some 28), none, .binOp .rem 3 (.tmp 27) (.const (.int .i64 8)) 3⟩, ⟨(some 29), none, .binOp .shl 5 (.const (.int .u8 1)) (.tmp 28) 3⟩, ⟨(some 30), none, .binOp .sub 5 (.tmp 29) (.const (.int .u8 1)) 5⟩, ⟨(some 31), none, .binOp .and 5 (.tmp 26) (.tmp 30) 5⟩, ⟨(some 32), none, .indexAddr 35 (.tmp 6) (.tmp 22)⟩, ⟨none, none, .store 5 (.tmp 32) (.tmp 31)⟩]) (.skip))) (G_law9_MapBit_7)))))
noncomputable def l_law9_MapBit : List (Nat × Con) := [(8, c_law9_begun), (13, c_smap_Take), (20, c_ref8_MayRuns), (21, c_ref8_Has)]
noncomputable abbrev K_law9_MapBit : Ctx := ctx (cl l_law9_MapBit)
theorem geq_law9_MapBit : gof K_law9_MapBit Try.f7 = some G_law9_MapBit.strip := by kernel_rfl
theorem sys_law9_MapBit : Go.Eng.Sys Try.prog K_law9_MapBit := sys_of' ⟨ok_law9_begun, ok_smap_Take, ok_ref8_MayRuns, ok_ref8_Has, trivial⟩
theorem hm_law9_MapBit : ConMono K_law9_MapBit := conMono_of sys_law9_MapBit.con
noncomputable def k_law9_MapBit_law9_begun := PLift.up (call_scal (C := K_law9_MapBit) (f := 8) (A := A_law9_begun) (p := p_law9_begun) (r := r_law9_begun) rfl)
noncomputable def k_law9_MapBit_smap_Take := PLift.up (call_fn (C := K_law9_MapBit) (f := 13) (A := A_smap_Take) (p := p_smap_Take) (r := r_smap_Take) rfl)
noncomputable def k_law9_MapBit_ref8_MayRuns := PLift.up (call_scal (C := K_law9_MapBit) (f := 20) (A := A_ref8_MayRuns) (p := p_ref8_MayRuns) (r := r_ref8_MayRuns) rfl)
noncomputable def k_law9_MapBit_ref8_Has := PLift.up (call_scal (C := K_law9_MapBit) (f := 21) (A := A_ref8_Has) (p := p_ref8_Has) (r := r_ref8_Has) rfl)
set_option maxRecDepth 100000 in
set_option maxHeartbeats 4000000 in
theorem bit_7 {n : Nat} {C : List Byt} (hn : 40 ≤ n ∧ n ≤ 240) (hC : C.length = 30) (ok : takeOkM n (txt C n ++ [122]) = true) {g : Nat} {σ : St}
    (hσ : Wk σ (mkS [(5, .t (.int .i64 (n : Nat))), (6, .ptr g 0)] (Store.empty.set g (some (.box ((C.map Go.Eng.one).map AV.t) false))))) :
    avp K_law9_MapBit G_law9_MapBit_7 (Ret K_law9_MapBit [.tmp 4] fun v _ => v = .t (.bool true)) σ := by
  unfold G_law9_MapBit_7
  simp only [avp_seq]
  refine ⟨_, hσ, ?_⟩
  have w2 : IntKind.i64.wrap ((n : Int) + 7) = ((n + 7 : Nat) : Int) := by rw [IntWalk.i64_in _ (by omega)]; omega
  have w3 := tdiv_nat (n + 7)
  have w4 : IntKind.i64.wrap (((n + 7) / 8 : Nat) : Int) = (((n + 7) / 8 : Nat) : Int) := IntWalk.i64_in _ (by omega)
  have hN : (n + 7) / 8 ≤ C.length := by omega
  obtain ⟨o, t1, t2, t3, hbit, _⟩ := took ok
  have hl := txt_len hN
  rw [List.drop_left' hl] at t1
  have hps : (txt C n ++ [122]).length ≤ 1000000 := by rw [List.length_append, hl, List.length_singleton]; omega
  have hb7 : ∀ i, i < n → hasR (takeM n (txt C n ++ [122])).1 (14 + (i : Int)) = bt (C.getD (i / 8) default).v (i % 8) := fun i hi => by
    rw [hbit i hi, bitA_app (by omega), bitA_txt (by omega)]
  obtain ⟨l, hlT⟩ : ∃ l, l = (takeM n (txt C n ++ [122])).1 := ⟨_, rfl⟩
  have hll : l.length ≤ 1000 := hlT ▸ take_len9
  rw [← hlT] at o hb7
  have hcv : convB K_law9_MapBit (Store.empty.set g (some (.box ((C.map Go.Eng.one).map AV.t) false))) 22 9 (.btok g 1 0 ((n + 7) / 8)) = .val True (.t (.str (txt C n))) := conv_btok ty_Luint8 ty_string ty_uint8 (Store.set_same _ _ _) hN
  have c0 : (0 : Int) ≤ (((n + 7) / 8 : Nat) : Int) := by omega
  have c30 : (((n + 7) / 8 : Nat) : Int) ≤ 30 := by omega
  simp only [vP.down, vS.down, vE.down, Nat.reduceEqDiff, Nat.reduceAdd, Nat.reduceSub, Nat.reduceMul, Nat.reduceLeDiff, Nat.reduceLT, Int.reduceToNat, reduceIte, reduceCtorEq, Int.reduceEq, Int.reduceLT, Int.reduceLE, ↓avp_condG, ↓tf_arrow, ↓ft_arrow, w2, w3, w4, c0, c30, hcv, hps, t1, t2, ← hlT, Int.toNat_natCast, k_law9_MapBit_smap_Take.down, A_smap_Take, p_smap_Take, r_smap_Take]
  refine ⟨by omega, ?_⟩
  refine weak_at [(5, .t (.int .i64 (n : Nat))), (6, .imm (C.map Go.Eng.one)), (7, .t (sl l)), (8, .t (.str [122])), (9, .t (.bool true))] .empty fewer_empty (by
    simp only [vP.down, vS.down, vE.down, Nat.reduceEqDiff, Nat.reduceAdd, Nat.reduceSub, Nat.reduceMul, Nat.reduceLeDiff, Nat.reduceLT, Int.reduceToNat, reduceIte, reduceCtorEq, Int.reduceEq, Int.reduceLT, Int.reduceLE, ↓avp_condG, ↓tf_arrow, ↓ft_arrow, wP.down]
    exact w2_imm (l := C.map Go.Eng.one) (ro := false) (Store.set_same _ _ _) rfl) ?_
  have hm : mayR (-1) l = true := may_of o.nf o.wn (by omega) (by omega)
  have pl : l.length < 4611686018427387904 := by omega
  simp only [vP.down, vS.down, vE.down, Nat.reduceEqDiff, Nat.reduceAdd, Nat.reduceSub, Nat.reduceMul, Nat.reduceLeDiff, Nat.reduceLT, Int.reduceToNat, reduceIte, reduceCtorEq, Int.reduceEq, Int.reduceLT, Int.reduceLE, ↓avp_condG, ↓tf_arrow, ↓ft_arrow, hm, pl, bne_self_eq_false, pick_of, pick_ot, false_implies, k_law9_MapBit_ref8_MayRuns.down, A_ref8_MayRuns, p_ref8_MayRuns, r_ref8_MayRuns]
  refine weak_at [(5, .t (.int .i64 (n : Nat))), (6, .imm (C.map Go.Eng.one)), (7, .t (sl l))] .empty fewer_refl (by simp only [vP.down, vS.down, vE.down, Nat.reduceEqDiff, Nat.reduceAdd, Nat.reduceSub, Nat.reduceMul, Nat.reduceLeDiff, Nat.reduceLT, Int.reduceToNat, reduceIte, reduceCtorEq, Int.reduceEq, Int.reduceLT, Int.reduceLE, ↓avp_condG, ↓tf_arrow, ↓ft_arrow, wP.down]) ?_
  simp only [vP.down, vS.down, vE.down, Nat.reduceEqDiff, Nat.reduceAdd, Nat.reduceSub, Nat.reduceMul, Nat.reduceLeDiff, Nat.reduceLT, Int.reduceToNat, reduceIte, reduceCtorEq, Int.reduceEq, Int.reduceLT, Int.reduceLE, ↓avp_condG, ↓tf_arrow, ↓ft_arrow]
  refine loop_weak hm_law9_MapBit (fun m σ => ∃ i : Nat, m = n - i ∧ i ≤ n ∧ σ = mkS [(5, .t (.int .i64 (n : Nat))), (6, .imm (C.map Go.Eng.one)), (7, .t (sl l)), (10, .t (.int .i64 (i : Nat)))] .empty) ⟨0, rfl, by omega, rfl⟩ (wk_to fewer_refl (by simp only [vP.down, vS.down, vE.down, Nat.reduceEqDiff, Nat.reduceAdd, Nat.reduceSub, Nat.reduceMul, Nat.reduceLeDiff, Nat.reduceLT, Int.reduceToNat, reduceIte, reduceCtorEq, Int.reduceEq, Int.reduceLT, Int.reduceLE, ↓avp_condG, ↓tf_arrow, ↓ft_arrow, wP.down, Int.natCast_zero])) ?_
  rintro m _ ⟨i, rfl, hi, rfl⟩
  have hi1 : IntKind.i64.wrap ((i : Int) + 1) = ((i + 1 : Nat) : Int) := by rw [IntWalk.i64_in _ (by omega)]; rfl
  have w5 : IntKind.i64.wrap (14 + (i : Int)) = 14 + (i : Int) := IntWalk.i64_in _ (by omega)
  by_cases hlt : i < n
  case neg =>
    obtain rfl : i = n := by omega
    have hge : ¬ (((i : Nat) : Int) < ((i : Nat) : Int)) := by omega
    have h13 : hasR l 13 = false := by
      cases hh : hasR l 13 with
      | false => rfl
      | true => have := o.wn _ hh; omega
    have h14 : hasR l (14 + (i : Int)) = false := by
      cases hh : hasR l (14 + (i : Int)) with
      | false => rfl
      | true => have := o.wn _ hh; omega
    simp only [vP.down, vS.down, vE.down, Nat.reduceEqDiff, Nat.reduceAdd, Nat.reduceSub, Nat.reduceMul, Nat.reduceLeDiff, Nat.reduceLT, Int.reduceToNat, reduceIte, reduceCtorEq, Int.reduceEq, Int.reduceLT, Int.reduceLE, ↓avp_condG, ↓tf_arrow, ↓ft_arrow, hge, w5, pl, h13, h14, pick_of, pick_ot, false_implies, k_law9_MapBit_ref8_Has.down, A_ref8_Has, p_ref8_Has, r_ref8_Has]
    simp only [vP.down, vS.down, vE.down, Nat.reduceEqDiff, Nat.reduceAdd, Nat.reduceSub, Nat.reduceMul, Nat.reduceLeDiff, Nat.reduceLT, Int.reduceToNat, reduceIte, reduceCtorEq, Int.reduceEq, Int.reduceLT, Int.reduceLE, ↓avp_condG, ↓tf_arrow, ↓ft_arrow, vT.down]
  have hlt' : (i : Int) < (n : Int) := by omega
  have u1 := tdiv_nat i
  have u2 := tmod_nat i
  have u3 : IntKind.i64.wrap ((i / 8 : Nat) : Int) = ((i / 8 : Nat) : Int) := IntWalk.i64_in _ (by omega)
  have u4 : IntKind.i64.wrap ((i % 8 : Nat) : Int) = ((i % 8 : Nat) : Int) := IntWalk.i64_in _ (by omega)
  have hbt := bt_eq2 (C.getD (i / 8) default).v (k := i % 8) (by omega)
  have h7 := hb7 i hlt
  have h8' : ((i / 8 : Nat) : Int) < 30 := by omega
  have h80 : (0 : Int) ≤ ((i / 8 : Nat) : Int) := by omega
  have h81 : (0 : Int) ≤ ((i % 8 : Nat) : Int) := by omega
  have hdr := drop_imm (C := C) (j := i / 8) (by omega)
  have h10 : ((0 : Int) = 1) = False := by simp
  cases hb : bt (C.getD (i / 8) default).v (i % 8) with
  | false =>
    rw [hb] at h7
    rw [hb, if_neg (by simp)] at hbt
    simp only [vP.down, vS.down, vE.down, Nat.reduceEqDiff, Nat.reduceAdd, Nat.reduceSub, Nat.reduceMul, Nat.reduceLeDiff, Nat.reduceLT, Int.reduceToNat, reduceIte, reduceCtorEq, Int.reduceEq, Int.reduceLT, Int.reduceLE, ↓avp_condG, ↓tf_arrow, ↓ft_arrow, hlt', w5, pl, u1, u2, u3, u4, h7, h8', h80, h81, hdr, hbt, h10, bne_self_eq_false, Nat.mul_one, Nat.zero_add, Int.toNat_natCast, false_implies, k_law9_MapBit_ref8_Has.down, A_ref8_Has, p_ref8_Has, r_ref8_Has]
    exact round_to (n - (i + 1)) [(5, .t (.int .i64 (n : Nat))), (6, .imm (C.map Go.Eng.one)), (7, .t (sl l)), (10, .t (.int .i64 (i + 1 : Nat)))] .empty (by omega) fewer_refl (by simp only [vP.down, vS.down, vE.down, Nat.reduceEqDiff, Nat.reduceAdd, Nat.reduceSub, Nat.reduceMul, Nat.reduceLeDiff, Nat.reduceLT, Int.reduceToNat, reduceIte, reduceCtorEq, Int.reduceEq, Int.reduceLT, Int.reduceLE, ↓avp_condG, ↓tf_arrow, ↓ft_arrow, wP.down, hi1]) ⟨i + 1, rfl, by omega, rfl⟩
  | true =>
    rw [hb] at h7
    rw [hb, if_pos rfl] at hbt
    simp only [vP.down, vS.down, vE.down, Nat.reduceEqDiff, Nat.reduceAdd, Nat.reduceSub, Nat.reduceMul, Nat.reduceLeDiff, Nat.reduceLT, Int.reduceToNat, reduceIte, reduceCtorEq, Int.reduceEq, Int.reduceLT, Int.reduceLE, ↓avp_condG, ↓tf_arrow, ↓ft_arrow, hlt', w5, pl, u1, u2, u3, u4, h7, h8', h80, h81, hdr, hbt, bne_self_eq_false, Nat.mul_one, Nat.zero_add, Int.toNat_natCast, false_implies, k_law9_MapBit_ref8_Has.down, A_ref8_Has, p_ref8_Has, r_ref8_Has]
    exact round_to (n - (i + 1)) [(5, .t (.int .i64 (n : Nat))), (6, .imm (C.map Go.Eng.one)), (7, .t (sl l)), (10, .t (.int .i64 (i + 1 : Nat)))] .empty (by omega) fewer_refl (by simp only [vP.down, vS.down, vE.down, Nat.reduceEqDiff, Nat.reduceAdd, Nat.reduceSub, Nat.reduceMul, Nat.reduceLeDiff, Nat.reduceLT, Int.reduceToNat, reduceIte, reduceCtorEq, Int.reduceEq, Int.reduceLT, Int.reduceLE, ↓avp_condG, ↓tf_arrow, ↓ft_arrow, wP.down, hi1]) ⟨i + 1, rfl, by omega, rfl⟩
noncomputable def A_law9_MapBit : Arms (Byt × (Byt × Byt × Byt × Byt × Byt × Byt × Byt × Byt × Byt × Byt × Byt × Byt × Byt × Byt × Byt × Byt × Byt × Byt × Byt × Byt × Byt × Byt × Byt × Byt × Byt × Byt × Byt × Byt × Byt × Byt) × Unit) := Arms.cons (argT Byt) (Arms.cons (argA (Byt × Byt × Byt × Byt × Byt × Byt × Byt × Byt × Byt × Byt × Byt × Byt × Byt × Byt × Byt × Byt × Byt × Byt × Byt × Byt × Byt × Byt × Byt × Byt × Byt × Byt × Byt × Byt × Byt × Byt)) (Arms.nil))
def p_law9_MapBit (x : Byt × (Byt × Byt × Byt × Byt × Byt × Byt × Byt × Byt × Byt × Byt × Byt × Byt × Byt × Byt × Byt × Byt × Byt × Byt × Byt × Byt × Byt × Byt × Byt × Byt × Byt × Byt × Byt × Byt × Byt × Byt) × Unit) : Prop := (goodAny x.1) ∧ ((goodAny x.2.1.1 ∧ (goodAny x.2.1.2.1 ∧ (goodAny x.2.1.2.2.1 ∧ (goodAny x.2.1.2.2.2.1 ∧ (goodAny x.2.1.2.2.2.2.1 ∧ (goodAny x.2.1.2.2.2.2.2.1 ∧ (goodAny x.2.1.2.2.2.2.2.2.1 ∧ (goodAny x.2.1.2.2.2.2.2.2.2.1 ∧ (goodAny x.2.1.2.2.2.2.2.2.2.2.1 ∧ (goodAny x.2.1.2.2.2.2.2.2.2.2.2.1 ∧ (goodAny x.2.1.2.2.2.2.2.2.2.2.2.2.1 ∧ (goodAny x.2.1.2.2.2.2.2.2.2.2.2.2.2.1 ∧ (goodAny x.2.1.2.2.2.2.2.2.2.2.2.2.2.2.1 ∧ (goodAny x.2.1.2.2.2.2.2.2.2.2.2.2.2.2.2.1 ∧ (goodAny x.2.1.2.2.2.2.2.2.2.2.2.2.2.2.2.2.1 ∧ (goodAny x.2.1.2.2.2.2.2.2.2.2.2.2.2.2.2.2.2.1 ∧ (goodAny x.2.1.2.2.2.2.2.2.2.2.2.2.2.2.2.2.2.2.1 ∧ (goodAny x.2.1.2.2.2.2.2.2.2.2.2.2.2.2.2.2.2.2.2.1 ∧ (goodAny x.2.1.2.2.2.2.2.2.2.2.2.2.2.2.2.2.2.2.2.2.1 ∧ (goodAny x.2.1.2.2.2.2.2.2.2.2.2.2.2.2.2.2.2.2.2.2.2.1 ∧ (goodAny x.2.1.2.2.2.2.2.2.2.2.2.2.2.2.2.2.2.2.2.2.2.2.1 ∧ (goodAny x.2.1.2.2.2.2.2.2.2.2.2.2.2.2.2.2.2.2.2.2.2.2.2.1 ∧ (goodAny x.2.1.2.2.2.2.2.2.2.2.2.2.2.2.2.2.2.2.2.2.2.2.2.2.1 ∧ (goodAny x.2.1.2.2.2.2.2.2.2.2.2.2.2.2.2.2.2.2.2.2.2.2.2.2.2.1 ∧ (goodAny x.2.1.2.2.2.2.2.2.2.2.2.2.2.2.2.2.2.2.2.2.2.2.2.2.2.2.1 ∧ (goodAny x.2.1.2.2.2.2.2.2.2.2.2.2.2.2.2.2.2.2.2.2.2.2.2.2.2.2.2.1 ∧ (goodAny x.2.1.2.2.2.2.2.2.2.2.2.2.2.2.2.2.2.2.2.2.2.2.2.2.2.2.2.2.1 ∧ (goodAny x.2.1.2.2.2.2.2.2.2.2.2.2.2.2.2.2.2.2.2.2.2.2.2.2.2.2.2.2.2.1 ∧ (goodAny x.2.1.2.2.2.2.2.2.2.2.2.2.2.2.2.2.2.2.2.2.2.2.2.2.2.2.2.2.2.2.1 ∧ (goodAny x.2.1.2.2.2.2.2.2.2.2.2.2.2.2.2.2.2.2.2.2.2.2.2.2.2.2.2.2.2.2.2))))))))))))))))))))))))))))))) ∧ goodAny (x.2.2)
abbrev r_law9_MapBit (x : Byt × (Byt × Byt × Byt × Byt × Byt × Byt × Byt × Byt × Byt × Byt × Byt × Byt × Byt × Byt × Byt × Byt × Byt × Byt × Byt × Byt × Byt × Byt × Byt × Byt × Byt × Byt × Byt × Byt × Byt × Byt) × Unit) : AV := rTrue x
theorem rd_law9_MapBit : ReadsA Try.prog [5, 35] A_law9_MapBit p_law9_MapBit := (readsA_T (reads_u8 Try.underlying5) (by kernel_rfl) (readsA_A (reads_arr Try.underlying35 (by kernel_rfl) (readsL_cons (reads_u8 Try.underlying5) (by kernel_rfl) (readsL_cons (reads_u8 Try.underlying5) (by kernel_rfl) (readsL_cons (reads_u8 Try.underlying5) (by kernel_rfl) (readsL_cons (reads_u8 Try.underlying5) (by kernel_rfl) (readsL_cons (reads_u8 Try.underlying5) (by kernel_rfl) (readsL_cons (reads_u8 Try.underlying5) (by kernel_rfl) (readsL_cons (reads_u8 Try.underlying5) (by kernel_rfl) (readsL_cons (reads_u8 Try.underlying5) (by kernel_rfl) (readsL_cons (reads_u8 Try.underlying5) (by kernel_rfl) (readsL_cons (reads_u8 Try.underlying5) (by kernel_rfl) (readsL_cons (reads_u8 Try.underlying5) (by kernel_rfl) (readsL_cons (reads_u8 Try.underlying5) (by kernel_rfl) (readsL_cons (reads_u8 Try.underlying5) (by kernel_rfl) (readsL_cons (reads_u8 Try.underlying5) (by kernel_rfl) (readsL_cons (reads_u8 Try.underlying5) (by kernel_rfl) (readsL_cons (reads_u8 Try.underlying5) (by kernel_rfl) (readsL_cons (reads_u8 Try.underlying5) (by kernel_rfl) (readsL_cons (reads_u8 Try.underlying5) (by kernel_rfl) (readsL_cons (reads_u8 Try.underlying5) (by kernel_rfl) (readsL_cons (reads_u8 Try.underlying5) (by kernel_rfl) (readsL_cons (reads_u8 Try.underlying5) (by kernel_rfl) (readsL_cons (reads_u8 Try.underlying5) (by kernel_rfl) (readsL_cons (reads_u8 Try.underlying5) (by kernel_rfl) (readsL_cons (reads_u8 Try.underlying5) (by kernel_rfl) (readsL_cons (reads_u8 Try.underlying5) (by kernel_rfl) (readsL_cons (reads_u8 Try.underlying5) (by kernel_rfl) (readsL_cons (reads_u8 Try.underlying5) (by kernel_rfl) (readsL_cons (reads_u8 Try.underlying5) (by kernel_rfl) (readsL_cons (reads_u8 Try.underlying5) (by kernel_rfl) (readsL_one (reads_u8 Try.underlying5) (by kernel_rfl)))))))))))))))))))))))))))))))) (by kernel_rfl) readsA_nil))
set_option maxRecDepth 100000 in
set_option maxHeartbeats 4000000 in
theorem body_law9_MapBit (x) (hx : p_law9_MapBit x) : avp K_law9_MapBit G_law9_MapBit (Ret K_law9_MapBit [.tmp 4] fun v _ => v = r_law9_MapBit x) (entry (A_law9_MapBit.enc x) .empty) := by
  obtain ⟨⟨k⟩, t, ⟨⟩⟩ := x
  obtain ⟨B, hB, hE⟩ := arr30 t
  change avp _ _ (Ret _ _ fun v _ => v = .t (.bool true)) (entry [.t (.int .u8 (k.toNat : Int)), .agg ((Cell.enc t).map .t)] .empty)
  rw [hE]
  have hBl : ((B.map Go.Eng.one).map AV.t).length = 30 := by rw [List.length_map, List.length_map, hB]
  unfold G_law9_MapBit
  simp only [vP.down, vS.down, vE.down, Nat.reduceEqDiff, Nat.reduceAdd, Nat.reduceSub, Nat.reduceMul, Nat.reduceLeDiff, Nat.reduceLT, Int.reduceToNat, reduceIte, reduceCtorEq, Int.reduceEq, Int.reduceLT, Int.reduceLE, ↓avp_condG, ↓tf_arrow, ↓ft_arrow, hBl, k_law9_MapBit_law9_begun.down, A_law9_begun, p_law9_begun, r_law9_begun]
  intro g hg
  have k8 := k.toNat_lt
  have w1 : IntKind.i64.wrap (k.toNat : Int) = (k.toNat : Int) := IntWalk.i64_in _ (by omega)
  have w2 : (k.toNat : Int).tmod 201 = ((k.toNat % 201 : Nat) : Int) := by
    rw [Int.tmod_eq_emod_of_nonneg (by omega)]; exact (Int.natCast_emod k.toNat 201).symm
  have w3 : IntKind.i64.wrap ((k.toNat % 201 : Nat) : Int) = ((k.toNat % 201 : Nat) : Int) := IntWalk.i64_in _ (by omega)
  obtain ⟨n, hn⟩ : ∃ n, n = 40 + k.toNat % 201 := ⟨_, rfl⟩
  have w4 : IntKind.i64.wrap (40 + ((k.toNat % 201 : Nat) : Int)) = (n : Int) := by rw [IntWalk.i64_in _ (by omega)]; omega
  have hn1 : 40 ≤ n ∧ n ≤ 240 := by omega
  simp only [w1, w2, w3, w4]
  refine weak_at [(3, .ptr g 0), (5, .t (.int .i64 (n : Nat)))] (Store.empty.set g (some (.box ((B.map Go.Eng.one).map AV.t) false))) fewer_refl (by simp only [vP.down, vS.down, vE.down, Nat.reduceEqDiff, Nat.reduceAdd, Nat.reduceSub, Nat.reduceMul, Nat.reduceLeDiff, Nat.reduceLT, Int.reduceToNat, reduceIte, reduceCtorEq, Int.reduceEq, Int.reduceLT, Int.reduceLE, ↓avp_condG, ↓tf_arrow, ↓ft_arrow, wP.down]) ?_
  simp only [vP.down, vS.down, vE.down, Nat.reduceEqDiff, Nat.reduceAdd, Nat.reduceSub, Nat.reduceMul, Nat.reduceLeDiff, Nat.reduceLT, Int.reduceToNat, reduceIte, reduceCtorEq, Int.reduceEq, Int.reduceLT, Int.reduceLE, ↓avp_condG, ↓tf_arrow, ↓ft_arrow, hBl, Store.set_same]
  refine ⟨by omega, fun g2 hg2 => ?_⟩
  have h21 := Store.ne_new hg2
  rw [List.take_of_length_le (by omega)]
  refine ⟨hBl, by simp [AV.one], ?_⟩
  refine weak_at [(5, .t (.int .i64 (n : Nat))), (6, .ptr g2 0)] (Store.empty.set g2 (some (.box ((B.map Go.Eng.one).map AV.t) false))) (fewer_sub fun k e hk => ?_) (by simp only [vP.down, vS.down, vE.down, Nat.reduceEqDiff, Nat.reduceAdd, Nat.reduceSub, Nat.reduceMul, Nat.reduceLeDiff, Nat.reduceLT, Int.reduceToNat, reduceIte, reduceCtorEq, Int.reduceEq, Int.reduceLT, Int.reduceLE, ↓avp_condG, ↓tf_arrow, ↓ft_arrow, wP.down]) ?_
  · by_cases h : k = g2
    · subst h
      rw [Store.set_same] at hk ⊢
      rw [List.drop_of_length_le (by rw [hBl]; exact Nat.le_refl _), List.append_nil]
      exact hk
    · rw [Store.set_other _ _ h] at hk; cases hk
  have hd : dataOk n = true := dataOk_iff.2 (by omega)
  have hok := clr_ok (B := B) hd (by omega) [122]
  have w5 := tmod_nat n
  have w6 := tdiv_nat n
  have w7 : IntKind.i64.wrap ((n / 8 : Nat) : Int) = ((n / 8 : Nat) : Int) := IntWalk.i64_in _ (by omega)
  have w8 : IntKind.i64.wrap ((n % 8 : Nat) : Int) = ((n % 8 : Nat) : Int) := IntWalk.i64_in _ (by omega)
  by_cases h0 : n % 8 = 0
  · have c0 : ¬ (0 : Int) < ((n % 8 : Nat) : Int) := by omega
    have e : clr B n = B := by rw [clr, if_pos h0]
    rw [e] at hok
    simp only [vP.down, vS.down, vE.down, Nat.reduceEqDiff, Nat.reduceAdd, Nat.reduceSub, Nat.reduceMul, Nat.reduceLeDiff, Nat.reduceLT, Int.reduceToNat, reduceIte, reduceCtorEq, Int.reduceEq, Int.reduceLT, Int.reduceLE, ↓avp_condG, ↓tf_arrow, ↓ft_arrow, w5, w8, c0, gt_iff_lt]
    exact bit_7 (by omega) hB hok (wk_to fewer_refl (by simp only [vP.down, vS.down, vE.down, Nat.reduceEqDiff, Nat.reduceAdd, Nat.reduceSub, Nat.reduceMul, Nat.reduceLeDiff, Nat.reduceLT, Int.reduceToNat, reduceIte, reduceCtorEq, Int.reduceEq, Int.reduceLT, Int.reduceLE, ↓avp_condG, ↓tf_arrow, ↓ft_arrow, wP.down]))
  · have c0 : (0 : Int) < ((n % 8 : Nat) : Int) := by omega
    have c30 : ((n / 8 : Nat) : Int) < 30 := by omega
    have c1 : (0 : Int) ≤ ((n / 8 : Nat) : Int) := by omega
    have c2 : (0 : Int) ≤ ((n % 8 : Nat) : Int) := by omega
    have hdr := drop_box (C := B) (j := n / 8) (by omega)
    have hms := msk_eq (B.getD (n / 8) default).v (r := n % 8) (by omega)
    have e : clr B n = B.set (n / 8) ⟨mskb (B.getD (n / 8) default).v (n % 8)⟩ := by rw [clr, if_neg h0]
    simp only [vP.down, vS.down, vE.down, Nat.reduceEqDiff, Nat.reduceAdd, Nat.reduceSub, Nat.reduceMul, Nat.reduceLeDiff, Nat.reduceLT, Int.reduceToNat, reduceIte, reduceCtorEq, Int.reduceEq, Int.reduceLT, Int.reduceLE, ↓avp_condG, ↓tf_arrow, ↓ft_arrow, w5, w6, w7, w8, c0, c1, c2, c30, hdr, hms, Store.set_same, Nat.mul_one, Nat.zero_add, Int.toNat_natCast, gt_iff_lt]
    refine ⟨by omega, ?_⟩
    have hbx : List.take (n / 8) ((B.map Go.Eng.one).map AV.t) ++ [AV.t (TV.int IntKind.u8 ((mskb (B.getD (n / 8) default).v (n % 8)).toNat : Int))] ++ List.drop (n / 8 + 1) ((B.map Go.Eng.one).map AV.t) = ((clr B n).map Go.Eng.one).map AV.t := by
      rw [e, List.map_set, List.map_set, List.set_eq_take_append_cons_drop, if_pos (by rw [hBl]; omega), List.append_assoc]; rfl
    rw [hbx]
    exact bit_7 (C := clr B n) (by omega) (by rw [clr_len]; exact hB) hok (wk_to fewer_refl (by simp only [vP.down, vS.down, vE.down, Nat.reduceEqDiff, Nat.reduceAdd, Nat.reduceSub, Nat.reduceMul, Nat.reduceLeDiff, Nat.reduceLT, Int.reduceToNat, reduceIte, reduceCtorEq, Int.reduceEq, Int.reduceLT, Int.reduceLE, ↓avp_condG, ↓tf_arrow, ↓ft_arrow, wP.down]))
noncomputable def c_law9_MapBit : Con := fnScal A_law9_MapBit p_law9_MapBit r_law9_MapBit
theorem ok_law9_MapBit : COk Try.prog 7 c_law9_MapBit := fn_sok sys_law9_MapBit mixed Try.func7 (by kernel_rfl) geq_law9_MapBit Try.ntmps7 (by rw [Try.results7]) (fun x => by simp [rTrue, AV.scal]) fun x hx => ⟨Nat.le_of_ble_eq_true rfl, body_law9_MapBit x hx⟩
theorem says_law9_MapBit : SaysTrue Rows.mapBitSpec 2 := ⟨rfl, fun H ds h => by
  match ds, h with
  | [d0, d1], _ => exact ⟨rfl, rfl, rfl⟩⟩
set_option maxRecDepth 100000 in
theorem lifted_law9_MapBit (os : Os) (started : os.Started) (H : Type) (enc : TypeId × Value → H) :
    ReturnsInHanded {} Try.checked os 7 .any (Rows.mapBitSpec.pre6 enc Try.prog Try.f7 Rows.mapBitRow.domain false) (Rows.mapBitSpec.post enc Try.prog Try.f7 false true false false) := by
  refine returnsInHanded_of_change (C := Try.checked) own started (by kernel_rfl) Try.func7
    (ChangeSpec.witness6 (enc := enc) (C := Try.checked) false ⟨#[], #[.int .u8 0, .agg #[.int .u8 0, .int .u8 0, .int .u8 0, .int .u8 0, .int .u8 0, .int .u8 0, .int .u8 0, .int .u8 0, .int .u8 0, .int .u8 0, .int .u8 0, .int .u8 0, .int .u8 0, .int .u8 0, .int .u8 0, .int .u8 0, .int .u8 0, .int .u8 0, .int .u8 0, .int .u8 0, .int .u8 0, .int .u8 0, .int .u8 0, .int .u8 0, .int .u8 0, .int .u8 0, .int .u8 0, .int .u8 0, .int .u8 0, .int .u8 0]], []⟩ 8 (by kernel_rfl) (by kernel_rfl) (by kernel_rfl) (by kernel_rfl)) ?_
  intro W base args ds gs before hval hW _ _
  exact law_contract (ts := [5, 35]) (tb := 4) ok_law9_MapBit (by rw [Try.params7]) (by kernel_rfl) Try.underlying4 laid (by kernel_rfl) rd_law9_MapBit (fun _ h => h) says_law9_MapBit H enc W base args ds gs before hval hW
theorem over_law9_MapBit : Rows.mapBitRow.holds Try.pinned (OpenSpec.ofChange Rows.mapBitSpec) :=
  OpenClaim.holds_of_wide 7 Try.f7 rfl rfl rfl rfl rfl rfl rfl ⟨rfl, rfl, rfl, rfl, rfl⟩ rfl rfl rfl rfl rfl (by kernel_rfl) Try.func7 (by kernel_rfl)
    (of_decide_eq_true (by kernel_rfl)) (by unfold Func.isWrapper; first | (rw [if_pos (by decide +kernel)]; kernel_rfl) | (rw [if_neg (by decide +kernel)]; exact ⟨rfl, rfl⟩))
    (fun os started H enc _ => lifted_law9_MapBit os started H enc)
theorem mapBit_holds : Rows.MapBitSaid := over_law9_MapBit
end Go.Proofs.Ytlfncfaonnaneaa

