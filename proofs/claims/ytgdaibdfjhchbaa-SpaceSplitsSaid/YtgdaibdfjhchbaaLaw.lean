/-
  SpaceSplits.
-/
import Derived.Test.YtgdaibdfjhchbaaFnsE
set_option linter.unusedSimpArgs false
set_option linter.unusedVariables false
namespace Go.Proofs.Ytgdaibdfjhchbaa
open Go Go.Eng
set_option maxRecDepth 100000
def G_law10_SpaceSplits_7 : GCode := .seq (.seq .weak (.region [⟨(some 46), none, .move (.tmp 12)⟩, ⟨(some 47), none, .load 26 (.tmp 11)⟩, ⟨(some 48), none, .call ⟨.value (.func 19), #[.tmp 46, .tmp 47], #[3, 26]⟩⟩, ⟨(some 13), none, .assign (.tmp 48)⟩])) (.seq (.seq (.seq .weak (.region [⟨(some 14), none, .assign (.const (.int .i64 0))⟩])) (.block 0 (.loop (.seq .weak (.seq (.seq (.region [⟨(some 49), none, .move (.tmp 14)⟩, ⟨(some 50), none, .move (.tmp 12)⟩, ⟨(some 51), none, .binOp .lss 3 (.tmp 49) (.tmp 50) 3⟩]) (.cond (.tmp 51) (.skip) (.exit 0))) (.seq (.block 1 (.seq (.region [⟨(some 54), none, .move (.tmp 14)⟩, ⟨(some 55), none, .binOp .add 3 (.const (.int .i64 14)) (.tmp 54) 3⟩, ⟨(some 15), none, .assign (.tmp 55)⟩]) (.seq (.region [⟨(some 56), none, .fieldAddr 26 (.tmp 11) 0⟩, ⟨(some 57), none, .load 23 (.tmp 56)⟩, ⟨(some 58), none, .move (.tmp 15)⟩, ⟨(some 59), none, .call ⟨.value (.func 27), #[.tmp 57, .tmp 58], #[23, 3]⟩⟩, ⟨(some 60), none, .move (.tmp 59)⟩, ⟨(some 61), (some (60, false)), .fieldAddr 26 (.tmp 11) 1⟩, ⟨(some 62), (some (60, false)), .load 23 (.tmp 61)⟩, ⟨(some 63), (some (60, false)), .move (.tmp 15)⟩, ⟨(some 64), (some (60, false)), .call ⟨.value (.func 27), #[.tmp 62, .tmp 63], #[23, 3]⟩⟩, ⟨(some 65), none, .pick (.tmp 60) (.const (.bool true)) (.tmp 64)⟩, ⟨(some 66), none, .move (.tmp 65)⟩, ⟨(some 67), (some (66, false)), .fieldAddr 26 (.tmp 11) 2⟩, ⟨(some 68), (some (66, false)), .load 23 (.tmp 67)⟩, ⟨(some 69), (some (66, false)), .move (.tmp 15)⟩, ⟨(some 70), (some (66, false)), .call ⟨.value (.func 27), #[.tmp 68, .tmp 69], #[23, 3]⟩⟩, ⟨(some 71), none, .pick (.tmp 66) (.const (.bool true)) (.tmp 70)⟩, ⟨(some 72), none, .move (.tmp 71)⟩, ⟨(some 73), (some (72, false)), .fieldAddr 26 (.tmp 11) 3⟩, ⟨(some 74), (some (72, false)), .load 23 (.tmp 73)⟩, ⟨(some 75), (some (72, false)), .move (.tmp 15)⟩, ⟨(some 76), (some (72, false)), .call ⟨.value (.func 27), #[.tmp 74, .tmp 75], #[23, 3]⟩⟩, ⟨(some 77), none, .pick (.tmp 72) (.const (.bool true)) (.tmp 76)⟩, ⟨(some 16), none, .assign (.tmp 77)⟩]) (.seq (.seq .weak (.region [⟨(some 78), none, .move (.tmp 13)⟩, ⟨(some 79), none, .move (.tmp 15)⟩, ⟨(some 80), none, .call ⟨.value (.func 27), #[.tmp 78, .tmp 79], #[23, 3]⟩⟩, ⟨(some 81), none, .move (.tmp 16)⟩, ⟨(some 82), none, .binOp .eql 4 (.tmp 80) (.tmp 81) 4⟩])) (.cond (.tmp 82) (.seq (.region [⟨(some 10), none, .assign (.const (.bool false))⟩]) (.ret)) (.skip)))))) (.region [⟨(some 52), none, .move (.tmp 14)⟩, ⟨(some 53), none, .binOp .add 3 (.tmp 52) (.const (.int .i64 1)) 3⟩, ⟨(some 14), none, .assign (.tmp 53)⟩]))))))) (.seq (.seq .weak (.region [⟨(some 83), none, .move (.tmp 12)⟩, ⟨(some 84), none, .load 26 (.tmp 11)⟩, ⟨(some 85), none, .call ⟨.value (.func 16), #[.tmp 83, .tmp 84], #[3, 26]⟩⟩, ⟨(some 86), none, .move (.tmp 85)⟩, ⟨(some 87), (some (86, true)), .move (.tmp 13)⟩, ⟨(some 88), (some (86, true)), .call ⟨.value (.func 27), #[.tmp 87, .const (.int .i64 13)], #[23, 3]⟩⟩, ⟨(some 89), (some (86, true)), .unOp .not 4 (.tmp 88)⟩, ⟨(some 90), none, .pick (.tmp 86) (.tmp 89) (.const (.bool false))⟩, ⟨(some 91), none, .move (.tmp 90)⟩, ⟨(some 92), (some (91, true)), .move (.tmp 13)⟩, ⟨(some 93), (some (91, true)), .move (.tmp 12)⟩, ⟨(some 94), (some (91, true)), .binOp .add 3 (.const (.int .i64 14)) (.tmp 93) 3⟩, ⟨(some 95), (some (91, true)), .call ⟨.value (.func 27), #[.tmp 92, .tmp 94], #[23, 3]⟩⟩, ⟨(some 96), (some (91, true)), .unOp .not 4 (.tmp 95)⟩, ⟨(some 97), none, .pick (.tmp 91) (.tmp 96) (.const (.bool false))⟩, ⟨(some 10), none, .assign (.tmp 97)⟩])) (.ret)))
def G_law10_SpaceSplits : GCode := .seq (.region [⟨(some 10), none, .assign (.const (.bool false))⟩]) (.seq (.seq (.region [⟨(some 17), none, .call ⟨.value (.func 10), #[], #[]⟩⟩, ⟨(some 18), none, .unOp .not 4 (.tmp 17)⟩]) (.cond (.tmp 18) (.seq (.region [⟨(some 10), none, .assign (.const (.bool false))⟩]) (.ret)) (.skip))) (.seq (.seq (.region [⟨(some 19), none, .move (.tmp 0)⟩, ⟨(some 20), none, .call ⟨.builtin .len, #[.tmp 19], #[22]⟩⟩, ⟨(some 21), none, .binOp .gtr 3 (.tmp 20) (.const (.int .i64 20)) 3⟩, ⟨(some 22), none, .move (.tmp 21)⟩, ⟨(some 23), (some (22, false)), .move (.tmp 1)⟩, ⟨(some 24), (some (22, false)), .call ⟨.builtin .len, #[.tmp 23], #[22]⟩⟩, ⟨(some 25), (some (22, false)), .binOp .gtr 3 (.tmp 24) (.const (.int .i64 20)) 3⟩, ⟨(some 26), none, .pick (.tmp 22) (.const (.bool true)) (.tmp 25)⟩, ⟨(some 27), none, .move (.tmp 26)⟩, ⟨(some 28), (some (27, false)), .move (.tmp 2)⟩, ⟨(some 29), (some (27, false)), .call ⟨.builtin .len, #[.tmp 28], #[22]⟩⟩, ⟨(some 30), (some (27, false)), .binOp .gtr 3 (.tmp 29) (.const (.int .i64 20)) 3⟩, ⟨(some 31), none, .pick (.tmp 27) (.const (.bool true)) (.tmp 30)⟩, ⟨(some 32), none, .move (.tmp 31)⟩, ⟨(some 33), (some (32, false)), .move (.tmp 3)⟩, ⟨(some 34), (some (32, false)), .call ⟨.builtin .len, #[.tmp 33], #[22]⟩⟩, ⟨(some 35), (some (32, false)), .binOp .gtr 3 (.tmp 34) (.const (.int .i64 20)) 3⟩, ⟨(some 36), none, .pick (.tmp 32) (.const (.bool true)) (.tmp 35)⟩]) (.cond (.tmp 36) (.seq (.region [⟨(some 10), none, .assign (.const (.bool true))⟩]) (.ret)) (.skip))) (.seq (.seq .weak (.region [⟨(some 37), none, .move (.tmp 0)⟩, ⟨(some 38), none, .move (.tmp 1)⟩, ⟨(some 39), none, .move (.tmp 2)⟩, ⟨(some 40), none, .move (.tmp 3)⟩, ⟨(some 41), none, .call ⟨.value (.func 11), #[.tmp 37, .tmp 38, .tmp 39, .tmp 40], #[22, 22, 22, 22]⟩⟩, ⟨(some 11), none, .alloc 26⟩, ⟨none, none, .store 26 (.tmp 11) (.tmp 41)⟩])) (.seq (.seq .weak (.seq .weak (.region [⟨(some 42), none, .move (.tmp 4)⟩, ⟨(some 43), none, .binOp .rem 5 (.tmp 42) (.const (.int .u8 50)) 5⟩, ⟨(some 44), none, .convert 5 3 (.tmp 43)⟩, ⟨(some 45), none, .binOp .add 3 (.const (.int .i64 40)) (.tmp 44) 3⟩, ⟨(some 12), none, .assign (.tmp 45)⟩]))) (G_law10_SpaceSplits_7)))))
noncomputable def l_law10_SpaceSplits : List (Nat × Con) := [(10, c_law10_begun), (11, c_law10_made), (19, c_space_Free), (27, c_ref8_Has), (16, c_space_May)]
noncomputable abbrev K_law10_SpaceSplits : Ctx := ctx (cl l_law10_SpaceSplits)
theorem geq_law10_SpaceSplits : gof K_law10_SpaceSplits Try.f4 = some G_law10_SpaceSplits.strip := by kernel_rfl
theorem sys_law10_SpaceSplits : Go.Eng.Sys Try.prog K_law10_SpaceSplits := sys_of' ⟨ok_law10_begun, ok_law10_made, ok_space_Free, ok_ref8_Has, ok_space_May, trivial⟩
theorem hm_law10_SpaceSplits : ConMono K_law10_SpaceSplits := conMono_of sys_law10_SpaceSplits.con
noncomputable def k_law10_SpaceSplits_law10_begun := PLift.up (call_scal (C := K_law10_SpaceSplits) (f := 10) (A := A_law10_begun) (p := p_law10_begun) (r := r_law10_begun) rfl)
noncomputable def k_law10_SpaceSplits_law10_made := PLift.up (call_gen (C := K_law10_SpaceSplits) (f := 11) (modes := m_law10_made) (F := F_law10_made) rfl)
noncomputable def k_law10_SpaceSplits_space_Free := PLift.up (call_fn (C := K_law10_SpaceSplits) (f := 19) (A := A_space_Free) (p := p_space_Free) (r := r_space_Free) rfl)
noncomputable def k_law10_SpaceSplits_ref8_Has := PLift.up (call_scal (C := K_law10_SpaceSplits) (f := 27) (A := A_ref8_Has) (p := p_ref8_Has) (r := r_ref8_Has) rfl)
noncomputable def k_law10_SpaceSplits_space_May := PLift.up (call_scal (C := K_law10_SpaceSplits) (f := 16) (A := A_space_May) (p := p_space_May) (r := r_space_May) rfl)
set_option maxHeartbeats 4000000 in
theorem splits_7 {n : Nat} {s : TSpace} (hn : 40 ≤ n ∧ n ≤ 240) (hS : Sp s) (hl : lenS s) {σ : St} (hσ : Wk σ (mkS [(11, .imm (spC s)), (12, .t (.int .i64 (n : Nat)))] .empty)) :
    avp K_law10_SpaceSplits G_law10_SpaceSplits_7 (Ret K_law10_SpaceSplits [.tmp 10] fun v _ => v = .t (.bool true)) σ := by
  unfold G_law10_SpaceSplits_7
  simp only [avp_seq]
  refine ⟨_, hσ, ?_⟩
  have hd : dataOk (n : Int) = true := dataOk_iff.2 (by omega)
  have hok := hS.ok hd
  simp only [vP.down, vS.down, vE.down, Nat.reduceEqDiff, Nat.reduceAdd, Nat.reduceSub, Nat.reduceMul, Nat.reduceLeDiff, Nat.reduceLT, Int.reduceToNat, reduceIte, reduceCtorEq, Int.reduceEq, Int.reduceLT, Int.reduceLE, ↓avp_condG, ↓tf_arrow, ↓ft_arrow, spC, hl, k_law10_SpaceSplits_space_Free.down, A_space_Free, p_space_Free, r_space_Free]
  have hf := fun i => hS.free hd i
  have hfl : (freeM n s).length ≤ 1000000 := free_len hl
  obtain ⟨f, hfe⟩ : ∃ f, f = freeM n s := ⟨_, rfl⟩
  rw [← hfe] at hf hfl ⊢
  refine weak_at [(11, .imm (spC s)), (12, .t (.int .i64 (n : Nat))), (13, .t (sl f))] .empty fewer_refl (by simp only [vP.down, vS.down, vE.down, Nat.reduceEqDiff, Nat.reduceAdd, Nat.reduceSub, Nat.reduceMul, Nat.reduceLeDiff, Nat.reduceLT, Int.reduceToNat, reduceIte, reduceCtorEq, Int.reduceEq, Int.reduceLT, Int.reduceLE, ↓avp_condG, ↓tf_arrow, ↓ft_arrow, wP.down, spC]) ?_
  obtain ⟨l1, l2, l3, l4⟩ := hl
  have q1 : s.Held.length < 4611686018427387904 := by omega
  have q2 : s.One.length < 4611686018427387904 := by omega
  have q3 : s.Two.length < 4611686018427387904 := by omega
  have q4 : s.Kept.length < 4611686018427387904 := by omega
  have q5 : f.length < 4611686018427387904 := by omega
  simp only [vP.down, vS.down, vE.down, Nat.reduceEqDiff, Nat.reduceAdd, Nat.reduceSub, Nat.reduceMul, Nat.reduceLeDiff, Nat.reduceLT, Int.reduceToNat, reduceIte, reduceCtorEq, Int.reduceEq, Int.reduceLT, Int.reduceLE, ↓avp_condG, ↓tf_arrow, ↓ft_arrow]
  refine loop_weak hm_law10_SpaceSplits (fun m σ => ∃ i : Nat, m = n - i ∧ i ≤ n ∧ σ = mkS [(11, .imm (spC s)), (12, .t (.int .i64 (n : Nat))), (13, .t (sl f)), (14, .t (.int .i64 (i : Nat)))] .empty) ⟨0, rfl, by omega, rfl⟩ (wk_to fewer_refl (by simp only [vP.down, vS.down, vE.down, Nat.reduceEqDiff, Nat.reduceAdd, Nat.reduceSub, Nat.reduceMul, Nat.reduceLeDiff, Nat.reduceLT, Int.reduceToNat, reduceIte, reduceCtorEq, Int.reduceEq, Int.reduceLT, Int.reduceLE, ↓avp_condG, ↓tf_arrow, ↓ft_arrow, wP.down, Int.natCast_zero])) ?_
  rintro m _ ⟨i, rfl, hi, rfl⟩
  have hi1 : IntKind.i64.wrap ((i : Int) + 1) = ((i + 1 : Nat) : Int) := by rw [IntWalk.i64_in _ (by omega)]; rfl
  have w5 : IntKind.i64.wrap (14 + (i : Int)) = 14 + (i : Int) := IntWalk.i64_in _ (by omega)
  by_cases hlt : i < n
  case neg =>
    obtain rfl : i = n := by omega
    have hge : ¬ (((i : Nat) : Int) < ((i : Nat) : Int)) := by omega
    have h13 : hasR f 13 = false := by rw [hf, decide_eq_false (by omega), Bool.false_and, Bool.false_and]
    have h14 : hasR f (14 + (i : Int)) = false := by rw [hf, decide_eq_false (by omega : ¬ 14 + (i : Int) < 14 + (i : Int)), Bool.and_false, Bool.false_and]
    simp only [vP.down, vS.down, vE.down, Nat.reduceEqDiff, Nat.reduceAdd, Nat.reduceSub, Nat.reduceMul, Nat.reduceLeDiff, Nat.reduceLT, Int.reduceToNat, reduceIte, reduceCtorEq, Int.reduceEq, Int.reduceLT, Int.reduceLE, ↓avp_condG, ↓tf_arrow, ↓ft_arrow, hge]
    refine weak_at [(11, .imm (spC s)), (12, .t (.int .i64 (i : Nat))), (13, .t (sl f))] .empty fewer_refl (by simp only [vP.down, vS.down, vE.down, Nat.reduceEqDiff, Nat.reduceAdd, Nat.reduceSub, Nat.reduceMul, Nat.reduceLeDiff, Nat.reduceLT, Int.reduceToNat, reduceIte, reduceCtorEq, Int.reduceEq, Int.reduceLT, Int.reduceLE, ↓avp_condG, ↓tf_arrow, ↓ft_arrow, wP.down]) ?_
    have hl : lenS s := ⟨l1, l2, l3, l4⟩
    simp only [vP.down, vS.down, vE.down, Nat.reduceEqDiff, Nat.reduceAdd, Nat.reduceSub, Nat.reduceMul, Nat.reduceLeDiff, Nat.reduceLT, Int.reduceToNat, reduceIte, reduceCtorEq, Int.reduceEq, Int.reduceLT, Int.reduceLE, ↓avp_condG, ↓tf_arrow, ↓ft_arrow, spC, hl, hok, w5, q5, h13, h14, pick_of, pick_ot, k_law10_SpaceSplits_space_May.down, A_space_May, p_space_May, r_space_May, k_law10_SpaceSplits_ref8_Has.down, A_ref8_Has, p_ref8_Has, r_ref8_Has]
    simp only [vP.down, vS.down, vE.down, Nat.reduceEqDiff, Nat.reduceAdd, Nat.reduceSub, Nat.reduceMul, Nat.reduceLeDiff, Nat.reduceLT, Int.reduceToNat, reduceIte, reduceCtorEq, Int.reduceEq, Int.reduceLT, Int.reduceLE, ↓avp_condG, ↓tf_arrow, ↓ft_arrow, vT.down]
  have hlt' : (i : Int) < (n : Int) := by omega
  have hfi := hf (14 + (i : Int))
  rw [decide_eq_true (by omega : (14 : Int) ≤ 14 + (i : Int)), decide_eq_true (by omega : 14 + (i : Int) < 14 + (n : Int)), Bool.true_and, Bool.true_and, inS] at hfi
  simp only [vP.down, vS.down, vE.down, Nat.reduceEqDiff, Nat.reduceAdd, Nat.reduceSub, Nat.reduceMul, Nat.reduceLeDiff, Nat.reduceLT, Int.reduceToNat, reduceIte, reduceCtorEq, Int.reduceEq, Int.reduceLT, Int.reduceLE, ↓avp_condG, ↓tf_arrow, ↓ft_arrow, spC, hlt', w5, q1, q2, q3, q4, pick_of, pick_ot, k_law10_SpaceSplits_ref8_Has.down, A_ref8_Has, p_ref8_Has, r_ref8_Has]
  obtain ⟨T, hT⟩ : ∃ T, T = (((hasR s.Held (14 + (i : Int)) || hasR s.One (14 + (i : Int))) || hasR s.Two (14 + (i : Int))) || hasR s.Kept (14 + (i : Int))) := ⟨_, rfl⟩
  have hfT : hasR f (14 + (i : Int)) = !T := by rw [hfi, hT, Bool.or_assoc, Bool.or_assoc]
  refine weak_at [(11, .imm (spC s)), (12, .t (.int .i64 (n : Nat))), (13, .t (sl f)), (14, .t (.int .i64 (i : Nat))), (15, .t (.int .i64 (14 + (i : Int)))), (16, .t (.bool T))] .empty fewer_refl (by simp only [vP.down, vS.down, vE.down, Nat.reduceEqDiff, Nat.reduceAdd, Nat.reduceSub, Nat.reduceMul, Nat.reduceLeDiff, Nat.reduceLT, Int.reduceToNat, reduceIte, reduceCtorEq, Int.reduceEq, Int.reduceLT, Int.reduceLE, ↓avp_condG, ↓tf_arrow, ↓ft_arrow, wP.down, spC, hT]) ?_
  cases T with
  | false =>
    simp only [vP.down, vS.down, vE.down, Nat.reduceEqDiff, Nat.reduceAdd, Nat.reduceSub, Nat.reduceMul, Nat.reduceLeDiff, Nat.reduceLT, Int.reduceToNat, reduceIte, reduceCtorEq, Int.reduceEq, Int.reduceLT, Int.reduceLE, ↓avp_condG, ↓tf_arrow, ↓ft_arrow, hfT, q5, Bool.not_false, k_law10_SpaceSplits_ref8_Has.down, A_ref8_Has, p_ref8_Has, r_ref8_Has]
    exact round_to (n - (i + 1)) [(11, .imm (spC s)), (12, .t (.int .i64 (n : Nat))), (13, .t (sl f)), (14, .t (.int .i64 (i + 1 : Nat)))] .empty (by omega) fewer_refl (by simp only [vP.down, vS.down, vE.down, Nat.reduceEqDiff, Nat.reduceAdd, Nat.reduceSub, Nat.reduceMul, Nat.reduceLeDiff, Nat.reduceLT, Int.reduceToNat, reduceIte, reduceCtorEq, Int.reduceEq, Int.reduceLT, Int.reduceLE, ↓avp_condG, ↓tf_arrow, ↓ft_arrow, wP.down, hi1, spC]) ⟨i + 1, rfl, by omega, rfl⟩
  | true =>
    simp only [vP.down, vS.down, vE.down, Nat.reduceEqDiff, Nat.reduceAdd, Nat.reduceSub, Nat.reduceMul, Nat.reduceLeDiff, Nat.reduceLT, Int.reduceToNat, reduceIte, reduceCtorEq, Int.reduceEq, Int.reduceLT, Int.reduceLE, ↓avp_condG, ↓tf_arrow, ↓ft_arrow, hfT, q5, Bool.not_true, k_law10_SpaceSplits_ref8_Has.down, A_ref8_Has, p_ref8_Has, r_ref8_Has]
    exact round_to (n - (i + 1)) [(11, .imm (spC s)), (12, .t (.int .i64 (n : Nat))), (13, .t (sl f)), (14, .t (.int .i64 (i + 1 : Nat)))] .empty (by omega) fewer_refl (by simp only [vP.down, vS.down, vE.down, Nat.reduceEqDiff, Nat.reduceAdd, Nat.reduceSub, Nat.reduceMul, Nat.reduceLeDiff, Nat.reduceLT, Int.reduceToNat, reduceIte, reduceCtorEq, Int.reduceEq, Int.reduceLT, Int.reduceLE, ↓avp_condG, ↓tf_arrow, ↓ft_arrow, wP.down, hi1, spC]) ⟨i + 1, rfl, by omega, rfl⟩
noncomputable def A_law10_SpaceSplits : Arms ((List Byt) × (List Byt) × (List Byt) × (List Byt) × Byt × Unit) := Arms.cons (argT (List Byt)) (Arms.cons (argT (List Byt)) (Arms.cons (argT (List Byt)) (Arms.cons (argT (List Byt)) (Arms.cons (argT Byt) (Arms.nil)))))
def p_law10_SpaceSplits (x : (List Byt) × (List Byt) × (List Byt) × (List Byt) × Byt × Unit) : Prop := (goodList (fun x : Byt => goodAny x) x.1) ∧ (goodList (fun x : Byt => goodAny x) x.2.1) ∧ (goodList (fun x : Byt => goodAny x) x.2.2.1) ∧ (goodList (fun x : Byt => goodAny x) x.2.2.2.1) ∧ (goodAny x.2.2.2.2.1) ∧ goodAny (x.2.2.2.2.2)
abbrev r_law10_SpaceSplits (x : (List Byt) × (List Byt) × (List Byt) × (List Byt) × Byt × Unit) : AV := rTrue x
theorem rd_law10_SpaceSplits : ReadsA Try.prog [22, 22, 22, 22, 5] A_law10_SpaceSplits p_law10_SpaceSplits := (readsA_T (reads_list Try.underlying22 (reads_u8 Try.underlying5) (by kernel_rfl) (by decide)) (by kernel_rfl) (readsA_T (reads_list Try.underlying22 (reads_u8 Try.underlying5) (by kernel_rfl) (by decide)) (by kernel_rfl) (readsA_T (reads_list Try.underlying22 (reads_u8 Try.underlying5) (by kernel_rfl) (by decide)) (by kernel_rfl) (readsA_T (reads_list Try.underlying22 (reads_u8 Try.underlying5) (by kernel_rfl) (by decide)) (by kernel_rfl) (readsA_T (reads_u8 Try.underlying5) (by kernel_rfl) readsA_nil)))))
set_option maxHeartbeats 4000000 in
theorem body_law10_SpaceSplits (x) (hx : p_law10_SpaceSplits x) : avp K_law10_SpaceSplits G_law10_SpaceSplits (Ret K_law10_SpaceSplits [.tmp 10] fun v _ => v = r_law10_SpaceSplits x) (entry (A_law10_SpaceSplits.enc x) .empty) := by
  obtain ⟨a, b, c, d, ⟨k⟩, ⟨⟩⟩ := x
  change avp _ _ (Ret _ _ fun v _ => v = .t (.bool true)) (entry [.t (sl a), .t (sl b), .t (sl c), .t (sl d), .t (.int .u8 (k.toNat : Int))] .empty)
  unfold G_law10_SpaceSplits
  by_cases c1 : (20 : Int) < (a.length : Int)
  · simp only [vP.down, vS.down, vE.down, Nat.reduceEqDiff, Nat.reduceAdd, Nat.reduceSub, Nat.reduceMul, Nat.reduceLeDiff, Nat.reduceLT, Int.reduceToNat, reduceIte, reduceCtorEq, Int.reduceEq, Int.reduceLT, Int.reduceLE, ↓avp_condG, ↓tf_arrow, ↓ft_arrow, k_law10_SpaceSplits_law10_begun.down, A_law10_begun, p_law10_begun, r_law10_begun, c1, gt_iff_lt, pick_of, pick_ot]
    simp only [vP.down, vS.down, vE.down, Nat.reduceEqDiff, Nat.reduceAdd, Nat.reduceSub, Nat.reduceMul, Nat.reduceLeDiff, Nat.reduceLT, Int.reduceToNat, reduceIte, reduceCtorEq, Int.reduceEq, Int.reduceLT, Int.reduceLE, ↓avp_condG, ↓tf_arrow, ↓ft_arrow, vT.down]
  by_cases c2 : (20 : Int) < (b.length : Int)
  · simp only [vP.down, vS.down, vE.down, Nat.reduceEqDiff, Nat.reduceAdd, Nat.reduceSub, Nat.reduceMul, Nat.reduceLeDiff, Nat.reduceLT, Int.reduceToNat, reduceIte, reduceCtorEq, Int.reduceEq, Int.reduceLT, Int.reduceLE, ↓avp_condG, ↓tf_arrow, ↓ft_arrow, k_law10_SpaceSplits_law10_begun.down, A_law10_begun, p_law10_begun, r_law10_begun, c1, c2, gt_iff_lt, pick_of, pick_ot]
    simp only [vP.down, vS.down, vE.down, Nat.reduceEqDiff, Nat.reduceAdd, Nat.reduceSub, Nat.reduceMul, Nat.reduceLeDiff, Nat.reduceLT, Int.reduceToNat, reduceIte, reduceCtorEq, Int.reduceEq, Int.reduceLT, Int.reduceLE, ↓avp_condG, ↓tf_arrow, ↓ft_arrow, vT.down]
  by_cases c3 : (20 : Int) < (c.length : Int)
  · simp only [vP.down, vS.down, vE.down, Nat.reduceEqDiff, Nat.reduceAdd, Nat.reduceSub, Nat.reduceMul, Nat.reduceLeDiff, Nat.reduceLT, Int.reduceToNat, reduceIte, reduceCtorEq, Int.reduceEq, Int.reduceLT, Int.reduceLE, ↓avp_condG, ↓tf_arrow, ↓ft_arrow, k_law10_SpaceSplits_law10_begun.down, A_law10_begun, p_law10_begun, r_law10_begun, c1, c2, c3, gt_iff_lt, pick_of, pick_ot]
    simp only [vP.down, vS.down, vE.down, Nat.reduceEqDiff, Nat.reduceAdd, Nat.reduceSub, Nat.reduceMul, Nat.reduceLeDiff, Nat.reduceLT, Int.reduceToNat, reduceIte, reduceCtorEq, Int.reduceEq, Int.reduceLT, Int.reduceLE, ↓avp_condG, ↓tf_arrow, ↓ft_arrow, vT.down]
  by_cases c4 : (20 : Int) < (d.length : Int)
  · simp only [vP.down, vS.down, vE.down, Nat.reduceEqDiff, Nat.reduceAdd, Nat.reduceSub, Nat.reduceMul, Nat.reduceLeDiff, Nat.reduceLT, Int.reduceToNat, reduceIte, reduceCtorEq, Int.reduceEq, Int.reduceLT, Int.reduceLE, ↓avp_condG, ↓tf_arrow, ↓ft_arrow, k_law10_SpaceSplits_law10_begun.down, A_law10_begun, p_law10_begun, r_law10_begun, c1, c2, c3, c4, gt_iff_lt, pick_of, pick_ot]
    simp only [vP.down, vS.down, vE.down, Nat.reduceEqDiff, Nat.reduceAdd, Nat.reduceSub, Nat.reduceMul, Nat.reduceLeDiff, Nat.reduceLT, Int.reduceToNat, reduceIte, reduceCtorEq, Int.reduceEq, Int.reduceLT, Int.reduceLE, ↓avp_condG, ↓tf_arrow, ↓ft_arrow, vT.down]
  simp only [vP.down, vS.down, vE.down, Nat.reduceEqDiff, Nat.reduceAdd, Nat.reduceSub, Nat.reduceMul, Nat.reduceLeDiff, Nat.reduceLT, Int.reduceToNat, reduceIte, reduceCtorEq, Int.reduceEq, Int.reduceLT, Int.reduceLE, ↓avp_condG, ↓tf_arrow, ↓ft_arrow, k_law10_SpaceSplits_law10_begun.down, A_law10_begun, p_law10_begun, r_law10_begun, c1, c2, c3, c4, gt_iff_lt, pick_of, pick_ot]
  refine weak_at [(0, .t (sl a)), (1, .t (sl b)), (2, .t (sl c)), (3, .t (sl d)), (4, .t (.int .u8 (k.toNat : Int)))] .empty fewer_refl (by simp only [vP.down, vS.down, vE.down, Nat.reduceEqDiff, Nat.reduceAdd, Nat.reduceSub, Nat.reduceMul, Nat.reduceLeDiff, Nat.reduceLT, Int.reduceToNat, reduceIte, reduceCtorEq, Int.reduceEq, Int.reduceLT, Int.reduceLE, ↓avp_condG, ↓tf_arrow, ↓ft_arrow, wP.down]) ?_
  simp only [vP.down, vS.down, vE.down, Nat.reduceEqDiff, Nat.reduceAdd, Nat.reduceSub, Nat.reduceMul, Nat.reduceLeDiff, Nat.reduceLT, Int.reduceToNat, reduceIte, reduceCtorEq, Int.reduceEq, Int.reduceLT, Int.reduceLE, ↓avp_condG, ↓tf_arrow, ↓ft_arrow, k_law10_SpaceSplits_law10_made.down, m_law10_made]
  refine ⟨a, b, c, d, rfl, ⟨by omega, by omega, by omega, by omega⟩, fun v S X Y Z W hv hX hY hZ hW => ?_⟩
  simp only [vP.down, vS.down, vE.down, Nat.reduceEqDiff, Nat.reduceAdd, Nat.reduceSub, Nat.reduceMul, Nat.reduceLeDiff, Nat.reduceLT, Int.reduceToNat, reduceIte, reduceCtorEq, Int.reduceEq, Int.reduceLT, Int.reduceLE, ↓avp_condG, ↓tf_arrow, ↓ft_arrow, hv.cells, hv.one]
  intro g hg
  refine weak_at [(4, .t (.int .u8 (k.toNat : Int))), (11, .ptr g 0)] (Store.empty.set g (some (.box [.t (sl X), .t (sl (whereL .less Y X)), .t (sl (whereL .less (whereL .less Z X) (whereL .less Y X))), .t (sl W)] false))) (sp_freeze (Store.set_same _ _ _) (hv.fresh hg)) (by simp only [vP.down, vS.down, vE.down, Nat.reduceEqDiff, Nat.reduceAdd, Nat.reduceSub, Nat.reduceMul, Nat.reduceLeDiff, Nat.reduceLT, Int.reduceToNat, reduceIte, reduceCtorEq, Int.reduceEq, Int.reduceLT, Int.reduceLE, ↓avp_condG, ↓tf_arrow, ↓ft_arrow, wP.down]) ?_
  simp only [vP.down, vS.down, vE.down, Nat.reduceEqDiff, Nat.reduceAdd, Nat.reduceSub, Nat.reduceMul, Nat.reduceLeDiff, Nat.reduceLT, Int.reduceToNat, reduceIte, reduceCtorEq, Int.reduceEq, Int.reduceLT, Int.reduceLE, ↓avp_condG, ↓tf_arrow, ↓ft_arrow]
  refine weak_at [(4, .t (.int .u8 (k.toNat : Int))), (11, .imm (spC (madeM X Y Z W)))] .empty fewer_empty (by
    simp only [vP.down, vS.down, vE.down, Nat.reduceEqDiff, Nat.reduceAdd, Nat.reduceSub, Nat.reduceMul, Nat.reduceLeDiff, Nat.reduceLT, Int.reduceToNat, reduceIte, reduceCtorEq, Int.reduceEq, Int.reduceLT, Int.reduceLE, ↓avp_condG, ↓tf_arrow, ↓ft_arrow, wP.down]
    exact w2_imm (l := spC (madeM X Y Z W)) (ro := false) (Store.set_same _ _ _) rfl) ?_
  clear hv hg
  have hS := made_sp hX hY hZ hW
  have hl := made_len hX hY hZ hW
  obtain ⟨s, hs⟩ : ∃ s, s = madeM X Y Z W := ⟨_, rfl⟩
  rw [← hs] at hS hl ⊢
  have k8 := k.toNat_lt
  have w2 : (k.toNat : Int).tmod 50 = ((k.toNat % 50 : Nat) : Int) := by
    rw [Int.tmod_eq_emod_of_nonneg (by omega)]; exact (Int.natCast_emod k.toNat 50).symm
  have w3 : IntKind.u8.wrap ((k.toNat % 50 : Nat) : Int) = ((k.toNat % 50 : Nat) : Int) := IntWalk.u8_in _ (by omega)
  have w3' : IntKind.i64.wrap ((k.toNat % 50 : Nat) : Int) = ((k.toNat % 50 : Nat) : Int) := IntWalk.i64_in _ (by omega)
  obtain ⟨n, hn⟩ : ∃ n, n = 40 + k.toNat % 50 := ⟨_, rfl⟩
  have w4 : IntKind.i64.wrap (40 + ((k.toNat % 50 : Nat) : Int)) = (n : Int) := by rw [IntWalk.i64_in _ (by omega)]; omega
  simp only [vP.down, vS.down, vE.down, Nat.reduceEqDiff, Nat.reduceAdd, Nat.reduceSub, Nat.reduceMul, Nat.reduceLeDiff, Nat.reduceLT, Int.reduceToNat, reduceIte, reduceCtorEq, Int.reduceEq, Int.reduceLT, Int.reduceLE, ↓avp_condG, ↓tf_arrow, ↓ft_arrow, w2, w3, w3', w4]
  exact splits_7 (n := n) (by omega) hS hl (wk_to fewer_refl (by simp only [vP.down, vS.down, vE.down, Nat.reduceEqDiff, Nat.reduceAdd, Nat.reduceSub, Nat.reduceMul, Nat.reduceLeDiff, Nat.reduceLT, Int.reduceToNat, reduceIte, reduceCtorEq, Int.reduceEq, Int.reduceLT, Int.reduceLE, ↓avp_condG, ↓tf_arrow, ↓ft_arrow, wP.down]))
noncomputable def c_law10_SpaceSplits : Con := fnScal A_law10_SpaceSplits p_law10_SpaceSplits r_law10_SpaceSplits
theorem ok_law10_SpaceSplits : COk Try.prog 4 c_law10_SpaceSplits := fn_sok sys_law10_SpaceSplits mixed Try.func4 (by kernel_rfl) geq_law10_SpaceSplits Try.ntmps4 (by rw [Try.results4]) (fun x => by simp [rTrue, AV.scal]) fun x hx => ⟨Nat.le_of_ble_eq_true rfl, body_law10_SpaceSplits x hx⟩
theorem says_law10_SpaceSplits : SaysTrue Rows.spaceSplitsSpec 5 := ⟨rfl, fun H ds h => by
  match ds, h with
  | [d0, d1, d2, d3, d4], _ => exact ⟨rfl, rfl, rfl⟩⟩
set_option maxRecDepth 100000 in
theorem lifted_law10_SpaceSplits (os : Os) (started : os.Started) (H : Type) (enc : TypeId × Value → H) :
    ReturnsInHanded {} Try.checked os 4 .any (Rows.spaceSplitsSpec.pre6 enc Try.prog Try.f4 Rows.spaceSplitsRow.domain false) (Rows.spaceSplitsSpec.post enc Try.prog Try.f4 false true false false) := by
  refine returnsInHanded_of_change (C := Try.checked) own started (by kernel_rfl) Try.func4
    (ChangeSpec.witness6 (enc := enc) (C := Try.checked) false ⟨#[], #[.slice none 0 0, .slice none 0 0, .slice none 0 0, .slice none 0 0, .int .u8 0], []⟩ 8 (by kernel_rfl) (by kernel_rfl) (by kernel_rfl) (by kernel_rfl)) ?_
  intro W base args ds gs before hval hW _ _
  exact law_contract (ts := [22, 22, 22, 22, 5]) (tb := 4) ok_law10_SpaceSplits (by rw [Try.params4]) (by kernel_rfl) Try.underlying4 laid (by kernel_rfl) rd_law10_SpaceSplits (fun _ h => h) says_law10_SpaceSplits H enc W base args ds gs before hval hW
theorem over_law10_SpaceSplits : Rows.spaceSplitsRow.holds Try.pinned (OpenSpec.ofChange Rows.spaceSplitsSpec) :=
  OpenClaim.holds_of_wide 4 Try.f4 rfl rfl rfl rfl rfl rfl rfl ⟨rfl, rfl, rfl, rfl, rfl⟩ rfl rfl rfl rfl rfl (by kernel_rfl) Try.func4 (by kernel_rfl)
    (of_decide_eq_true (by kernel_rfl)) (by unfold Func.isWrapper; first | (rw [if_pos (by decide +kernel)]; kernel_rfl) | (rw [if_neg (by decide +kernel)]; exact ⟨rfl, rfl⟩))
    (fun os started H enc _ => lifted_law10_SpaceSplits os started H enc)
theorem spaceSplits_holds : Rows.SpaceSplitsSaid := over_law10_SpaceSplits
end Go.Proofs.Ytgdaibdfjhchbaa

