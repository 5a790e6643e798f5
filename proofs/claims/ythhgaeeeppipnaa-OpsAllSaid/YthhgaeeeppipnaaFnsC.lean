/-
  SameInts.
-/
import Derived.Test.YthhgaeeeppipnaaFnsB
set_option linter.unusedSimpArgs false
set_option linter.unusedVariables false
namespace Go.Proofs.Ythhgaeeeppipnaa
open Go Go.Eng
def G_ref1_SameInts : GCode := .seq (.region [⟨(some 4), none, .assign (.const (.bool false))⟩]) (.seq (.seq (.region [⟨(some 6), none, .move (.tmp 0)⟩, ⟨(some 7), none, .call ⟨.builtin .len, #[.tmp 6], #[22]⟩⟩, ⟨(some 8), none, .move (.tmp 1)⟩, ⟨(some 9), none, .call ⟨.builtin .len, #[.tmp 8], #[22]⟩⟩, ⟨(some 10), none, .binOp .neq 3 (.tmp 7) (.tmp 9) 3⟩]) (.cond (.tmp 10) (.seq (.region [⟨(some 4), none, .assign (.const (.bool false))⟩]) (.ret)) (.skip))) (.seq (.seq (.region [⟨(some 5), none, .assign (.const (.int .i64 0))⟩]) (.block 0 (.loop (.seq .weak (.seq (.seq (.region [⟨(some 11), none, .move (.tmp 5)⟩, ⟨(some 12), none, .move (.tmp 0)⟩, ⟨(some 13), none, .call ⟨.builtin .len, #[.tmp 12], #[22]⟩⟩, ⟨(some 14), none, .binOp .lss 3 (.tmp 11) (.tmp 13) 3⟩]) (.cond (.tmp 14) (.skip) (.exit 0))) (.seq (.block 1 (.seq (.region [⟨(some 17), none, .move (.tmp 0)⟩, ⟨(some 18), none, .move (.tmp 5)⟩, ⟨(some 19), none, .indexAddr 22 (.tmp 17) (.tmp 18)⟩, ⟨(some 20), none, .load 3 (.tmp 19)⟩, ⟨(some 21), none, .move (.tmp 1)⟩, ⟨(some 22), none, .move (.tmp 5)⟩, ⟨(some 23), none, .indexAddr 22 (.tmp 21) (.tmp 22)⟩, ⟨(some 24), none, .load 3 (.tmp 23)⟩, ⟨(some 25), none, .binOp .neq 3 (.tmp 20) (.tmp 24) 3⟩]) (.cond (.tmp 25) (.seq (.region [⟨(some 4), none, .assign (.const (.bool false))⟩]) (.ret)) (.skip)))) (.region [⟨(some 15), none, .move (.tmp 5)⟩, ⟨(some 16), none, .binOp .add 3 (.tmp 15) (.const (.int .i64 1)) 3⟩, ⟨(some 5), none, .assign (.tmp 16)⟩]))))))) (.seq (.region [⟨(some 4), none, .assign (.const (.bool true))⟩]) (.ret))))
noncomputable def l_ref1_SameInts : List (Nat × Con) := []
noncomputable abbrev K_ref1_SameInts : Ctx := ctx (cl l_ref1_SameInts)
theorem geq_ref1_SameInts : gof K_ref1_SameInts Try.f26 = some G_ref1_SameInts.strip := by kernel_rfl
theorem sys_ref1_SameInts : Go.Eng.Sys Try.prog K_ref1_SameInts := sys_of' (l := []) trivial
theorem hm_ref1_SameInts : ConMono K_ref1_SameInts := conMono_of sys_ref1_SameInts.con
def A_ref1_SameInts := Arms.cons (argT (List Int)) (Arms.cons (argT (List Int)) Arms.nil)
def p_ref1_SameInts (x : List Int × List Int × Unit) : Prop := x.1.length < 4611686018427387904
def r_ref1_SameInts (x : List Int × List Int × Unit) : AV := .t (.bool (decide (x.1 = x.2.1)))

theorem take_next {α : Type} {l r : List α} {d : α} {i : Nat} (hi : i < l.length) (hr : i < r.length) (h : l.take i = r.take i) (he : l.getD i d = r.getD i d) : l.take (i + 1) = r.take (i + 1) := by
  simp [List.getD_eq_getElem?_getD, hi, hr] at he
  rw [List.take_add_one, List.take_add_one, h]
  simp [hi, hr, he]

theorem body_ref1_SameInts (x : List Int × List Int × Unit) (hp : p_ref1_SameInts x) : avp K_ref1_SameInts G_ref1_SameInts (Ret K_ref1_SameInts [.tmp 4] fun v _ => v = r_ref1_SameInts x) (entry (A_ref1_SameInts.enc x) .empty) := by
  obtain ⟨l, r, ⟨⟩⟩ := x
  change l.length < 4611686018427387904 at hp
  change avp _ _ (Ret _ _ fun v _ => v = .t (.bool (decide (l = r)))) (entry [.t (sl l), .t (sl r)] .empty)
  unfold G_ref1_SameInts
  simp only [vP.down, vS.down, vE.down, Nat.reduceEqDiff, Nat.reduceAdd, Nat.reduceSub, Nat.reduceMul, Nat.reduceLeDiff, Nat.reduceLT, Int.reduceToNat, reduceIte, reduceCtorEq, Int.reduceEq, Int.reduceLT, Int.reduceLE, ↓avp_condG, ↓tf_arrow, ↓ft_arrow]
  refine ⟨fun h => ?_, fun h => ?_⟩
  · simp only [vP.down, vS.down, vE.down, Nat.reduceEqDiff, Nat.reduceAdd, Nat.reduceSub, Nat.reduceMul, Nat.reduceLeDiff, Nat.reduceLT, Int.reduceToNat, reduceIte, reduceCtorEq, Int.reduceEq, Int.reduceLT, Int.reduceLE, ↓avp_condG, ↓tf_arrow, ↓ft_arrow, vT.down]
    have : l ≠ r := fun e => by subst e; simp at h
    simp [this]
  · have hlr : l.length = r.length := by omega
    refine loop_weak hm_ref1_SameInts (fun k σ => ∃ i : Nat, k = l.length - i ∧ i ≤ l.length ∧ l.take i = r.take i ∧ σ = mkS [(0, .t (sl l)), (1, .t (sl r)), (5, .t (.int .i64 (i : Nat)))] .empty) ⟨0, rfl, by omega, rfl, rfl⟩ (wk_to fewer_refl (by simp only [vP.down, vS.down, vE.down, Nat.reduceEqDiff, Nat.reduceAdd, Nat.reduceSub, Nat.reduceMul, Nat.reduceLeDiff, Nat.reduceLT, Int.reduceToNat, reduceIte, reduceCtorEq, Int.reduceEq, Int.reduceLT, Int.reduceLE, ↓avp_condG, ↓tf_arrow, ↓ft_arrow, wP.down, Int.natCast_zero])) ?_
    rintro k _ ⟨i, rfl, hi, ht, rfl⟩
    have hi1 : IntKind.i64.wrap ((i : Int) + 1) = ((i + 1 : Nat) : Int) := by rw [IntWalk.i64_in _ (by omega)]; rfl
    simp only [vP.down, vS.down, vE.down, Nat.reduceEqDiff, Nat.reduceAdd, Nat.reduceSub, Nat.reduceMul, Nat.reduceLeDiff, Nat.reduceLT, Int.reduceToNat, reduceIte, reduceCtorEq, Int.reduceEq, Int.reduceLT, Int.reduceLE, ↓avp_condG, ↓tf_arrow, ↓ft_arrow, Int.toNat_natCast]
    refine ⟨fun hlt => ?_, fun hge => ?_⟩
    · have hl' : i < l.length := by simpa using hlt
      have hr' : i < r.length := by omega
      refine ⟨by omega, by omega, fun hne => ?_, fun heq => ?_⟩
      · simp only [vP.down, vS.down, vE.down, Nat.reduceEqDiff, Nat.reduceAdd, Nat.reduceSub, Nat.reduceMul, Nat.reduceLeDiff, Nat.reduceLT, Int.reduceToNat, reduceIte, reduceCtorEq, Int.reduceEq, Int.reduceLT, Int.reduceLE, ↓avp_condG, ↓tf_arrow, ↓ft_arrow, vT.down]
        have : l ≠ r := fun e => by subst e; simp at hne
        simp [this]
      · have e : l.getD i 0 = r.getD i 0 := by simpa using heq
        exact round_to (l.length - (i + 1)) [(0, .t (sl l)), (1, .t (sl r)), (5, .t (.int .i64 (i + 1 : Nat)))] .empty (by omega) fewer_refl (by simp only [vP.down, vS.down, vE.down, Nat.reduceEqDiff, Nat.reduceAdd, Nat.reduceSub, Nat.reduceMul, Nat.reduceLeDiff, Nat.reduceLT, Int.reduceToNat, reduceIte, reduceCtorEq, Int.reduceEq, Int.reduceLT, Int.reduceLE, ↓avp_condG, ↓tf_arrow, ↓ft_arrow, wP.down, hi1]) ⟨i + 1, rfl, by omega, take_next hl' hr' ht e, rfl⟩
    · simp only [vP.down, vS.down, vE.down, Nat.reduceEqDiff, Nat.reduceAdd, Nat.reduceSub, Nat.reduceMul, Nat.reduceLeDiff, Nat.reduceLT, Int.reduceToNat, reduceIte, reduceCtorEq, Int.reduceEq, Int.reduceLT, Int.reduceLE, ↓avp_condG, ↓tf_arrow, ↓ft_arrow, vT.down]
      have hge : i = l.length := by simp at hge; omega
      subst hge
      have : l = r := by
        have h2 := ht
        rw [List.take_length, hlr, List.take_length] at h2
        exact h2
      simp [this]
noncomputable def c_ref1_SameInts : Con := fnScal A_ref1_SameInts p_ref1_SameInts r_ref1_SameInts
theorem ok_ref1_SameInts : COk Try.prog 26 c_ref1_SameInts := fn_sok sys_ref1_SameInts mixed Try.func26 (by kernel_rfl) geq_ref1_SameInts Try.ntmps26 (by rw [Try.results26]) (fun x => by unfold r_ref1_SameInts; simp [AV.scal]) fun x hx => ⟨Nat.le_of_ble_eq_true rfl, body_ref1_SameInts x hx⟩
end Go.Proofs.Ythhgaeeeppipnaa


namespace Go.Proofs.Ythhgaeeeppipnaa
open Go Go.Eng
theorem decS (x y : TStep) (h : x.Keep = y.Keep) : decide (x = y) = (decide (x.Kind = y.Kind) && decide (x.ID = y.ID) && decide (x.N = y.N) && decide (x.M = y.M) && decide (x.By = y.By) && decide (x.Path = y.Path) && decide (x.To = y.To) && decide (x.Text = y.Text)) := by
  obtain ⟨a1, a2, a3, a4, a5, a6, a7, a8, a9⟩ := x
  obtain ⟨b1, b2, b3, b4, b5, b6, b7, b8, b9⟩ := y
  obtain rfl : a9 = b9 := h
  rw [Bool.eq_iff_iff]
  simp [and_assoc]
def G_ref25_SameStep : GCode := .seq (.region [⟨(some 2), none, .box 24 (.tmp 0)⟩, ⟨(some 3), none, .box 24 (.tmp 1)⟩, ⟨(some 4), none, .assign (.const (.bool false))⟩]) (.seq (.seq (.seq .weak (.region [⟨(some 5), none, .fieldAddr 24 (.tmp 2) 8⟩, ⟨(some 6), none, .load 22 (.tmp 5)⟩, ⟨(some 7), none, .fieldAddr 24 (.tmp 3) 8⟩, ⟨(some 8), none, .load 22 (.tmp 7)⟩, ⟨(some 9), none, .call ⟨.value (.func 26), #[.tmp 6, .tmp 8], #[22, 22]⟩⟩, ⟨(some 10), none, .unOp .not 4 (.tmp 9)⟩])) (.cond (.tmp 10) (.seq (.region [⟨(some 4), none, .assign (.const (.bool false))⟩]) (.ret)) (.skip))) (.seq (.region [⟨(some 11), none, .fieldAddr 24 (.tmp 2) 0⟩, ⟨(some 12), none, .load 3 (.tmp 11)⟩, ⟨(some 13), none, .fieldAddr 24 (.tmp 3) 0⟩, ⟨(some 14), none, .load 3 (.tmp 13)⟩, ⟨(some 15), none, .binOp .eql 3 (.tmp 12) (.tmp 14) 3⟩, ⟨(some 16), none, .move (.tmp 15)⟩, ⟨(some 17), (some (16, true)), .fieldAddr 24 (.tmp 2) 1⟩, ⟨(some 18), (some (16, true)), .load 3 (.tmp 17)⟩, ⟨(some 19), (some (16, true)), .fieldAddr 24 (.tmp 3) 1⟩, ⟨(some 20), (some (16, true)), .load 3 (.tmp 19)⟩, ⟨(some 21), (some (16, true)), .binOp .eql 3 (.tmp 18) (.tmp 20) 3⟩, ⟨(some 22), none, .pick (.tmp 16) (.tmp 21) (.const (.bool false))⟩, ⟨(some 23), none, .move (.tmp 22)⟩, ⟨(some 24), (some (23, true)), .fieldAddr 24 (.tmp 2) 2⟩, ⟨(some 25), (some (23, true)), .load 3 (.tmp 24)⟩, ⟨(some 26), (some (23, true)), .fieldAddr 24 (.tmp 3) 2⟩, ⟨(some 27), (some (23, true)), .load 3 (.tmp 26)⟩, ⟨(some 28), (some (23, true)), .binOp .eql 3 (.tmp 25) (.tmp 27) 3⟩, ⟨(some 29), none, .pick (.tmp 23) (.tmp 28) (.const (.bool false))⟩, ⟨(some 30), none, .move (.tmp 29)⟩, ⟨(some 31), (some (30, true)), .fieldAddr 24 (.tmp 2) 3⟩, ⟨(some 32), (some (30, true)), .load 3 (.tmp 31)⟩, ⟨(some 33), (some (30, true)), .fieldAddr 24 (.tmp 3) 3⟩, ⟨(some 34), (some (30, true)), .load 3 (.tmp 33)⟩, ⟨(some 35), (some (30, true)), .binOp .eql 3 (.tmp 32) (.tmp 34) 3⟩, ⟨(some 36), none, .pick (.tmp 30) (.tmp 35) (.const (.bool false))⟩, ⟨(some 37), none, .move (.tmp 36)⟩, ⟨(some 38), (some (37, true)), .fieldAddr 24 (.tmp 2) 4⟩, ⟨(some 39), (some (37, true)), .load 3 (.tmp 38)⟩, ⟨(some 40), (some (37, true)), .fieldAddr 24 (.tmp 3) 4⟩, ⟨(some 41), (some (37, true)), .load 3 (.tmp 40)⟩, ⟨(some 42), (some (37, true)), .binOp .eql 3 (.tmp 39) (.tmp 41) 3⟩, ⟨(some 43), none, .pick (.tmp 37) (.tmp 42) (.const (.bool false))⟩, ⟨(some 44), none, .move (.tmp 43)⟩, ⟨(some 45), (some (44, true)), .fieldAddr 24 (.tmp 2) 5⟩, ⟨(some 46), (some (44, true)), .load 9 (.tmp 45)⟩, ⟨(some 47), (some (44, true)), .fieldAddr 24 (.tmp 3) 5⟩, ⟨(some 48), (some (44, true)), .load 9 (.tmp 47)⟩, ⟨(some 49), (some (44, true)), .binOp .eql 9 (.tmp 46) (.tmp 48) 9⟩, ⟨(some 50), none, .pick (.tmp 44) (.tmp 49) (.const (.bool false))⟩, ⟨(some 51), none, .move (.tmp 50)⟩, ⟨(some 52), (some (51, true)), .fieldAddr 24 (.tmp 2) 6⟩, ⟨(some 53), (some (51, true)), .load 9 (.tmp 52)⟩, ⟨(some 54), (some (51, true)), .fieldAddr 24 (.tmp 3) 6⟩, ⟨(some 55), (some (51, true)), .load 9 (.tmp 54)⟩, ⟨(some 56), (some (51, true)), .binOp .eql 9 (.tmp 53) (.tmp 55) 9⟩, ⟨(some 57), none, .pick (.tmp 51) (.tmp 56) (.const (.bool false))⟩, ⟨(some 58), none, .move (.tmp 57)⟩, ⟨(some 59), (some (58, true)), .fieldAddr 24 (.tmp 2) 7⟩, ⟨(some 60), (some (58, true)), .load 9 (.tmp 59)⟩, ⟨(some 61), (some (58, true)), .fieldAddr 24 (.tmp 3) 7⟩, ⟨(some 62), (some (58, true)), .load 9 (.tmp 61)⟩, ⟨(some 63), (some (58, true)), .binOp .eql 9 (.tmp 60) (.tmp 62) 9⟩, ⟨(some 64), none, .pick (.tmp 58) (.tmp 63) (.const (.bool false))⟩, ⟨(some 4), none, .assign (.tmp 64)⟩]) (.ret)))
noncomputable def l_ref25_SameStep : List (Nat × Con) := [(26, c_ref1_SameInts)]
noncomputable abbrev K_ref25_SameStep : Ctx := ctx (cl l_ref25_SameStep)
theorem geq_ref25_SameStep : gof K_ref25_SameStep Try.f15 = some G_ref25_SameStep.strip := by kernel_rfl
theorem sys_ref25_SameStep : Go.Eng.Sys Try.prog K_ref25_SameStep := sys_of' ⟨ok_ref1_SameInts, trivial⟩
theorem hm_ref25_SameStep : ConMono K_ref25_SameStep := conMono_of sys_ref25_SameStep.con
noncomputable def k_ref25_SameStep_ref1_SameInts := PLift.up (call_scal (C := K_ref25_SameStep) (f := 26) (A := A_ref1_SameInts) (p := p_ref1_SameInts) (r := r_ref1_SameInts) rfl)
def A_ref25_SameStep := Arms.cons (argA TStep) (Arms.cons (argA TStep) Arms.nil)
def p_ref25_SameStep (x : TStep × TStep × Unit) : Prop := x.1.Keep.length ≤ 1099511627776
def r_ref25_SameStep (x : TStep × TStep × Unit) : AV := .t (.bool (decide (x.1 = x.2.1)))
set_option maxRecDepth 10000 in
set_option maxHeartbeats 4000000 in
theorem body_ref25_SameStep (x : TStep × TStep × Unit) (hp : p_ref25_SameStep x) : avp K_ref25_SameStep G_ref25_SameStep (Ret K_ref25_SameStep [.tmp 4] fun v _ => v = r_ref25_SameStep x) (entry (A_ref25_SameStep.enc x) .empty) := by
  obtain ⟨x, y, ⟨⟩⟩ := x
  change x.Keep.length ≤ _ at hp
  have hp2 : x.Keep.length < 4611686018427387904 := by omega
  change avp _ _ (Ret _ _ fun v _ => v = .t (.bool (decide (x = y)))) (entry [.agg ((stT x).map .t), .agg ((stT y).map .t)] .empty)
  unfold G_ref25_SameStep stT
  simp only [vP.down, vS.down, vE.down, Nat.reduceEqDiff, Nat.reduceAdd, Nat.reduceSub, Nat.reduceMul, Nat.reduceLeDiff, Nat.reduceLT, Int.reduceToNat, reduceIte, reduceCtorEq, Int.reduceEq, Int.reduceLT, Int.reduceLE, ↓avp_condG, ↓tf_arrow, ↓ft_arrow]
  intro g hg g2 hg2
  have n21 := Store.ne_new hg2
  refine weak_at [(2, .imm (stT x)), (3, .imm (stT y)), (4, .t (.bool false))] .empty fewer_empty (by
    unfold stT; simp only [vP.down, vS.down, vE.down, Nat.reduceEqDiff, Nat.reduceAdd, Nat.reduceSub, Nat.reduceMul, Nat.reduceLeDiff, Nat.reduceLT, Int.reduceToNat, reduceIte, reduceCtorEq, Int.reduceEq, Int.reduceLT, Int.reduceLE, ↓avp_condG, ↓tf_arrow, ↓ft_arrow, wP.down]
    exact ⟨w2_imm (l := stT x) (ro := false) ((Store.set_other _ _ n21.symm).trans (Store.set_same _ _ _)) rfl, w2_imm (l := stT y) (ro := false) (Store.set_same _ _ _) rfl⟩) ?_
  unfold stT
  by_cases hl : x.Keep = y.Keep
  case neg =>
    have hd : decide (x = y) = false := decide_eq_false fun e => hl (by rw [e])
    rw [hd]
    simp only [vP.down, vS.down, vE.down, Nat.reduceEqDiff, Nat.reduceAdd, Nat.reduceSub, Nat.reduceMul, Nat.reduceLeDiff, Nat.reduceLT, Int.reduceToNat, reduceIte, reduceCtorEq, Int.reduceEq, Int.reduceLT, Int.reduceLE, ↓avp_condG, ↓tf_arrow, ↓ft_arrow, k_ref25_SameStep_ref1_SameInts.down, A_ref1_SameInts, p_ref1_SameInts, r_ref1_SameInts, hl, hp2]
    simp only [vP.down, vS.down, vE.down, Nat.reduceEqDiff, Nat.reduceAdd, Nat.reduceSub, Nat.reduceMul, Nat.reduceLeDiff, Nat.reduceLT, Int.reduceToNat, reduceIte, reduceCtorEq, Int.reduceEq, Int.reduceLT, Int.reduceLE, ↓avp_condG, ↓tf_arrow, ↓ft_arrow, vT.down]
  rw [decS x y hl]
  simp only [vP.down, vS.down, vE.down, Nat.reduceEqDiff, Nat.reduceAdd, Nat.reduceSub, Nat.reduceMul, Nat.reduceLeDiff, Nat.reduceLT, Int.reduceToNat, reduceIte, reduceCtorEq, Int.reduceEq, Int.reduceLT, Int.reduceLE, ↓avp_condG, ↓tf_arrow, ↓ft_arrow, k_ref25_SameStep_ref1_SameInts.down, A_ref1_SameInts, p_ref1_SameInts, r_ref1_SameInts, hl]
  refine ⟨by rw [← hl]; exact hp2, ?_⟩
  ((repeat' with_reducible refine And.intro ?_ ?_) <;> try (first | omega | (simp only [List.length_take, List.length_drop, List.length_append, List.length_map, List.length_replicate] <;> omega)))
  simp only [vP.down, vS.down, vE.down, Nat.reduceEqDiff, Nat.reduceAdd, Nat.reduceSub, Nat.reduceMul, Nat.reduceLeDiff, Nat.reduceLT, Int.reduceToNat, reduceIte, reduceCtorEq, Int.reduceEq, Int.reduceLT, Int.reduceLE, ↓avp_condG, ↓tf_arrow, ↓ft_arrow, vT.down]
noncomputable def c_ref25_SameStep : Con := fnScal A_ref25_SameStep p_ref25_SameStep r_ref25_SameStep
theorem ok_ref25_SameStep : COk Try.prog 15 c_ref25_SameStep := fn_sok sys_ref25_SameStep mixed Try.func15 (by kernel_rfl) geq_ref25_SameStep Try.ntmps15 (by rw [Try.results15]) (fun x => by unfold r_ref25_SameStep; simp [AV.scal]) fun x hx => ⟨Nat.le_of_ble_eq_true rfl, body_ref25_SameStep x hx⟩

def G_ref25_SameSteps : GCode := .seq (.region [⟨(some 4), none, .assign (.const (.bool false))⟩]) (.seq (.seq (.region [⟨(some 6), none, .move (.tmp 0)⟩, ⟨(some 7), none, .call ⟨.builtin .len, #[.tmp 6], #[27]⟩⟩, ⟨(some 8), none, .move (.tmp 1)⟩, ⟨(some 9), none, .call ⟨.builtin .len, #[.tmp 8], #[27]⟩⟩, ⟨(some 10), none, .binOp .neq 3 (.tmp 7) (.tmp 9) 3⟩]) (.cond (.tmp 10) (.seq (.region [⟨(some 4), none, .assign (.const (.bool false))⟩]) (.ret)) (.skip))) (.seq (.seq (.region [⟨(some 5), none, .assign (.const (.int .i64 0))⟩]) (.block 0 (.loop (.seq .weak (.seq (.seq (.region [⟨(some 11), none, .move (.tmp 5)⟩, ⟨(some 12), none, .move (.tmp 0)⟩, ⟨(some 13), none, .call ⟨.builtin .len, #[.tmp 12], #[27]⟩⟩, ⟨(some 14), none, .binOp .lss 3 (.tmp 11) (.tmp 13) 3⟩]) (.cond (.tmp 14) (.skip) (.exit 0))) (.seq (.block 1 (.seq (.region [⟨(some 17), none, .move (.tmp 0)⟩, ⟨(some 18), none, .move (.tmp 5)⟩, ⟨(some 19), none, .indexAddr 27 (.tmp 17) (.tmp 18)⟩, ⟨(some 20), none, .load 24 (.tmp 19)⟩, ⟨(some 21), none, .move (.tmp 1)⟩, ⟨(some 22), none, .move (.tmp 5)⟩, ⟨(some 23), none, .indexAddr 27 (.tmp 21) (.tmp 22)⟩, ⟨(some 24), none, .load 24 (.tmp 23)⟩, ⟨(some 25), none, .call ⟨.value (.func 15), #[.tmp 20, .tmp 24], #[24, 24]⟩⟩, ⟨(some 26), none, .unOp .not 4 (.tmp 25)⟩]) (.cond (.tmp 26) (.seq (.region [⟨(some 4), none, .assign (.const (.bool false))⟩]) (.ret)) (.skip)))) (.region [⟨(some 15), none, .move (.tmp 5)⟩, ⟨(some 16), none, .binOp .add 3 (.tmp 15) (.const (.int .i64 1)) 3⟩, ⟨(some 5), none, .assign (.tmp 16)⟩]))))))) (.seq (.region [⟨(some 4), none, .assign (.const (.bool true))⟩]) (.ret))))
noncomputable def l_ref25_SameSteps : List (Nat × Con) := [(15, c_ref25_SameStep)]
noncomputable abbrev K_ref25_SameSteps : Ctx := ctx (cl l_ref25_SameSteps)
theorem geq_ref25_SameSteps : gof K_ref25_SameSteps Try.f12 = some G_ref25_SameSteps.strip := by kernel_rfl
theorem sys_ref25_SameSteps : Go.Eng.Sys Try.prog K_ref25_SameSteps := sys_of' ⟨ok_ref25_SameStep, trivial⟩
theorem hm_ref25_SameSteps : ConMono K_ref25_SameSteps := conMono_of sys_ref25_SameSteps.con
noncomputable def k_ref25_SameSteps_ref25_SameStep := PLift.up (call_scal (C := K_ref25_SameSteps) (f := 15) (A := A_ref25_SameStep) (p := p_ref25_SameStep) (r := r_ref25_SameStep) rfl)
def A_ref25_SameSteps := Arms.cons (argT (List TStep)) (Arms.cons (argT (List TStep)) Arms.nil)
def p_ref25_SameSteps (x : List TStep × List TStep × Unit) : Prop := x.1.length ≤ 1099511627776 ∧ ∀ y ∈ x.1, y.Keep.length ≤ 1099511627776
def r_ref25_SameSteps (x : List TStep × List TStep × Unit) : AV := .t (.bool (decide (x.1 = x.2.1)))
set_option maxRecDepth 10000 in
set_option maxHeartbeats 4000000 in
theorem body_ref25_SameSteps (x : List TStep × List TStep × Unit) (hp : p_ref25_SameSteps x) : avp K_ref25_SameSteps G_ref25_SameSteps (Ret K_ref25_SameSteps [.tmp 4] fun v _ => v = r_ref25_SameSteps x) (entry (A_ref25_SameSteps.enc x) .empty) := by
  obtain ⟨l, r, ⟨⟩⟩ := x
  obtain ⟨hp, hk⟩ := hp
  dsimp only at hp hk
  change avp _ _ (Ret _ _ fun v _ => v = .t (.bool (decide (l = r)))) (entry [.t (sl l), .t (sl r)] .empty)
  unfold G_ref25_SameSteps
  by_cases hl : l.length = r.length
  case neg =>
    have hl' : ¬ (l.length : Int) = (r.length : Int) := by omega
    have hd : decide (l = r) = false := decide_eq_false fun e => hl (by rw [e])
    rw [hd]
    simp only [vP.down, vS.down, vE.down, Nat.reduceEqDiff, Nat.reduceAdd, Nat.reduceSub, Nat.reduceMul, Nat.reduceLeDiff, Nat.reduceLT, Int.reduceToNat, reduceIte, reduceCtorEq, Int.reduceEq, Int.reduceLT, Int.reduceLE, ↓avp_condG, ↓tf_arrow, ↓ft_arrow, hl']
    simp only [vP.down, vS.down, vE.down, Nat.reduceEqDiff, Nat.reduceAdd, Nat.reduceSub, Nat.reduceMul, Nat.reduceLeDiff, Nat.reduceLT, Int.reduceToNat, reduceIte, reduceCtorEq, Int.reduceEq, Int.reduceLT, Int.reduceLE, ↓avp_condG, ↓tf_arrow, ↓ft_arrow, vT.down]
  have hl' : (l.length : Int) = (r.length : Int) := by omega
  simp only [vP.down, vS.down, vE.down, Nat.reduceEqDiff, Nat.reduceAdd, Nat.reduceSub, Nat.reduceMul, Nat.reduceLeDiff, Nat.reduceLT, Int.reduceToNat, reduceIte, reduceCtorEq, Int.reduceEq, Int.reduceLT, Int.reduceLE, ↓avp_condG, ↓tf_arrow, ↓ft_arrow, hl']
  refine loop_weak hm_ref25_SameSteps (fun k σ => ∃ i : Nat, k = l.length - i ∧ i ≤ l.length ∧ l.take i = r.take i ∧ σ = mkS [(0, .t (sl l)), (1, .t (sl r)), (5, .t (.int .i64 (i : Nat)))] .empty) ⟨0, rfl, by omega, rfl, rfl⟩ (wk_to fewer_refl (by simp only [vP.down, vS.down, vE.down, Nat.reduceEqDiff, Nat.reduceAdd, Nat.reduceSub, Nat.reduceMul, Nat.reduceLeDiff, Nat.reduceLT, Int.reduceToNat, reduceIte, reduceCtorEq, Int.reduceEq, Int.reduceLT, Int.reduceLE, ↓avp_condG, ↓tf_arrow, ↓ft_arrow, wP.down, Int.natCast_zero])) ?_
  rintro k _ ⟨i, rfl, hi, ht, rfl⟩
  have hi1 : IntKind.i64.wrap ((i : Int) + 1) = ((i + 1 : Nat) : Int) := by rw [IntWalk.i64_in _ (by omega)]; rfl
  by_cases hlt : i < l.length
  case neg =>
    obtain rfl : i = l.length := by omega
    have hge : ¬ ((l.length : Int) < (l.length : Int)) := by omega
    have e : l = r := by
      have h2 := ht
      rw [List.take_length, hl, List.take_length] at h2
      exact h2
    rw [decide_eq_true e]
    simp only [vP.down, vS.down, vE.down, Nat.reduceEqDiff, Nat.reduceAdd, Nat.reduceSub, Nat.reduceMul, Nat.reduceLeDiff, Nat.reduceLT, Int.reduceToNat, reduceIte, reduceCtorEq, Int.reduceEq, Int.reduceLT, Int.reduceLE, ↓avp_condG, ↓tf_arrow, ↓ft_arrow, hge]
    simp only [vP.down, vS.down, vE.down, Nat.reduceEqDiff, Nat.reduceAdd, Nat.reduceSub, Nat.reduceMul, Nat.reduceLeDiff, Nat.reduceLT, Int.reduceToNat, reduceIte, reduceCtorEq, Int.reduceEq, Int.reduceLT, Int.reduceLE, ↓avp_condG, ↓tf_arrow, ↓ft_arrow, vT.down]
  have hlt' : (i : Int) < (l.length : Int) := by omega
  have hkx := hk (l.getD i default) (by rw [List.getD_eq_getElem?_getD, List.getElem?_eq_getElem hlt]; exact List.getElem_mem _)
  by_cases he : l.getD i default = r.getD i default
  case neg =>
    have hd : decide (l = r) = false := decide_eq_false fun e => he (by rw [e])
    rw [hd]
    simp only [vP.down, vS.down, vE.down, Nat.reduceEqDiff, Nat.reduceAdd, Nat.reduceSub, Nat.reduceMul, Nat.reduceLeDiff, Nat.reduceLT, Int.reduceToNat, reduceIte, reduceCtorEq, Int.reduceEq, Int.reduceLT, Int.reduceLE, ↓avp_condG, ↓tf_arrow, ↓ft_arrow, hlt', k_ref25_SameSteps_ref25_SameStep.down, A_ref25_SameStep, p_ref25_SameStep, r_ref25_SameStep, he, hkx]
    ((repeat' with_reducible refine And.intro ?_ ?_) <;> try (first | omega | (simp only [List.length_take, List.length_drop, List.length_append, List.length_map, List.length_replicate] <;> omega)))
    all_goals (try simp only [vP.down, vS.down, vE.down, Nat.reduceEqDiff, Nat.reduceAdd, Nat.reduceSub, Nat.reduceMul, Nat.reduceLeDiff, Nat.reduceLT, Int.reduceToNat, reduceIte, reduceCtorEq, Int.reduceEq, Int.reduceLT, Int.reduceLE, ↓avp_condG, ↓tf_arrow, ↓ft_arrow, vT.down])
  simp only [vP.down, vS.down, vE.down, Nat.reduceEqDiff, Nat.reduceAdd, Nat.reduceSub, Nat.reduceMul, Nat.reduceLeDiff, Nat.reduceLT, Int.reduceToNat, reduceIte, reduceCtorEq, Int.reduceEq, Int.reduceLT, Int.reduceLE, ↓avp_condG, ↓tf_arrow, ↓ft_arrow, hlt', k_ref25_SameSteps_ref25_SameStep.down, A_ref25_SameStep, p_ref25_SameStep, r_ref25_SameStep, he]
  rw [he] at hkx
  ((repeat' with_reducible refine And.intro ?_ ?_) <;> try (first | omega | (simp only [List.length_take, List.length_drop, List.length_append, List.length_map, List.length_replicate] <;> omega)))
  all_goals try exact hkx
  all_goals exact round_to (l.length - (i + 1)) [(0, .t (sl l)), (1, .t (sl r)), (5, .t (.int .i64 (i + 1 : Nat)))] .empty (by omega) fewer_refl (by simp only [vP.down, vS.down, vE.down, Nat.reduceEqDiff, Nat.reduceAdd, Nat.reduceSub, Nat.reduceMul, Nat.reduceLeDiff, Nat.reduceLT, Int.reduceToNat, reduceIte, reduceCtorEq, Int.reduceEq, Int.reduceLT, Int.reduceLE, ↓avp_condG, ↓tf_arrow, ↓ft_arrow, wP.down, hi1]) ⟨i + 1, rfl, by omega, take_next hlt (by omega) ht he, rfl⟩
noncomputable def c_ref25_SameSteps : Con := fnScal A_ref25_SameSteps p_ref25_SameSteps r_ref25_SameSteps
theorem ok_ref25_SameSteps : COk Try.prog 12 c_ref25_SameSteps := fn_sok sys_ref25_SameSteps mixed Try.func12 (by kernel_rfl) geq_ref25_SameSteps Try.ntmps12 (by rw [Try.results12]) (fun x => by unfold r_ref25_SameSteps; simp [AV.scal]) fun x hx => ⟨Nat.le_of_ble_eq_true rfl, body_ref25_SameSteps x hx⟩
end Go.Proofs.Ythhgaeeeppipnaa


namespace Go.Proofs.Ythhgaeeeppipnaa
open Go Go.Eng
def kk (c : List UInt8) : Int := ((c.getD 0 0).toNat : Int).tmod 23
theorem kk_bd (c : List UInt8) : 0 ≤ kk c ∧ kk c < 23 := ⟨Int.tmod_nonneg _ (by omega), Int.tmod_lt_of_pos _ (by omega)⟩
theorem num_one {c : List UInt8} (h : c ≠ []) : num (c.take 1) = ((c.getD 0 0).toNat : Int) := by
  cases c with
  | nil => exact absurd rfl h
  | cons a r => simp [num]
theorem takeS_ref {c : List UInt8} (h : c ≠ []) : takeS c = if kk c = 0 then takeS (c.drop 1) else if (oneS true (kk c) (c.drop 1)).2.2 = true then (oneS true (kk c) (c.drop 1)).1 :: takeS (oneS true (kk c) (c.drop 1)).2.1 else [] := by
  have hl : 1 ≤ c.length := by
    have : c.length ≠ 0 := fun e => h (List.length_eq_zero_iff.1 e)
    omega
  have hk := kk_bd c
  have e : takenS c = if (oneS false (kk c) (c.drop 1)).2.2 = true then oneS false (kk c) (c.drop 1) else ((oneS false (kk c) (c.drop 1)).1, [], false) := by
    have h1 : (takeL [49] c).getD 0 default = num (c.take 1) := (numF (f := 3) hl).1
    have h2 : takeR [49] c = c.drop 1 := (numF (f := 3) hl).2
    unfold takenS
    rw [if_neg (by rw [ok1]; simp only [decide_eq_false_iff_not, Decidable.not_not]; exact hl), h1, h2, num_one h]; rfl
  obtain ⟨t1, t2⟩ := takeFs_two (fldL (kk c)) { step0 with Kind := kk c } (c.drop 1)
  change (oneS true (kk c) (c.drop 1)).2.2 = (oneS false (kk c) (c.drop 1)).2.2 at t1
  change (oneS false (kk c) (c.drop 1)).2.2 = true → oneS true (kk c) (c.drop 1) = oneS false (kk c) (c.drop 1) at t2
  rw [takeS_step h, e]
  by_cases hok : (oneS false (kk c) (c.drop 1)).2.2 = true
  · have hkd := (one_good hk.1 (trip hok)).1
    rw [if_pos hok, if_pos hok, t2 hok, if_pos hok, hkd]
    by_cases h0 : kk c = 0
    · rw [if_pos h0, if_neg (by omega)]
      have : oneS false (kk c) (c.drop 1) = ({ step0 with Kind := kk c }, c.drop 1, true) := by rw [h0]; rfl
      rw [this]
    · rw [if_neg h0, if_pos (by omega)]
  · have h0 : ¬ kk c = 0 := fun h0 => hok (by rw [h0]; rfl)
    rw [if_neg hok, if_neg h0, t1, if_neg hok, if_neg (by simp)]
theorem one_shorter {k : Int} {c r : List UInt8} {s : TStep} (h : oneS true k c = (s, r, true)) : r.length ≤ c.length := by
  obtain ⟨t1, t2⟩ := takeFs_two (fldL k) { step0 with Kind := k } c
  change (oneS true k c).2.2 = (oneS false k c).2.2 at t1
  change (oneS false k c).2.2 = true → oneS true k c = oneS false k c at t2
  have h2 : (oneS false k c).2.2 = true := by rw [← t1, h]
  rw [t2 h2] at h
  exact (takeFs_ok _ h).1
def G_ref25_TakeSteps : GCode := .seq (.region [⟨(some 2), none, .assign (.const (.slice none 0 0))⟩]) (.seq (.region [⟨(some 3), none, .assign (.const (.slice none 0 0))⟩]) (.seq (.block 0 (.loop (.seq .weak (.seq (.seq (.region [⟨(some 8), none, .move (.tmp 0)⟩, ⟨(some 9), none, .call ⟨.builtin .len, #[.tmp 8], #[9]⟩⟩, ⟨(some 10), none, .binOp .gtr 3 (.tmp 9) (.const (.int .i64 0)) 3⟩]) (.cond (.tmp 10) (.skip) (.exit 0))) (.block 1 (.seq (.region [⟨(some 11), none, .move (.tmp 0)⟩, ⟨(some 12), none, .index 9 (.tmp 11) (.const (.int .i64 0))⟩, ⟨(some 13), none, .convert 5 3 (.tmp 12)⟩, ⟨(some 14), none, .binOp .rem 3 (.tmp 13) (.const (.int .i64 23)) 3⟩, ⟨(some 4), none, .assign (.tmp 14)⟩]) (.seq (.region [⟨(some 15), none, .move (.tmp 0)⟩, ⟨(some 16), none, .slice 9 (.tmp 15) (some (.const (.int .i64 1))) none none⟩, ⟨(some 0), none, .assign (.tmp 16)⟩]) (.seq (.seq (.region [⟨(some 17), none, .move (.tmp 4)⟩, ⟨(some 18), none, .binOp .eql 3 (.tmp 17) (.const (.int .i64 0)) 3⟩]) (.cond (.tmp 18) (.exit 1) (.skip))) (.seq (.region [⟨(some 20), none, .move (.tmp 4)⟩, ⟨(some 21), none, .move (.tmp 0)⟩, ⟨(some 22), none, .call ⟨.value (.func 25), #[.tmp 20, .tmp 21], #[3, 9]⟩⟩, ⟨(some 19), none, .move (.tmp 22)⟩, ⟨(some 23), none, .extract (.tmp 19) 0⟩, ⟨(some 24), none, .extract (.tmp 19) 1⟩, ⟨(some 25), none, .extract (.tmp 19) 2⟩, ⟨(some 5), none, .alloc 24⟩, ⟨none, none, .store 24 (.tmp 5) (.tmp 23)⟩, ⟨(some 6), none, .assign (.tmp 24)⟩, ⟨(some 7), none, .assign (.tmp 25)⟩]) (.seq (.seq (.seq .weak (.region [⟨(some 26), none, .move (.tmp 7)⟩, ⟨(some 27), none, .unOp .not 4 (.tmp 26)⟩])) (.cond (.tmp 27) (.seq (.region [⟨(some 28), none, .move (.tmp 3)⟩, ⟨(some 2), none, .assign (.tmp 28)⟩]) (.ret)) (.skip))) (.region [⟨(some 29), none, .move (.tmp 3)⟩, ⟨(some 30), none, .load 24 (.tmp 5)⟩, ⟨(some 31), none, .buildSlice 27 1 #[(0, .tmp 30)]⟩, ⟨(some 32), none, .call ⟨.builtin .append, #[.tmp 29, .tmp 31], #[27, 27]⟩⟩, ⟨(some 33), none, .move (.tmp 6)⟩, ⟨(some 3), none, .assign (.tmp 32)⟩, ⟨(some 0), none, .assign (.tmp 33)⟩]))))))))))) (.seq (.region [⟨(some 34), none, .move (.tmp 3)⟩, ⟨(some 2), none, .assign (.tmp 34)⟩]) (.ret))))
noncomputable def l_ref25_TakeSteps : List (Nat × Con) := [(25, c_ref25_one)]
noncomputable abbrev K_ref25_TakeSteps : Ctx := ctx (cl l_ref25_TakeSteps)
theorem geq_ref25_TakeSteps : gof K_ref25_TakeSteps Try.f14 = some G_ref25_TakeSteps.strip := by kernel_rfl
theorem sys_ref25_TakeSteps : Go.Eng.Sys Try.prog K_ref25_TakeSteps := sys_of' ⟨ok_ref25_one, trivial⟩
theorem hm_ref25_TakeSteps : ConMono K_ref25_TakeSteps := conMono_of sys_ref25_TakeSteps.con
noncomputable def k_ref25_TakeSteps_ref25_one := PLift.up (call_fn (C := K_ref25_TakeSteps) (f := 25) (A := A_ref25_one) (p := p_ref25_one) (r := r_ref25_one) rfl)
def A_ref25_TakeSteps := Arms.cons (argT (List UInt8)) Arms.nil
def p_ref25_TakeSteps (x : List UInt8 × Unit) : Prop := x.1.length ≤ 1099511627776
def r_ref25_TakeSteps (x : List UInt8 × Unit) : AV := .t (sl (takeS x.1))
set_option maxRecDepth 10000 in
set_option maxHeartbeats 4000000 in
theorem body_ref25_TakeSteps (x : List UInt8 × Unit) (hp : p_ref25_TakeSteps x) : avp K_ref25_TakeSteps G_ref25_TakeSteps (Ret K_ref25_TakeSteps [.tmp 2] fun v s' => Frz s' v (r_ref25_TakeSteps x)) (entry (A_ref25_TakeSteps.enc x) .empty) := by
  obtain ⟨b, ⟨⟩⟩ := x
  change b.length ≤ _ at hp
  change avp _ _ (Ret _ _ fun v s' => Frz s' v (.t (sl (takeS b)))) (entry [.t (.str b)] .empty)
  unfold G_ref25_TakeSteps
  simp only [vP.down, vS.down, vE.down, Nat.reduceEqDiff, Nat.reduceAdd, Nat.reduceSub, Nat.reduceMul, Nat.reduceLeDiff, Nat.reduceLT, Int.reduceToNat, reduceIte, reduceCtorEq, Int.reduceEq, Int.reduceLT, Int.reduceLE, ↓avp_condG, ↓tf_arrow, ↓ft_arrow]
  refine loop_weak hm_ref25_TakeSteps (fun m σ => ∃ (c : List UInt8) (v : AV) (S : Store) (l : List TStep), m = c.length ∧ c.length ≤ b.length ∧ LV S v l ∧ l.length + c.length ≤ b.length ∧ takeS b = l ++ takeS c ∧
    σ = mkS [(0, .t (.str c)), (3, v)] S)
    ⟨b, .t .nilS, .empty, [], rfl, Nat.le_refl _, lv_nil, by simp, rfl, rfl⟩ (wk_to fewer_refl (by simp only [vP.down, vS.down, vE.down, Nat.reduceEqDiff, Nat.reduceAdd, Nat.reduceSub, Nat.reduceMul, Nat.reduceLeDiff, Nat.reduceLT, Int.reduceToNat, reduceIte, reduceCtorEq, Int.reduceEq, Int.reduceLT, Int.reduceLE, ↓avp_condG, ↓tf_arrow, ↓ft_arrow, wP.down])) ?_
  rintro m _ ⟨c, v, S, l, rfl, hc, hv, hlc, hb, rfl⟩
  by_cases hne : c = []
  · subst hne
    rw [takeS_nil, List.append_nil] at hb
    rw [hb]
    simp only [vP.down, vS.down, vE.down, Nat.reduceEqDiff, Nat.reduceAdd, Nat.reduceSub, Nat.reduceMul, Nat.reduceLeDiff, Nat.reduceLT, Int.reduceToNat, reduceIte, reduceCtorEq, Int.reduceEq, Int.reduceLT, Int.reduceLE, ↓avp_condG, ↓tf_arrow, ↓ft_arrow, List.length_nil, gt_iff_lt]
    simp only [vP.down, vS.down, vE.down, Nat.reduceEqDiff, Nat.reduceAdd, Nat.reduceSub, Nat.reduceMul, Nat.reduceLeDiff, Nat.reduceLT, Int.reduceToNat, reduceIte, reduceCtorEq, Int.reduceEq, Int.reduceLT, Int.reduceLE, ↓avp_condG, ↓tf_arrow, ↓ft_arrow, vT.down]
    exact hv.frz
  have hcl : 0 < c.length := List.length_pos_iff.2 hne
  have hcl' : (0 : Int) < (c.length : Int) := by omega
  have hcl1 : (1 : Int) ≤ (c.length : Int) := by omega
  have w1 : IntKind.i64.wrap ((c.getD 0 0).toNat : Int) = ((c.getD 0 0).toNat : Int) := IntWalk.i64_in _ (by have := (c.getD 0 0).toNat_lt; omega)
  have hkk : ((c.getD 0 0).toNat : Int).tmod 23 = kk c := rfl
  have hst := takeS_ref hne
  have hdl : (c.drop 1).length = c.length - 1 := List.length_drop
  have hd2 : (c.drop 1).length ≤ 1099511627776 := by omega
  have htk : c.take c.length = c := List.take_length
  by_cases h0 : kk c = 0
  · rw [if_pos h0] at hst
    simp only [vP.down, vS.down, vE.down, Nat.reduceEqDiff, Nat.reduceAdd, Nat.reduceSub, Nat.reduceMul, Nat.reduceLeDiff, Nat.reduceLT, Int.reduceToNat, reduceIte, reduceCtorEq, Int.reduceEq, Int.reduceLT, Int.reduceLE, ↓avp_condG, ↓tf_arrow, ↓ft_arrow, hcl', hcl1, w1, hkk, h0, htk, gt_iff_lt]
    ((repeat' with_reducible refine And.intro ?_ ?_) <;> try (first | omega | (simp only [List.length_take, List.length_drop, List.length_append, List.length_map, List.length_replicate] <;> omega)))
    all_goals exact round_to (c.length - 1) [(0, .t (.str (c.drop 1))), (3, v)] S (by omega) fewer_refl (by simp only [vP.down, vS.down, vE.down, Nat.reduceEqDiff, Nat.reduceAdd, Nat.reduceSub, Nat.reduceMul, Nat.reduceLeDiff, Nat.reduceLT, Int.reduceToNat, reduceIte, reduceCtorEq, Int.reduceEq, Int.reduceLT, Int.reduceLE, ↓avp_condG, ↓tf_arrow, ↓ft_arrow, wP.down]) ⟨c.drop 1, v, S, l, by rw [hdl], by omega, hv, by omega, by rw [hb, hst], rfl⟩
  rw [if_neg h0] at hst
  simp only [vP.down, vS.down, vE.down, Nat.reduceEqDiff, Nat.reduceAdd, Nat.reduceSub, Nat.reduceMul, Nat.reduceLeDiff, Nat.reduceLT, Int.reduceToNat, reduceIte, reduceCtorEq, Int.reduceEq, Int.reduceLT, Int.reduceLE, ↓avp_condG, ↓tf_arrow, ↓ft_arrow, hcl', hcl1, w1, hkk, h0, htk, gt_iff_lt, k_ref25_TakeSteps_ref25_one.down, A_ref25_one, p_ref25_one, r_ref25_one, takenR, stT, hd2]
  ((repeat' with_reducible refine And.intro ?_ ?_) <;> try (first | omega | (simp only [List.length_take, List.length_drop, List.length_append, List.length_map, List.length_replicate] <;> omega)))
  intro g5 hg5
  obtain ⟨⟨s, r, ok⟩, hk⟩ : ∃ q, q = oneS true (kk c) (c.drop 1) := ⟨_, rfl⟩
  rw [← hk] at hst ⊢
  dsimp only at hst ⊢
  refine weak_at [(3, v), (5, .imm (stT s)), (6, .t (.str r)), (7, .t (.bool ok))] S (fewer_fresh hg5) (by
    unfold stT
    simp only [vP.down, vS.down, vE.down, Nat.reduceEqDiff, Nat.reduceAdd, Nat.reduceSub, Nat.reduceMul, Nat.reduceLeDiff, Nat.reduceLT, Int.reduceToNat, reduceIte, reduceCtorEq, Int.reduceEq, Int.reduceLT, Int.reduceLE, ↓avp_condG, ↓tf_arrow, ↓ft_arrow, wP.down]
    exact w2_imm (l := stT s) (ro := false) (Store.set_same _ _ _) hg5) ?_
  unfold stT
  by_cases hok : ok = true
  case neg =>
    have hok' : ok = false := by simpa using hok
    subst hok'
    rw [if_neg (by simp)] at hst
    rw [hst, List.append_nil] at hb
    rw [hb]
    simp only [vP.down, vS.down, vE.down, Nat.reduceEqDiff, Nat.reduceAdd, Nat.reduceSub, Nat.reduceMul, Nat.reduceLeDiff, Nat.reduceLT, Int.reduceToNat, reduceIte, reduceCtorEq, Int.reduceEq, Int.reduceLT, Int.reduceLE, ↓avp_condG, ↓tf_arrow, ↓ft_arrow]
    simp only [vP.down, vS.down, vE.down, Nat.reduceEqDiff, Nat.reduceAdd, Nat.reduceSub, Nat.reduceMul, Nat.reduceLeDiff, Nat.reduceLT, Int.reduceToNat, reduceIte, reduceCtorEq, Int.reduceEq, Int.reduceLT, Int.reduceLE, ↓avp_condG, ↓tf_arrow, ↓ft_arrow, vT.down]
    exact hv.frz
  subst hok
  have hlt := one_shorter hk.symm
  rw [if_pos rfl] at hst
  simp only [vP.down, vS.down, vE.down, Nat.reduceEqDiff, Nat.reduceAdd, Nat.reduceSub, Nat.reduceMul, Nat.reduceLeDiff, Nat.reduceLT, Int.reduceToNat, reduceIte, reduceCtorEq, Int.reduceEq, Int.reduceLT, Int.reduceLE, ↓avp_condG, ↓tf_arrow, ↓ft_arrow]
  intro g9 hg9
  refine append_new ty_Lapi_Step ty_api_Step rfl (by decide) hv hg9 (shows_one (x := s) rfl rfl rfl) (by simp; omega) (by simp; omega) fun v' S' hv' kp => ?_
  exact round_to r.length [(0, .t (.str r)), (3, v')] S' (by omega) fewer_refl (by simp only [vP.down, vS.down, vE.down, Nat.reduceEqDiff, Nat.reduceAdd, Nat.reduceSub, Nat.reduceMul, Nat.reduceLeDiff, Nat.reduceLT, Int.reduceToNat, reduceIte, reduceCtorEq, Int.reduceEq, Int.reduceLT, Int.reduceLE, ↓avp_condG, ↓tf_arrow, ↓ft_arrow, wP.down]) ⟨r, v', S', l ++ [s], rfl, by omega, hv', by rw [List.length_append, List.length_singleton]; omega, by rw [hb, hst, List.append_assoc]; rfl, rfl⟩
noncomputable def c_ref25_TakeSteps : Con := fnCon A_ref25_TakeSteps p_ref25_TakeSteps r_ref25_TakeSteps
theorem ok_ref25_TakeSteps : COk Try.prog 14 c_ref25_TakeSteps := fn_ok sys_ref25_TakeSteps mixed Try.func14 (by kernel_rfl) geq_ref25_TakeSteps Try.ntmps14 (by rw [Try.results14]) fun x hx => ⟨Nat.le_of_ble_eq_true rfl, body_ref25_TakeSteps x hx⟩
end Go.Proofs.Ythhgaeeeppipnaa


namespace Go.Proofs.Ythhgaeeeppipnaa
open Go Go.Eng
def G_ref25_putStep : GCode := .seq (.region [⟨(some 1), none, .box 24 (.tmp 0)⟩, ⟨(some 2), none, .assign (.const (.string ⟨#[]⟩))⟩]) (.seq (.seq (.seq .weak (.region [⟨(some 7), none, .fieldAddr 24 (.tmp 1) 0⟩, ⟨(some 8), none, .load 3 (.tmp 7)⟩, ⟨(some 9), none, .binOp .lss 3 (.tmp 8) (.const (.int .i64 1)) 3⟩, ⟨(some 10), none, .move (.tmp 9)⟩, ⟨(some 11), (some (10, false)), .fieldAddr 24 (.tmp 1) 0⟩, ⟨(some 12), (some (10, false)), .load 3 (.tmp 11)⟩, ⟨(some 13), (some (10, false)), .binOp .gtr 3 (.tmp 12) (.const (.int .i64 22)) 3⟩, ⟨(some 14), none, .pick (.tmp 10) (.const (.bool true)) (.tmp 13)⟩, ⟨(some 15), none, .move (.tmp 14)⟩, ⟨(some 16), (some (15, false)), .fieldAddr 24 (.tmp 1) 5⟩, ⟨(some 17), (some (15, false)), .load 9 (.tmp 16)⟩, ⟨(some 18), (some (15, false)), .call ⟨.builtin .len, #[.tmp 17], #[9]⟩⟩, ⟨(some 19), (some (15, false)), .binOp .gtr 3 (.tmp 18) (.const (.int .i64 255)) 3⟩, ⟨(some 20), none, .pick (.tmp 15) (.const (.bool true)) (.tmp 19)⟩, ⟨(some 21), none, .move (.tmp 20)⟩, ⟨(some 22), (some (21, false)), .fieldAddr 24 (.tmp 1) 6⟩, ⟨(some 23), (some (21, false)), .load 9 (.tmp 22)⟩, ⟨(some 24), (some (21, false)), .call ⟨.builtin .len, #[.tmp 23], #[9]⟩⟩, ⟨(some 25), (some (21, false)), .binOp .gtr 3 (.tmp 24) (.const (.int .i64 255)) 3⟩, ⟨(some 26), none, .pick (.tmp 21) (.const (.bool true)) (.tmp 25)⟩, ⟨(some 27), none, .move (.tmp 26)⟩, ⟨(some 28), (some (27, false)), .fieldAddr 24 (.tmp 1) 7⟩, ⟨(some 29), (some (27, false)), .load 9 (.tmp 28)⟩, ⟨(some 30), (some (27, false)), .call ⟨.builtin .len, #[.tmp 29], #[9]⟩⟩, ⟨(some 31), (some (27, false)), .binOp .gtr 3 (.tmp 30) (.const (.int .i64 255)) 3⟩, ⟨(some 32), none, .pick (.tmp 27) (.const (.bool true)) (.tmp 31)⟩, ⟨(some 33), none, .move (.tmp 32)⟩, ⟨(some 34), (some (33, false)), .fieldAddr 24 (.tmp 1) 8⟩, ⟨(some 35), (some (33, false)), .load 22 (.tmp 34)⟩, ⟨(some 36), (some (33, false)), .call ⟨.builtin .len, #[.tmp 35], #[22]⟩⟩, ⟨(some 37), (some (33, false)), .binOp .gtr 3 (.tmp 36) (.const (.int .i64 60)) 3⟩, ⟨(some 38), none, .pick (.tmp 33) (.const (.bool true)) (.tmp 37)⟩])) (.cond (.tmp 38) (.seq (.region [⟨(some 2), none, .assign (.const (.string ⟨#[]⟩))⟩]) (.ret)) (.skip))) (.seq (.region [⟨(some 39), none, .fieldAddr 24 (.tmp 1) 0⟩, ⟨(some 40), none, .load 3 (.tmp 39)⟩, ⟨(some 41), none, .buildSlice 22 1 #[(0, .tmp 40)]⟩, ⟨(some 42), none, .call ⟨.value (.func 34), #[.const (.string ⟨#[49]⟩), .tmp 41], #[9, 22]⟩⟩, ⟨(some 3), none, .assign (.tmp 42)⟩]) (.seq (.region [⟨(some 43), none, .fieldAddr 24 (.tmp 1) 0⟩, ⟨(some 44), none, .load 3 (.tmp 43)⟩, ⟨(some 45), none, .call ⟨.value (.func 35), #[.tmp 44], #[3]⟩⟩, ⟨(some 4), none, .assign (.tmp 45)⟩]) (.seq (.seq (.region [⟨(some 5), none, .assign (.const (.int .i64 0))⟩]) (.block 0 (.loop (.seq .weak (.seq (.seq (.region [⟨(some 46), none, .move (.tmp 5)⟩, ⟨(some 47), none, .move (.tmp 4)⟩, ⟨(some 48), none, .call ⟨.builtin .len, #[.tmp 47], #[9]⟩⟩, ⟨(some 49), none, .binOp .lss 3 (.tmp 46) (.tmp 48) 3⟩]) (.cond (.tmp 49) (.skip) (.exit 0))) (.seq (.block 1 (.seq (.region [⟨(some 52), none, .move (.tmp 4)⟩, ⟨(some 53), none, .move (.tmp 5)⟩, ⟨(some 54), none, .index 9 (.tmp 52) (.tmp 53)⟩]) (.block 2 (.seq (.region [⟨(some 79), none, .binOp .eql 5 (.tmp 54) (.const (.int .u8 105)) 5⟩, ⟨(some 78), none, .assign (.tmp 79)⟩]) (.cond (.tmp 78) (.region [⟨(some 80), none, .move (.tmp 3)⟩, ⟨(some 81), none, .fieldAddr 24 (.tmp 1) 1⟩, ⟨(some 82), none, .load 3 (.tmp 81)⟩, ⟨(some 83), none, .buildSlice 22 1 #[(0, .tmp 82)]⟩, ⟨(some 84), none, .call ⟨.value (.func 34), #[.const (.string ⟨#[50]⟩), .tmp 83], #[9, 22]⟩⟩, ⟨(some 85), none, .binOp .add 9 (.tmp 80) (.tmp 84) 9⟩, ⟨(some 3), none, .assign (.tmp 85)⟩]) (.seq (.region [⟨(some 87), none, .binOp .eql 5 (.tmp 54) (.const (.int .u8 110)) 5⟩, ⟨(some 86), none, .assign (.tmp 87)⟩]) (.cond (.tmp 86) (.region [⟨(some 88), none, .move (.tmp 3)⟩, ⟨(some 89), none, .fieldAddr 24 (.tmp 1) 2⟩, ⟨(some 90), none, .load 3 (.tmp 89)⟩, ⟨(some 91), none, .buildSlice 22 1 #[(0, .tmp 90)]⟩, ⟨(some 92), none, .call ⟨.value (.func 34), #[.const (.string ⟨#[50]⟩), .tmp 91], #[9, 22]⟩⟩, ⟨(some 93), none, .binOp .add 9 (.tmp 88) (.tmp 92) 9⟩, ⟨(some 3), none, .assign (.tmp 93)⟩]) (.seq (.region [⟨(some 95), none, .binOp .eql 5 (.tmp 54) (.const (.int .u8 109)) 5⟩, ⟨(some 94), none, .assign (.tmp 95)⟩]) (.cond (.tmp 94) (.region [⟨(some 96), none, .move (.tmp 3)⟩, ⟨(some 97), none, .fieldAddr 24 (.tmp 1) 3⟩, ⟨(some 98), none, .load 3 (.tmp 97)⟩, ⟨(some 99), none, .buildSlice 22 1 #[(0, .tmp 98)]⟩, ⟨(some 100), none, .call ⟨.value (.func 34), #[.const (.string ⟨#[50]⟩), .tmp 99], #[9, 22]⟩⟩, ⟨(some 101), none, .binOp .add 9 (.tmp 96) (.tmp 100) 9⟩, ⟨(some 3), none, .assign (.tmp 101)⟩]) (.seq (.region [⟨(some 103), none, .binOp .eql 5 (.tmp 54) (.const (.int .u8 98)) 5⟩, ⟨(some 102), none, .assign (.tmp 103)⟩]) (.cond (.tmp 102) (.region [⟨(some 104), none, .move (.tmp 3)⟩, ⟨(some 105), none, .fieldAddr 24 (.tmp 1) 4⟩, ⟨(some 106), none, .load 3 (.tmp 105)⟩, ⟨(some 107), none, .buildSlice 22 1 #[(0, .tmp 106)]⟩, ⟨(some 108), none, .call ⟨.value (.func 34), #[.const (.string ⟨#[49]⟩), .tmp 107], #[9, 22]⟩⟩, ⟨(some 109), none, .binOp .add 9 (.tmp 104) (.tmp 108) 9⟩, ⟨(some 3), none, .assign (.tmp 109)⟩]) (.seq (.region [⟨(some 111), none, .binOp .eql 5 (.tmp 54) (.const (.int .u8 112)) 5⟩, ⟨(some 110), none, .assign (.tmp 111)⟩]) (.cond (.tmp 110) (.region [⟨(some 112), none, .move (.tmp 3)⟩, ⟨(some 113), none, .fieldAddr 24 (.tmp 1) 5⟩, ⟨(some 114), none, .load 9 (.tmp 113)⟩, ⟨(some 115), none, .call ⟨.value (.func 36), #[.tmp 114], #[9]⟩⟩, ⟨(some 116), none, .binOp .add 9 (.tmp 112) (.tmp 115) 9⟩, ⟨(some 3), none, .assign (.tmp 116)⟩]) (.seq (.region [⟨(some 118), none, .binOp .eql 5 (.tmp 54) (.const (.int .u8 116)) 5⟩, ⟨(some 117), none, .assign (.tmp 118)⟩]) (.cond (.tmp 117) (.region [⟨(some 119), none, .move (.tmp 3)⟩, ⟨(some 120), none, .fieldAddr 24 (.tmp 1) 6⟩, ⟨(some 121), none, .load 9 (.tmp 120)⟩, ⟨(some 122), none, .call ⟨.value (.func 36), #[.tmp 121], #[9]⟩⟩, ⟨(some 123), none, .binOp .add 9 (.tmp 119) (.tmp 122) 9⟩, ⟨(some 3), none, .assign (.tmp 123)⟩]) (.seq (.region [⟨(some 125), none, .binOp .eql 5 (.tmp 54) (.const (.int .u8 120)) 5⟩, ⟨(some 124), none, .assign (.tmp 125)⟩]) (.cond (.tmp 124) (.region [⟨(some 126), none, .move (.tmp 3)⟩, ⟨(some 127), none, .fieldAddr 24 (.tmp 1) 7⟩, ⟨(some 128), none, .load 9 (.tmp 127)⟩, ⟨(some 129), none, .call ⟨.value (.func 36), #[.tmp 128], #[9]⟩⟩, ⟨(some 130), none, .binOp .add 9 (.tmp 126) (.tmp 129) 9⟩, ⟨(some 3), none, .assign (.tmp 130)⟩]) (.seq (.region [⟨(some 55), none, .move (.tmp 3)⟩, ⟨(some 56), none, .fieldAddr 24 (.tmp 1) 8⟩, ⟨(some 57), none, .load 22 (.tmp 56)⟩, ⟨(some 58), none, .call ⟨.builtin .len, #[.tmp 57], #[22]⟩⟩, ⟨(some 59), none, .buildSlice 22 1 #[(0, .tmp 58)]⟩, ⟨(some 60), none, .call ⟨.value (.func 34), #[.const (.string ⟨#[49]⟩), .tmp 59], #[9, 22]⟩⟩, ⟨(some 61), none, .binOp .add 9 (.tmp 55) (.tmp 60) 9⟩, ⟨(some 3), none, .assign (.tmp 61)⟩]) (.seq (.region [⟨(some 6), none, .assign (.const (.int .i64 0))⟩]) (.block 3 (.loop (.seq .weak (.seq (.seq (.region [⟨(some 62), none, .move (.tmp 6)⟩, ⟨(some 63), none, .fieldAddr 24 (.tmp 1) 8⟩, ⟨(some 64), none, .load 22 (.tmp 63)⟩, ⟨(some 65), none, .call ⟨.builtin .len, #[.tmp 64], #[22]⟩⟩, ⟨(some 66), none, .binOp .lss 3 (.tmp 62) (.tmp 65) 3⟩]) (.cond (.tmp 66) (.skip) (.exit 3))) (.seq (.block 4 (.region [⟨(some 69), none, .move (.tmp 3)⟩, ⟨(some 70), none, .fieldAddr 24 (.tmp 1) 8⟩, ⟨(some 71), none, .load 22 (.tmp 70)⟩, ⟨(some 72), none, .move (.tmp 6)⟩, ⟨(some 73), none, .indexAddr 22 (.tmp 71) (.tmp 72)⟩, ⟨(some 74), none, .load 3 (.tmp 73)⟩, ⟨(some 75), none, .buildSlice 22 1 #[(0, .tmp 74)]⟩, ⟨(some 76), none, .call ⟨.value (.func 34), #[.const (.string ⟨#[49]⟩), .tmp 75], #[9, 22]⟩⟩, ⟨(some 77), none, .binOp .add 9 (.tmp 69) (.tmp 76) 9⟩, ⟨(some 3), none, .assign (.tmp 77)⟩])) (.region [⟨(some 67), none, .move (.tmp 6)⟩, ⟨(some 68), none, .binOp .add 3 (.tmp 67) (.const (.int .i64 1)) 3⟩, ⟨(some 6), none, .assign (.tmp 68)⟩]))))))))))))))))))))))))) (.region [⟨(some 50), none, .move (.tmp 5)⟩, ⟨(some 51), none, .binOp .add 3 (.tmp 50) (.const (.int .i64 1)) 3⟩, ⟨(some 5), none, .assign (.tmp 51)⟩]))))))) (.seq (.region [⟨(some 131), none, .move (.tmp 3)⟩, ⟨(some 2), none, .assign (.tmp 131)⟩]) (.ret))))))
noncomputable def l_ref25_putStep : List (Nat × Con) := [(34, c_ref1_Put), (35, c_ref25_fields), (36, c_ref25_say)]
noncomputable abbrev K_ref25_putStep : Ctx := ctx (cl l_ref25_putStep)
theorem geq_ref25_putStep : gof K_ref25_putStep Try.f24 = some G_ref25_putStep.strip := by kernel_rfl
theorem sys_ref25_putStep : Go.Eng.Sys Try.prog K_ref25_putStep := sys_of' ⟨ok_ref1_Put, ok_ref25_fields, ok_ref25_say, trivial⟩
theorem hm_ref25_putStep : ConMono K_ref25_putStep := conMono_of sys_ref25_putStep.con
noncomputable def k_ref25_putStep_ref1_Put := PLift.up (call_scal (C := K_ref25_putStep) (f := 34) (A := A_ref1_Put) (p := p_ref1_Put) (r := r_ref1_Put) rfl)
noncomputable def k_ref25_putStep_ref25_fields := PLift.up (call_scal (C := K_ref25_putStep) (f := 35) (A := A_ref25_fields) (p := p_ref25_fields) (r := r_ref25_fields) rfl)
noncomputable def k_ref25_putStep_ref25_say := PLift.up (call_scal (C := K_ref25_putStep) (f := 36) (A := A_ref25_say) (p := p_ref25_say) (r := r_ref25_say) rfl)
def A_ref25_putStep := Arms.cons (argA TStep) Arms.nil
def p_ref25_putStep (x : TStep × Unit) : Prop := True
def r_ref25_putStep (x : TStep × Unit) : AV := .t (.str (rputB x.1))
theorem chr_fst {f : Int} (c : UInt8) (h : chr f = c) : ((chr f).toNat : Int) = (c.toNat : Int) := by rw [h]
set_option maxRecDepth 10000 in
set_option maxHeartbeats 4000000 in
theorem body_ref25_putStep (x : TStep × Unit) (hp : p_ref25_putStep x) : avp K_ref25_putStep G_ref25_putStep (Ret K_ref25_putStep [.tmp 2] fun v _ => v = r_ref25_putStep x) (entry (A_ref25_putStep.enc x) .empty) := by
  obtain ⟨x, ⟨⟩⟩ := x
  change avp _ _ (Ret _ _ fun v _ => v = .t (.str (rputB x))) (entry [.agg ((stT x).map .t)] .empty)
  unfold G_ref25_putStep stT
  simp only [vP.down, vS.down, vE.down, Nat.reduceEqDiff, Nat.reduceAdd, Nat.reduceSub, Nat.reduceMul, Nat.reduceLeDiff, Nat.reduceLT, Int.reduceToNat, reduceIte, reduceCtorEq, Int.reduceEq, Int.reduceLT, Int.reduceLE, ↓avp_condG, ↓tf_arrow, ↓ft_arrow]
  intro g hg
  refine weak_at [(1, .imm (stT x))] .empty fewer_empty (by
    unfold stT; simp only [vP.down, vS.down, vE.down, Nat.reduceEqDiff, Nat.reduceAdd, Nat.reduceSub, Nat.reduceMul, Nat.reduceLeDiff, Nat.reduceLT, Int.reduceToNat, reduceIte, reduceCtorEq, Int.reduceEq, Int.reduceLT, Int.reduceLE, ↓avp_condG, ↓tf_arrow, ↓ft_arrow, wP.down]
    exact w2_imm (l := stT x) (ro := false) (Store.set_same _ _ _) rfl) ?_
  unfold stT
  by_cases c1 : x.Kind < 1
  · have e : rputB x = [] := if_pos (by omega)
    rw [e]
    simp only [vP.down, vS.down, vE.down, Nat.reduceEqDiff, Nat.reduceAdd, Nat.reduceSub, Nat.reduceMul, Nat.reduceLeDiff, Nat.reduceLT, Int.reduceToNat, reduceIte, reduceCtorEq, Int.reduceEq, Int.reduceLT, Int.reduceLE, ↓avp_condG, ↓tf_arrow, ↓ft_arrow, c1, pick_of, pick_ot, gt_iff_lt]
    simp only [vP.down, vS.down, vE.down, Nat.reduceEqDiff, Nat.reduceAdd, Nat.reduceSub, Nat.reduceMul, Nat.reduceLeDiff, Nat.reduceLT, Int.reduceToNat, reduceIte, reduceCtorEq, Int.reduceEq, Int.reduceLT, Int.reduceLE, ↓avp_condG, ↓tf_arrow, ↓ft_arrow, vT.down]
  by_cases c2 : 22 < x.Kind
  · have e : rputB x = [] := if_pos (by omega)
    rw [e]
    simp only [vP.down, vS.down, vE.down, Nat.reduceEqDiff, Nat.reduceAdd, Nat.reduceSub, Nat.reduceMul, Nat.reduceLeDiff, Nat.reduceLT, Int.reduceToNat, reduceIte, reduceCtorEq, Int.reduceEq, Int.reduceLT, Int.reduceLE, ↓avp_condG, ↓tf_arrow, ↓ft_arrow, c1, c2, pick_of, pick_ot, gt_iff_lt]
    simp only [vP.down, vS.down, vE.down, Nat.reduceEqDiff, Nat.reduceAdd, Nat.reduceSub, Nat.reduceMul, Nat.reduceLeDiff, Nat.reduceLT, Int.reduceToNat, reduceIte, reduceCtorEq, Int.reduceEq, Int.reduceLT, Int.reduceLE, ↓avp_condG, ↓tf_arrow, ↓ft_arrow, vT.down]
  by_cases c3 : (255 : Int) < (x.Path.length : Int)
  · have e : rputB x = [] := if_pos (by omega)
    rw [e]
    simp only [vP.down, vS.down, vE.down, Nat.reduceEqDiff, Nat.reduceAdd, Nat.reduceSub, Nat.reduceMul, Nat.reduceLeDiff, Nat.reduceLT, Int.reduceToNat, reduceIte, reduceCtorEq, Int.reduceEq, Int.reduceLT, Int.reduceLE, ↓avp_condG, ↓tf_arrow, ↓ft_arrow, c1, c2, c3, pick_of, pick_ot, gt_iff_lt]
    simp only [vP.down, vS.down, vE.down, Nat.reduceEqDiff, Nat.reduceAdd, Nat.reduceSub, Nat.reduceMul, Nat.reduceLeDiff, Nat.reduceLT, Int.reduceToNat, reduceIte, reduceCtorEq, Int.reduceEq, Int.reduceLT, Int.reduceLE, ↓avp_condG, ↓tf_arrow, ↓ft_arrow, vT.down]
  by_cases c4 : (255 : Int) < (x.To.length : Int)
  · have e : rputB x = [] := if_pos (by omega)
    rw [e]
    simp only [vP.down, vS.down, vE.down, Nat.reduceEqDiff, Nat.reduceAdd, Nat.reduceSub, Nat.reduceMul, Nat.reduceLeDiff, Nat.reduceLT, Int.reduceToNat, reduceIte, reduceCtorEq, Int.reduceEq, Int.reduceLT, Int.reduceLE, ↓avp_condG, ↓tf_arrow, ↓ft_arrow, c1, c2, c3, c4, pick_of, pick_ot, gt_iff_lt]
    simp only [vP.down, vS.down, vE.down, Nat.reduceEqDiff, Nat.reduceAdd, Nat.reduceSub, Nat.reduceMul, Nat.reduceLeDiff, Nat.reduceLT, Int.reduceToNat, reduceIte, reduceCtorEq, Int.reduceEq, Int.reduceLT, Int.reduceLE, ↓avp_condG, ↓tf_arrow, ↓ft_arrow, vT.down]
  by_cases c5 : (255 : Int) < (x.Text.length : Int)
  · have e : rputB x = [] := if_pos (by omega)
    rw [e]
    simp only [vP.down, vS.down, vE.down, Nat.reduceEqDiff, Nat.reduceAdd, Nat.reduceSub, Nat.reduceMul, Nat.reduceLeDiff, Nat.reduceLT, Int.reduceToNat, reduceIte, reduceCtorEq, Int.reduceEq, Int.reduceLT, Int.reduceLE, ↓avp_condG, ↓tf_arrow, ↓ft_arrow, c1, c2, c3, c4, c5, pick_of, pick_ot, gt_iff_lt]
    simp only [vP.down, vS.down, vE.down, Nat.reduceEqDiff, Nat.reduceAdd, Nat.reduceSub, Nat.reduceMul, Nat.reduceLeDiff, Nat.reduceLT, Int.reduceToNat, reduceIte, reduceCtorEq, Int.reduceEq, Int.reduceLT, Int.reduceLE, ↓avp_condG, ↓tf_arrow, ↓ft_arrow, vT.down]
  by_cases c6 : (60 : Int) < (x.Keep.length : Int)
  · have e : rputB x = [] := if_pos (by omega)
    rw [e]
    simp only [vP.down, vS.down, vE.down, Nat.reduceEqDiff, Nat.reduceAdd, Nat.reduceSub, Nat.reduceMul, Nat.reduceLeDiff, Nat.reduceLT, Int.reduceToNat, reduceIte, reduceCtorEq, Int.reduceEq, Int.reduceLT, Int.reduceLE, ↓avp_condG, ↓tf_arrow, ↓ft_arrow, c1, c2, c3, c4, c5, c6, pick_of, pick_ot, gt_iff_lt]
    simp only [vP.down, vS.down, vE.down, Nat.reduceEqDiff, Nat.reduceAdd, Nat.reduceSub, Nat.reduceMul, Nat.reduceLeDiff, Nat.reduceLT, Int.reduceToNat, reduceIte, reduceCtorEq, Int.reduceEq, Int.reduceLT, Int.reduceLE, ↓avp_condG, ↓tf_arrow, ↓ft_arrow, vT.down]
  have hi : inL x := ⟨by omega, by omega, by omega, by omega⟩
  have e : rputB x = putB x := if_neg (by omega)
  rw [e]
  have hcl : ((fldL x.Kind).map chr).length = (fldL x.Kind).length := List.length_map ..
  have hfl := fldL_len x.Kind
  have hF : ∀ f, (putFld x f).length ≤ 257 := fun f => by
    unfold putFld
    have hw : wd f ≤ 2 := by unfold wd; split <;> omega
    split
    · rw [putF_f, be_len]; omega
    · rename_i h3
      have hw1 := wd_one (f := f) (by omega)
      split
      · rename_i h7
        subst h7
        rw [List.length_append, putF_f, be_len, keepB_len]; have := hi.2.2.2; omega
      · rw [List.length_append, putF_f, be_len]; have := getX_len hi f; omega
  have hB : ∀ fs : List Int, ((fs.map (putFld x)).flatten).length ≤ 257 * fs.length := by
    intro fs
    induction fs with
    | nil => simp
    | cons f r ih => rw [List.map_cons, List.flatten_cons, List.length_append, List.length_cons]; have := hF f; omega
  simp only [vP.down, vS.down, vE.down, Nat.reduceEqDiff, Nat.reduceAdd, Nat.reduceSub, Nat.reduceMul, Nat.reduceLeDiff, Nat.reduceLT, Int.reduceToNat, reduceIte, reduceCtorEq, Int.reduceEq, Int.reduceLT, Int.reduceLE, ↓avp_condG, ↓tf_arrow, ↓ft_arrow, c1, c2, c3, c4, c5, c6, gt_iff_lt, k_ref25_putStep_ref1_Put.down, A_ref1_Put, p_ref1_Put, r_ref1_Put, k_ref25_putStep_ref25_fields.down, A_ref25_fields, p_ref25_fields, r_ref25_fields]
  ((repeat' with_reducible refine And.intro ?_ ?_) <;> try (first | omega | (simp only [List.length_take, List.length_drop, List.length_append, List.length_map, List.length_replicate] <;> omega)))
  intro g3 hg3
  ((repeat' with_reducible refine And.intro ?_ ?_) <;> try (first | omega | (simp only [List.length_take, List.length_drop, List.length_append, List.length_map, List.length_replicate] <;> omega)))
  refine loop_weak hm_ref25_putStep (fun m σ => ∃ i : Nat, m = (fldL x.Kind).length - i ∧ i ≤ (fldL x.Kind).length ∧
    σ = mkS [(1, .imm (stT x)), (3, .t (.str (putF [49] [x.Kind] ++ (((fldL x.Kind).take i).map (putFld x)).flatten))), (4, .t (.str ((fldL x.Kind).map chr))), (5, .t (.int .i64 (i : Nat)))] .empty)
    ⟨0, rfl, by omega, rfl⟩ (wk_to fewer_empty (by unfold stT; simp only [vP.down, vS.down, vE.down, Nat.reduceEqDiff, Nat.reduceAdd, Nat.reduceSub, Nat.reduceMul, Nat.reduceLeDiff, Nat.reduceLT, Int.reduceToNat, reduceIte, reduceCtorEq, Int.reduceEq, Int.reduceLT, Int.reduceLE, ↓avp_condG, ↓tf_arrow, ↓ft_arrow, wP.down, List.take_zero, List.flatten_nil, Int.natCast_zero])) ?_
  rintro m _ ⟨i, rfl, hi2, rfl⟩
  unfold stT
  have hi1 : IntKind.i64.wrap ((i : Int) + 1) = ((i + 1 : Nat) : Int) := by rw [IntWalk.i64_in _ (by omega)]; rfl
  by_cases hlt : i < (fldL x.Kind).length
  case neg =>
    obtain rfl : i = (fldL x.Kind).length := by omega
    have hge : ¬ (((fldL x.Kind).length : Int) < ((fldL x.Kind).length : Int)) := by omega
    simp only [vP.down, vS.down, vE.down, Nat.reduceEqDiff, Nat.reduceAdd, Nat.reduceSub, Nat.reduceMul, Nat.reduceLeDiff, Nat.reduceLT, Int.reduceToNat, reduceIte, reduceCtorEq, Int.reduceEq, Int.reduceLT, Int.reduceLE, ↓avp_condG, ↓tf_arrow, ↓ft_arrow, hcl, hge, List.take_length]
    simp only [vP.down, vS.down, vE.down, Nat.reduceEqDiff, Nat.reduceAdd, Nat.reduceSub, Nat.reduceMul, Nat.reduceLeDiff, Nat.reduceLT, Int.reduceToNat, reduceIte, reduceCtorEq, Int.reduceEq, Int.reduceLT, Int.reduceLE, ↓avp_condG, ↓tf_arrow, ↓ft_arrow, vT.down]
    rfl
  have hlt' : (i : Int) < ((fldL x.Kind).length : Int) := by omega
  obtain ⟨f, hf⟩ : ∃ f, f = (fldL x.Kind).getD i default := ⟨_, rfl⟩
  have hmem : f ∈ fldL x.Kind := by rw [hf, List.getD_eq_getElem?_getD, List.getElem?_eq_getElem hlt]; exact List.getElem_mem _
  have hbd := fldL_mem hmem
  have hch := chr_at hlt
  rw [← hf] at hch
  have hchI : ∀ u : Int, ((chr f).toNat : Int) = u → ((((fldL x.Kind).map chr).getD i 0).toNat : Int) = u := fun u h => by rw [hch]; exact h
  have hst := take_map_flat (putFld x) hlt
  rw [← hf] at hst
  have hp1 := hB ((fldL x.Kind).take i)
  rw [List.length_take] at hp1
  have hp2 := hF f
  obtain ⟨acc, hacc⟩ : ∃ acc, acc = putF [49] [x.Kind] ++ (((fldL x.Kind).take i).map (putFld x)).flatten := ⟨_, rfl⟩
  have hal : acc.length ≤ 2000 := by rw [hacc, List.length_append, putF1, be_len]; omega
  have hnx : putF [49] [x.Kind] ++ (((fldL x.Kind).take (i + 1)).map (putFld x)).flatten = acc ++ putFld x f := by rw [hst, hacc, List.append_assoc]
  rw [← hacc]
  have hl4 : ∀ w, (putF [49] [w]).length = 1 := fun w => by rw [putF1, be_len]
  have hl5 : ∀ w, (putF [50] [w]).length = 2 := fun w => by rw [show putF [50] [w] = putF (fm 0) [w] from rfl, putF_f, be_len]; rfl
  have : f = 0 ∨ f = 1 ∨ f = 2 ∨ f = 3 ∨ f = 4 ∨ f = 5 ∨ f = 6 ∨ f = 7 := by omega
  rcases this with rfl | rfl | rfl | rfl | rfl | rfl | rfl | rfl
  · have hci := hchI 105 rfl
    have hpf : putFld x 0 = putF [50] [x.ID] := rfl
    have hle := hl4 x.By
    have hle2 := hl5 (getN x 0)
    change (putF [50] [x.ID]).length = _ at hle2
    simp only [vP.down, vS.down, vE.down, Nat.reduceEqDiff, Nat.reduceAdd, Nat.reduceSub, Nat.reduceMul, Nat.reduceLeDiff, Nat.reduceLT, Int.reduceToNat, reduceIte, reduceCtorEq, Int.reduceEq, Int.reduceLT, Int.reduceLE, ↓avp_condG, ↓tf_arrow, ↓ft_arrow, hcl, hlt', hci, k_ref25_putStep_ref1_Put.down, A_ref1_Put, p_ref1_Put, r_ref1_Put]
    ((repeat' with_reducible refine And.intro ?_ ?_) <;> try (first | omega | (simp only [List.length_take, List.length_drop, List.length_append, List.length_map, List.length_replicate] <;> omega)))
    intro g9 hg9
    ((repeat' with_reducible refine And.intro ?_ ?_) <;> try (first | omega | (simp only [List.length_take, List.length_drop, List.length_append, List.length_map, List.length_replicate] <;> omega)))
    exact round_to ((fldL x.Kind).length - (i + 1)) [(1, .imm (stT x)), (3, .t (.str (putF [49] [x.Kind] ++ (((fldL x.Kind).take (i + 1)).map (putFld x)).flatten))), (4, .t (.str ((fldL x.Kind).map chr))), (5, .t (.int .i64 (i + 1 : Nat)))] .empty (by omega) fewer_empty (by unfold stT; simp only [vP.down, vS.down, vE.down, Nat.reduceEqDiff, Nat.reduceAdd, Nat.reduceSub, Nat.reduceMul, Nat.reduceLeDiff, Nat.reduceLT, Int.reduceToNat, reduceIte, reduceCtorEq, Int.reduceEq, Int.reduceLT, Int.reduceLE, ↓avp_condG, ↓tf_arrow, ↓ft_arrow, wP.down, hi1, hnx, hpf]) ⟨i + 1, rfl, hlt, rfl⟩
  · have hci := hchI 110 rfl
    have hpf : putFld x 1 = putF [50] [x.N] := rfl
    have hle := hl4 x.By
    have hle2 := hl5 (getN x 1)
    change (putF [50] [x.N]).length = _ at hle2
    simp only [vP.down, vS.down, vE.down, Nat.reduceEqDiff, Nat.reduceAdd, Nat.reduceSub, Nat.reduceMul, Nat.reduceLeDiff, Nat.reduceLT, Int.reduceToNat, reduceIte, reduceCtorEq, Int.reduceEq, Int.reduceLT, Int.reduceLE, ↓avp_condG, ↓tf_arrow, ↓ft_arrow, hcl, hlt', hci, k_ref25_putStep_ref1_Put.down, A_ref1_Put, p_ref1_Put, r_ref1_Put]
    ((repeat' with_reducible refine And.intro ?_ ?_) <;> try (first | omega | (simp only [List.length_take, List.length_drop, List.length_append, List.length_map, List.length_replicate] <;> omega)))
    intro g9 hg9
    ((repeat' with_reducible refine And.intro ?_ ?_) <;> try (first | omega | (simp only [List.length_take, List.length_drop, List.length_append, List.length_map, List.length_replicate] <;> omega)))
    exact round_to ((fldL x.Kind).length - (i + 1)) [(1, .imm (stT x)), (3, .t (.str (putF [49] [x.Kind] ++ (((fldL x.Kind).take (i + 1)).map (putFld x)).flatten))), (4, .t (.str ((fldL x.Kind).map chr))), (5, .t (.int .i64 (i + 1 : Nat)))] .empty (by omega) fewer_empty (by unfold stT; simp only [vP.down, vS.down, vE.down, Nat.reduceEqDiff, Nat.reduceAdd, Nat.reduceSub, Nat.reduceMul, Nat.reduceLeDiff, Nat.reduceLT, Int.reduceToNat, reduceIte, reduceCtorEq, Int.reduceEq, Int.reduceLT, Int.reduceLE, ↓avp_condG, ↓tf_arrow, ↓ft_arrow, wP.down, hi1, hnx, hpf]) ⟨i + 1, rfl, hlt, rfl⟩
  · have hci := hchI 109 rfl
    have hpf : putFld x 2 = putF [50] [x.M] := rfl
    have hle := hl4 x.By
    have hle2 := hl5 (getN x 2)
    change (putF [50] [x.M]).length = _ at hle2
    simp only [vP.down, vS.down, vE.down, Nat.reduceEqDiff, Nat.reduceAdd, Nat.reduceSub, Nat.reduceMul, Nat.reduceLeDiff, Nat.reduceLT, Int.reduceToNat, reduceIte, reduceCtorEq, Int.reduceEq, Int.reduceLT, Int.reduceLE, ↓avp_condG, ↓tf_arrow, ↓ft_arrow, hcl, hlt', hci, k_ref25_putStep_ref1_Put.down, A_ref1_Put, p_ref1_Put, r_ref1_Put]
    ((repeat' with_reducible refine And.intro ?_ ?_) <;> try (first | omega | (simp only [List.length_take, List.length_drop, List.length_append, List.length_map, List.length_replicate] <;> omega)))
    intro g9 hg9
    ((repeat' with_reducible refine And.intro ?_ ?_) <;> try (first | omega | (simp only [List.length_take, List.length_drop, List.length_append, List.length_map, List.length_replicate] <;> omega)))
    exact round_to ((fldL x.Kind).length - (i + 1)) [(1, .imm (stT x)), (3, .t (.str (putF [49] [x.Kind] ++ (((fldL x.Kind).take (i + 1)).map (putFld x)).flatten))), (4, .t (.str ((fldL x.Kind).map chr))), (5, .t (.int .i64 (i + 1 : Nat)))] .empty (by omega) fewer_empty (by unfold stT; simp only [vP.down, vS.down, vE.down, Nat.reduceEqDiff, Nat.reduceAdd, Nat.reduceSub, Nat.reduceMul, Nat.reduceLeDiff, Nat.reduceLT, Int.reduceToNat, reduceIte, reduceCtorEq, Int.reduceEq, Int.reduceLT, Int.reduceLE, ↓avp_condG, ↓tf_arrow, ↓ft_arrow, wP.down, hi1, hnx, hpf]) ⟨i + 1, rfl, hlt, rfl⟩
  · have hci := hchI 98 rfl
    have hpf : putFld x 3 = putF [49] [x.By] := rfl
    have hle := hl4 x.By
    have hle2 := hl5 (getN x 3)
    change (putF [49] [x.By]).length = _ at hle
    simp only [vP.down, vS.down, vE.down, Nat.reduceEqDiff, Nat.reduceAdd, Nat.reduceSub, Nat.reduceMul, Nat.reduceLeDiff, Nat.reduceLT, Int.reduceToNat, reduceIte, reduceCtorEq, Int.reduceEq, Int.reduceLT, Int.reduceLE, ↓avp_condG, ↓tf_arrow, ↓ft_arrow, hcl, hlt', hci, k_ref25_putStep_ref1_Put.down, A_ref1_Put, p_ref1_Put, r_ref1_Put]
    ((repeat' with_reducible refine And.intro ?_ ?_) <;> try (first | omega | (simp only [List.length_take, List.length_drop, List.length_append, List.length_map, List.length_replicate] <;> omega)))
    intro g9 hg9
    ((repeat' with_reducible refine And.intro ?_ ?_) <;> try (first | omega | (simp only [List.length_take, List.length_drop, List.length_append, List.length_map, List.length_replicate] <;> omega)))
    exact round_to ((fldL x.Kind).length - (i + 1)) [(1, .imm (stT x)), (3, .t (.str (putF [49] [x.Kind] ++ (((fldL x.Kind).take (i + 1)).map (putFld x)).flatten))), (4, .t (.str ((fldL x.Kind).map chr))), (5, .t (.int .i64 (i + 1 : Nat)))] .empty (by omega) fewer_empty (by unfold stT; simp only [vP.down, vS.down, vE.down, Nat.reduceEqDiff, Nat.reduceAdd, Nat.reduceSub, Nat.reduceMul, Nat.reduceLeDiff, Nat.reduceLT, Int.reduceToNat, reduceIte, reduceCtorEq, Int.reduceEq, Int.reduceLT, Int.reduceLE, ↓avp_condG, ↓tf_arrow, ↓ft_arrow, wP.down, hi1, hnx, hpf]) ⟨i + 1, rfl, hlt, rfl⟩
  · have hci := hchI 112 rfl
    have hpf : putFld x 4 = putF [49] [(x.Path.length : Int)] ++ x.Path := rfl
    have hle := hl4 (x.Path.length : Int)
    have hsz : x.Path.length ≤ 1099511627776 := by omega
    simp only [vP.down, vS.down, vE.down, Nat.reduceEqDiff, Nat.reduceAdd, Nat.reduceSub, Nat.reduceMul, Nat.reduceLeDiff, Nat.reduceLT, Int.reduceToNat, reduceIte, reduceCtorEq, Int.reduceEq, Int.reduceLT, Int.reduceLE, ↓avp_condG, ↓tf_arrow, ↓ft_arrow, hcl, hlt', hci, k_ref25_putStep_ref25_say.down, A_ref25_say, p_ref25_say, r_ref25_say, hsz]
    ((repeat' with_reducible refine And.intro ?_ ?_) <;> try (first | omega | (simp only [List.length_take, List.length_drop, List.length_append, List.length_map, List.length_replicate] <;> omega)))
    exact round_to ((fldL x.Kind).length - (i + 1)) [(1, .imm (stT x)), (3, .t (.str (putF [49] [x.Kind] ++ (((fldL x.Kind).take (i + 1)).map (putFld x)).flatten))), (4, .t (.str ((fldL x.Kind).map chr))), (5, .t (.int .i64 (i + 1 : Nat)))] .empty (by omega) fewer_empty (by unfold stT; simp only [vP.down, vS.down, vE.down, Nat.reduceEqDiff, Nat.reduceAdd, Nat.reduceSub, Nat.reduceMul, Nat.reduceLeDiff, Nat.reduceLT, Int.reduceToNat, reduceIte, reduceCtorEq, Int.reduceEq, Int.reduceLT, Int.reduceLE, ↓avp_condG, ↓tf_arrow, ↓ft_arrow, wP.down, hi1, hnx, hpf]) ⟨i + 1, rfl, hlt, rfl⟩
  · have hci := hchI 116 rfl
    have hpf : putFld x 5 = putF [49] [(x.To.length : Int)] ++ x.To := rfl
    have hle := hl4 (x.To.length : Int)
    have hsz : x.To.length ≤ 1099511627776 := by omega
    simp only [vP.down, vS.down, vE.down, Nat.reduceEqDiff, Nat.reduceAdd, Nat.reduceSub, Nat.reduceMul, Nat.reduceLeDiff, Nat.reduceLT, Int.reduceToNat, reduceIte, reduceCtorEq, Int.reduceEq, Int.reduceLT, Int.reduceLE, ↓avp_condG, ↓tf_arrow, ↓ft_arrow, hcl, hlt', hci, k_ref25_putStep_ref25_say.down, A_ref25_say, p_ref25_say, r_ref25_say, hsz]
    ((repeat' with_reducible refine And.intro ?_ ?_) <;> try (first | omega | (simp only [List.length_take, List.length_drop, List.length_append, List.length_map, List.length_replicate] <;> omega)))
    exact round_to ((fldL x.Kind).length - (i + 1)) [(1, .imm (stT x)), (3, .t (.str (putF [49] [x.Kind] ++ (((fldL x.Kind).take (i + 1)).map (putFld x)).flatten))), (4, .t (.str ((fldL x.Kind).map chr))), (5, .t (.int .i64 (i + 1 : Nat)))] .empty (by omega) fewer_empty (by unfold stT; simp only [vP.down, vS.down, vE.down, Nat.reduceEqDiff, Nat.reduceAdd, Nat.reduceSub, Nat.reduceMul, Nat.reduceLeDiff, Nat.reduceLT, Int.reduceToNat, reduceIte, reduceCtorEq, Int.reduceEq, Int.reduceLT, Int.reduceLE, ↓avp_condG, ↓tf_arrow, ↓ft_arrow, wP.down, hi1, hnx, hpf]) ⟨i + 1, rfl, hlt, rfl⟩
  · have hci := hchI 120 rfl
    have hpf : putFld x 6 = putF [49] [(x.Text.length : Int)] ++ x.Text := rfl
    have hle := hl4 (x.Text.length : Int)
    have hsz : x.Text.length ≤ 1099511627776 := by omega
    simp only [vP.down, vS.down, vE.down, Nat.reduceEqDiff, Nat.reduceAdd, Nat.reduceSub, Nat.reduceMul, Nat.reduceLeDiff, Nat.reduceLT, Int.reduceToNat, reduceIte, reduceCtorEq, Int.reduceEq, Int.reduceLT, Int.reduceLE, ↓avp_condG, ↓tf_arrow, ↓ft_arrow, hcl, hlt', hci, k_ref25_putStep_ref25_say.down, A_ref25_say, p_ref25_say, r_ref25_say, hsz]
    ((repeat' with_reducible refine And.intro ?_ ?_) <;> try (first | omega | (simp only [List.length_take, List.length_drop, List.length_append, List.length_map, List.length_replicate] <;> omega)))
    exact round_to ((fldL x.Kind).length - (i + 1)) [(1, .imm (stT x)), (3, .t (.str (putF [49] [x.Kind] ++ (((fldL x.Kind).take (i + 1)).map (putFld x)).flatten))), (4, .t (.str ((fldL x.Kind).map chr))), (5, .t (.int .i64 (i + 1 : Nat)))] .empty (by omega) fewer_empty (by unfold stT; simp only [vP.down, vS.down, vE.down, Nat.reduceEqDiff, Nat.reduceAdd, Nat.reduceSub, Nat.reduceMul, Nat.reduceLeDiff, Nat.reduceLT, Int.reduceToNat, reduceIte, reduceCtorEq, Int.reduceEq, Int.reduceLT, Int.reduceLE, ↓avp_condG, ↓tf_arrow, ↓ft_arrow, wP.down, hi1, hnx, hpf]) ⟨i + 1, rfl, hlt, rfl⟩
  · have hci := hchI 107 rfl
    have hpf : putFld x 7 = putF [49] [(x.Keep.length : Int)] ++ (x.Keep.map fun k => putF [49] [k]).flatten := rfl
    have hkl : ∀ l : List Int, ((l.map fun k => putF [49] [k]).flatten).length = l.length := keepB_len
    have hle := hl4 (x.Keep.length : Int)
    simp only [vP.down, vS.down, vE.down, Nat.reduceEqDiff, Nat.reduceAdd, Nat.reduceSub, Nat.reduceMul, Nat.reduceLeDiff, Nat.reduceLT, Int.reduceToNat, reduceIte, reduceCtorEq, Int.reduceEq, Int.reduceLT, Int.reduceLE, ↓avp_condG, ↓tf_arrow, ↓ft_arrow, hcl, hlt', hci, k_ref25_putStep_ref1_Put.down, A_ref1_Put, p_ref1_Put, r_ref1_Put]
    ((repeat' with_reducible refine And.intro ?_ ?_) <;> try (first | omega | (simp only [List.length_take, List.length_drop, List.length_append, List.length_map, List.length_replicate] <;> omega)))
    intro g9 hg9
    ((repeat' with_reducible refine And.intro ?_ ?_) <;> try (first | omega | (simp only [List.length_take, List.length_drop, List.length_append, List.length_map, List.length_replicate] <;> omega)))
    refine loop_weak hm_ref25_putStep (fun m σ => ∃ j : Nat, m = x.Keep.length - j ∧ j ≤ x.Keep.length ∧
      σ = mkS [(1, .imm (stT x)), (3, .t (.str (acc ++ (putF [49] [(x.Keep.length : Int)] ++ ((x.Keep.take j).map fun k => putF [49] [k]).flatten)))), (4, .t (.str ((fldL x.Kind).map chr))), (5, .t (.int .i64 (i : Nat))), (6, .t (.int .i64 (j : Nat)))] .empty)
      ⟨0, rfl, by omega, rfl⟩ (wk_to fewer_empty (by unfold stT; simp only [vP.down, vS.down, vE.down, Nat.reduceEqDiff, Nat.reduceAdd, Nat.reduceSub, Nat.reduceMul, Nat.reduceLeDiff, Nat.reduceLT, Int.reduceToNat, reduceIte, reduceCtorEq, Int.reduceEq, Int.reduceLT, Int.reduceLE, ↓avp_condG, ↓tf_arrow, ↓ft_arrow, wP.down, List.take_zero, List.flatten_nil, Int.natCast_zero])) ?_
    rintro m _ ⟨j, rfl, hj, rfl⟩
    unfold stT
    have hj1 : IntKind.i64.wrap ((j : Int) + 1) = ((j + 1 : Nat) : Int) := by rw [IntWalk.i64_in _ (by omega)]; rfl
    by_cases hlj : j < x.Keep.length
    case neg =>
      obtain rfl : j = x.Keep.length := by omega
      have hge : ¬ ((x.Keep.length : Int) < (x.Keep.length : Int)) := by omega
      simp only [vP.down, vS.down, vE.down, Nat.reduceEqDiff, Nat.reduceAdd, Nat.reduceSub, Nat.reduceMul, Nat.reduceLeDiff, Nat.reduceLT, Int.reduceToNat, reduceIte, reduceCtorEq, Int.reduceEq, Int.reduceLT, Int.reduceLE, ↓avp_condG, ↓tf_arrow, ↓ft_arrow, hge, List.take_length]
      exact round_to ((fldL x.Kind).length - (i + 1)) [(1, .imm (stT x)), (3, .t (.str (putF [49] [x.Kind] ++ (((fldL x.Kind).take (i + 1)).map (putFld x)).flatten))), (4, .t (.str ((fldL x.Kind).map chr))), (5, .t (.int .i64 (i + 1 : Nat)))] .empty (by omega) fewer_empty (by unfold stT; simp only [vP.down, vS.down, vE.down, Nat.reduceEqDiff, Nat.reduceAdd, Nat.reduceSub, Nat.reduceMul, Nat.reduceLeDiff, Nat.reduceLT, Int.reduceToNat, reduceIte, reduceCtorEq, Int.reduceEq, Int.reduceLT, Int.reduceLE, ↓avp_condG, ↓tf_arrow, ↓ft_arrow, wP.down, hi1, hnx, hpf]) ⟨i + 1, rfl, hlt, rfl⟩
    have hlj' : (j : Int) < (x.Keep.length : Int) := by omega
    have hk2 := hkl (x.Keep.take j)
    rw [List.length_take] at hk2
    have hk3 := hl4 (x.Keep.getD j default)
    have hmm := take_map_flat (fun k => putF [49] [k]) hlj
    simp only [vP.down, vS.down, vE.down, Nat.reduceEqDiff, Nat.reduceAdd, Nat.reduceSub, Nat.reduceMul, Nat.reduceLeDiff, Nat.reduceLT, Int.reduceToNat, reduceIte, reduceCtorEq, Int.reduceEq, Int.reduceLT, Int.reduceLE, ↓avp_condG, ↓tf_arrow, ↓ft_arrow, hlj', k_ref25_putStep_ref1_Put.down, A_ref1_Put, p_ref1_Put, r_ref1_Put]
    ((repeat' with_reducible refine And.intro ?_ ?_) <;> try (first | omega | (simp only [List.length_take, List.length_drop, List.length_append, List.length_map, List.length_replicate] <;> omega)))
    intro g8 hg8
    ((repeat' with_reducible refine And.intro ?_ ?_) <;> try (first | omega | (simp only [List.length_take, List.length_drop, List.length_append, List.length_map, List.length_replicate] <;> omega)))

    exact round_to (x.Keep.length - (j + 1)) [(1, .imm (stT x)), (3, .t (.str (acc ++ (putF [49] [(x.Keep.length : Int)] ++ ((x.Keep.take (j + 1)).map fun k => putF [49] [k]).flatten)))), (4, .t (.str ((fldL x.Kind).map chr))), (5, .t (.int .i64 (i : Nat))), (6, .t (.int .i64 (j + 1 : Nat)))] .empty (by omega) fewer_empty (by unfold stT; simp only [vP.down, vS.down, vE.down, Nat.reduceEqDiff, Nat.reduceAdd, Nat.reduceSub, Nat.reduceMul, Nat.reduceLeDiff, Nat.reduceLT, Int.reduceToNat, reduceIte, reduceCtorEq, Int.reduceEq, Int.reduceLT, Int.reduceLE, ↓avp_condG, ↓tf_arrow, ↓ft_arrow, wP.down, hj1, hmm, List.append_assoc]) ⟨j + 1, rfl, hlj, rfl⟩
noncomputable def c_ref25_putStep : Con := fnScal A_ref25_putStep p_ref25_putStep r_ref25_putStep
theorem ok_ref25_putStep : COk Try.prog 24 c_ref25_putStep := fn_sok sys_ref25_putStep mixed Try.func24 (by kernel_rfl) geq_ref25_putStep Try.ntmps24 (by rw [Try.results24]) (fun x => by unfold r_ref25_putStep; simp [AV.scal]) fun x hx => ⟨Nat.le_of_ble_eq_true rfl, body_ref25_putStep x hx⟩
end Go.Proofs.Ythhgaeeeppipnaa


namespace Go.Proofs.Ythhgaeeeppipnaa
open Go Go.Eng
theorem rputB_len (x : TStep) : (rputB x).length ≤ 2000 := by
  unfold rputB
  split
  · simp
  · rename_i hc
    have hi : inL x := ⟨by omega, by omega, by omega, by omega⟩
    have hF : ∀ f, (putFld x f).length ≤ 257 := fun f => by
      unfold putFld
      have hw : wd f ≤ 2 := by unfold wd; split <;> omega
      split
      · rw [putF_f, be_len]; omega
      · rename_i h3
        have hw1 := wd_one (f := f) (by omega)
        split
        · rename_i h7
          subst h7
          rw [List.length_append, putF_f, be_len, keepB_len]; have := hi.2.2.2; omega
        · rw [List.length_append, putF_f, be_len]; have := getX_len hi f; omega
    have hB : ∀ fs : List Int, ((fs.map (putFld x)).flatten).length ≤ 257 * fs.length := by
      intro fs
      induction fs with
      | nil => simp
      | cons f r ih => rw [List.map_cons, List.flatten_cons, List.length_append, List.length_cons]; have := hF f; omega
    have := hB (fldL x.Kind)
    have h4 := fldL_len x.Kind
    rw [putB, List.length_append, putF1, be_len]; omega
theorem takeS_keep {b : List UInt8} {x : TStep} (h : x ∈ takeS b) : x.Keep.length ≤ 60 := (good_of (List.all_eq_true.1 (takeS_good _ b (Nat.le_refl _)).1 x h)).2.2.1.2.2.2
def G_ref25_PutSteps : GCode := .seq (.region [⟨(some 2), none, .assign (.const (.string ⟨#[]⟩))⟩]) (.seq (.region [⟨(some 3), none, .assign (.const (.string ⟨#[]⟩))⟩]) (.seq (.seq (.region [⟨(some 4), none, .assign (.const (.int .i64 0))⟩]) (.block 0 (.loop (.seq .weak (.seq (.seq (.region [⟨(some 7), none, .move (.tmp 4)⟩, ⟨(some 8), none, .move (.tmp 0)⟩, ⟨(some 9), none, .call ⟨.builtin .len, #[.tmp 8], #[27]⟩⟩, ⟨(some 10), none, .binOp .lss 3 (.tmp 7) (.tmp 9) 3⟩]) (.cond (.tmp 10) (.skip) (.exit 0))) (.seq (.block 1 (.seq (.region [⟨(some 13), none, .move (.tmp 0)⟩, ⟨(some 14), none, .move (.tmp 4)⟩, ⟨(some 15), none, .indexAddr 27 (.tmp 13) (.tmp 14)⟩, ⟨(some 16), none, .load 24 (.tmp 15)⟩, ⟨(some 17), none, .call ⟨.value (.func 24), #[.tmp 16], #[24]⟩⟩, ⟨(some 5), none, .assign (.tmp 17)⟩]) (.seq (.region [⟨(some 18), none, .move (.tmp 5)⟩, ⟨(some 19), none, .call ⟨.value (.func 14), #[.tmp 18], #[9]⟩⟩, ⟨(some 6), none, .assign (.tmp 19)⟩]) (.seq (.region [⟨(some 20), none, .move (.tmp 6)⟩, ⟨(some 21), none, .call ⟨.builtin .len, #[.tmp 20], #[27]⟩⟩, ⟨(some 22), none, .binOp .eql 3 (.tmp 21) (.const (.int .i64 1)) 3⟩, ⟨(some 23), none, .move (.tmp 22)⟩, ⟨(some 24), (some (23, true)), .move (.tmp 6)⟩, ⟨(some 25), (some (23, true)), .indexAddr 27 (.tmp 24) (.const (.int .i64 0))⟩, ⟨(some 26), (some (23, true)), .load 24 (.tmp 25)⟩, ⟨(some 27), (some (23, true)), .move (.tmp 0)⟩, ⟨(some 28), (some (23, true)), .move (.tmp 4)⟩, ⟨(some 29), (some (23, true)), .indexAddr 27 (.tmp 27) (.tmp 28)⟩, ⟨(some 30), (some (23, true)), .load 24 (.tmp 29)⟩, ⟨(some 31), (some (23, true)), .call ⟨.value (.func 15), #[.tmp 26, .tmp 30], #[24, 24]⟩⟩, ⟨(some 32), none, .pick (.tmp 23) (.tmp 31) (.const (.bool false))⟩]) (.cond (.tmp 32) (.region [⟨(some 33), none, .move (.tmp 3)⟩, ⟨(some 34), none, .move (.tmp 5)⟩, ⟨(some 35), none, .binOp .add 9 (.tmp 33) (.tmp 34) 9⟩, ⟨(some 3), none, .assign (.tmp 35)⟩]) (.skip)))))) (.region [⟨(some 11), none, .move (.tmp 4)⟩, ⟨(some 12), none, .binOp .add 3 (.tmp 11) (.const (.int .i64 1)) 3⟩, ⟨(some 4), none, .assign (.tmp 12)⟩]))))))) (.seq (.region [⟨(some 36), none, .move (.tmp 3)⟩, ⟨(some 2), none, .assign (.tmp 36)⟩]) (.ret))))
noncomputable def l_ref25_PutSteps : List (Nat × Con) := [(24, c_ref25_putStep), (14, c_ref25_TakeSteps), (15, c_ref25_SameStep)]
noncomputable abbrev K_ref25_PutSteps : Ctx := ctx (cl l_ref25_PutSteps)
theorem geq_ref25_PutSteps : gof K_ref25_PutSteps Try.f11 = some G_ref25_PutSteps.strip := by kernel_rfl
theorem sys_ref25_PutSteps : Go.Eng.Sys Try.prog K_ref25_PutSteps := sys_of' ⟨ok_ref25_putStep, ok_ref25_TakeSteps, ok_ref25_SameStep, trivial⟩
theorem hm_ref25_PutSteps : ConMono K_ref25_PutSteps := conMono_of sys_ref25_PutSteps.con
noncomputable def k_ref25_PutSteps_ref25_putStep := PLift.up (call_scal (C := K_ref25_PutSteps) (f := 24) (A := A_ref25_putStep) (p := p_ref25_putStep) (r := r_ref25_putStep) rfl)
noncomputable def k_ref25_PutSteps_ref25_TakeSteps := PLift.up (call_fn (C := K_ref25_PutSteps) (f := 14) (A := A_ref25_TakeSteps) (p := p_ref25_TakeSteps) (r := r_ref25_TakeSteps) rfl)
noncomputable def k_ref25_PutSteps_ref25_SameStep := PLift.up (call_scal (C := K_ref25_PutSteps) (f := 15) (A := A_ref25_SameStep) (p := p_ref25_SameStep) (r := r_ref25_SameStep) rfl)
def A_ref25_PutSteps := Arms.cons (argT (List TStep)) Arms.nil
def p_ref25_PutSteps (x : List TStep × Unit) : Prop := x.1.length ≤ 1048576
def r_ref25_PutSteps (x : List TStep × Unit) : AV := .t (.str (putL x.1))
set_option maxRecDepth 10000 in
set_option maxHeartbeats 4000000 in
theorem body_ref25_PutSteps (x : List TStep × Unit) (hp : p_ref25_PutSteps x) : avp K_ref25_PutSteps G_ref25_PutSteps (Ret K_ref25_PutSteps [.tmp 2] fun v _ => v = r_ref25_PutSteps x) (entry (A_ref25_PutSteps.enc x) .empty) := by
  obtain ⟨l, ⟨⟩⟩ := x
  change l.length ≤ _ at hp
  change avp _ _ (Ret _ _ fun v _ => v = .t (.str (putL l))) (entry [.t (sl l)] .empty)
  unfold G_ref25_PutSteps
  simp only [vP.down, vS.down, vE.down, Nat.reduceEqDiff, Nat.reduceAdd, Nat.reduceSub, Nat.reduceMul, Nat.reduceLeDiff, Nat.reduceLT, Int.reduceToNat, reduceIte, reduceCtorEq, Int.reduceEq, Int.reduceLT, Int.reduceLE, ↓avp_condG, ↓tf_arrow, ↓ft_arrow]
  refine loop_weak hm_ref25_PutSteps (fun m σ => ∃ i : Nat, m = l.length - i ∧ i ≤ l.length ∧ σ = mkS [(0, .t (sl l)), (3, .t (.str (putL (l.take i)))), (4, .t (.int .i64 (i : Nat)))] .empty)
    ⟨0, rfl, by omega, rfl⟩ (wk_to fewer_refl (by simp only [vP.down, vS.down, vE.down, Nat.reduceEqDiff, Nat.reduceAdd, Nat.reduceSub, Nat.reduceMul, Nat.reduceLeDiff, Nat.reduceLT, Int.reduceToNat, reduceIte, reduceCtorEq, Int.reduceEq, Int.reduceLT, Int.reduceLE, ↓avp_condG, ↓tf_arrow, ↓ft_arrow, wP.down, List.take_zero, Int.natCast_zero, show putL [] = [] from rfl])) ?_
  rintro m _ ⟨i, rfl, hi, rfl⟩
  have hi1 : IntKind.i64.wrap ((i : Int) + 1) = ((i + 1 : Nat) : Int) := by rw [IntWalk.i64_in _ (by omega)]; rfl
  by_cases hlt : i < l.length
  case neg =>
    obtain rfl : i = l.length := by omega
    have hge : ¬ ((l.length : Int) < (l.length : Int)) := by omega
    simp only [vP.down, vS.down, vE.down, Nat.reduceEqDiff, Nat.reduceAdd, Nat.reduceSub, Nat.reduceMul, Nat.reduceLeDiff, Nat.reduceLT, Int.reduceToNat, reduceIte, reduceCtorEq, Int.reduceEq, Int.reduceLT, Int.reduceLE, ↓avp_condG, ↓tf_arrow, ↓ft_arrow, hge, List.take_length]
    simp only [vP.down, vS.down, vE.down, Nat.reduceEqDiff, Nat.reduceAdd, Nat.reduceSub, Nat.reduceMul, Nat.reduceLeDiff, Nat.reduceLT, Int.reduceToNat, reduceIte, reduceCtorEq, Int.reduceEq, Int.reduceLT, Int.reduceLE, ↓avp_condG, ↓tf_arrow, ↓ft_arrow, vT.down]
  have hlt' : (i : Int) < (l.length : Int) := by omega
  obtain ⟨x, hx⟩ : ∃ x, x = l.getD i default := ⟨_, rfl⟩
  have hpl := putL_len (l.take i)
  rw [List.length_take] at hpl
  have hnx : putL (l.take (i + 1)) = putL (l.take i) ++ rputOne x := by
    rw [hx, rputOne_good, ← putOne_good]; exact take_map_flat putOne hlt
  have hrl := rputB_len x
  have hrl2 : (rputB x).length ≤ 1099511627776 := by omega
  obtain ⟨y, hy⟩ : ∃ y, y = takeS (rputB x) := ⟨_, rfl⟩
  have hyk : (y.getD 0 default).Keep.length ≤ 1099511627776 := by
    rw [hy, List.getD_eq_getElem?_getD]
    cases h : (takeS (rputB x))[0]? with
    | none => simp [default, iTStep]
    | some z => have := takeS_keep (List.mem_of_getElem? h); simp only [Option.getD_some]; omega
  have one : rputOne x = if y.length = 1 ∧ y.getD 0 default = x then rputB x else [] := by rw [hy]; rfl
  by_cases c1 : y.length = 1
  case neg =>
    have c1' : ¬ (y.length : Int) = 1 := by omega
    rw [if_neg (fun h => c1 h.1)] at one
    have hdx := idx_at (C := K_ref25_PutSteps) (l := l) ty_Lapi_Step ty_api_Step rfl hlt .i64
    have fin : ∀ σ', Wk σ' (mkS [(0, .t (sl l)), (3, .t (.str (putL (l.take i)))), (4, .t (.int .i64 (i + 1 : Nat)))] .empty) → ∃ k' σ'', k' < l.length - i ∧ Wk σ' σ'' ∧ ∃ i : Nat, k' = l.length - i ∧ i ≤ l.length ∧ σ'' = mkS [(0, .t (sl l)), (3, .t (.str (putL (l.take i)))), (4, .t (.int .i64 (i : Nat)))] .empty :=
      fun σ' w => ⟨l.length - (i + 1), _, by omega, w, i + 1, rfl, hlt, by rw [hnx, one, List.append_nil]⟩
    cases y with
    | nil =>
      have c2 : ¬ ((0 : Int) = 1) := by omega
      have hdead : (idxB K_ref25_PutSteps 27 (.t (sl ([] : List TStep))) (.t (.int .i64 0))).av [] = .imm [] := by simp [idxB, sl, ty_Lapi_Step, ty_api_Step, B.val]
      simp only [vP.down, vS.down, vE.down, Nat.reduceEqDiff, Nat.reduceAdd, Nat.reduceSub, Nat.reduceMul, Nat.reduceLeDiff, Nat.reduceLT, Int.reduceToNat, reduceIte, reduceCtorEq, Int.reduceEq, Int.reduceLT, Int.reduceLE, ↓avp_condG, ↓tf_arrow, ↓ft_arrow, hlt', ← hx, k_ref25_PutSteps_ref25_putStep.down, A_ref25_putStep, p_ref25_putStep, r_ref25_putStep, k_ref25_PutSteps_ref25_TakeSteps.down, A_ref25_TakeSteps, p_ref25_TakeSteps, r_ref25_TakeSteps, hrl2, ← hy, Int.natCast_zero, c2, hdead, hdx, k_ref25_PutSteps_ref25_SameStep.down, A_ref25_SameStep, p_ref25_SameStep, r_ref25_SameStep, List.take_nil]
      ((repeat' with_reducible refine And.intro ?_ ?_) <;> try (first | omega | (simp only [List.length_take, List.length_drop, List.length_append, List.length_map, List.length_replicate] <;> omega)))
      all_goals first | exact rfl | exact fin _ (wk_to fewer_refl (by simp only [vP.down, vS.down, vE.down, Nat.reduceEqDiff, Nat.reduceAdd, Nat.reduceSub, Nat.reduceMul, Nat.reduceLeDiff, Nat.reduceLT, Int.reduceToNat, reduceIte, reduceCtorEq, Int.reduceEq, Int.reduceLT, Int.reduceLE, ↓avp_condG, ↓tf_arrow, ↓ft_arrow, wP.down, hi1])) | trace_state
    | cons z w =>
      have hdz : (idxB K_ref25_PutSteps 27 (.t (sl (z :: w))) (.t (.int .i64 0))) = .val True (.imm (Cell.enc z)) := idx_at (l := z :: w) (i := 0) ty_Lapi_Step ty_api_Step rfl (by simp) .i64
      have c3 : ¬ (w.length + 1 = 1) := by simpa using c1
      have c2 : ¬ (((w.length + 1 : Nat) : Int) = 1) := by omega
      simp only [vP.down, vS.down, vE.down, Nat.reduceEqDiff, Nat.reduceAdd, Nat.reduceSub, Nat.reduceMul, Nat.reduceLeDiff, Nat.reduceLT, Int.reduceToNat, reduceIte, reduceCtorEq, Int.reduceEq, Int.reduceLT, Int.reduceLE, ↓avp_condG, ↓tf_arrow, ↓ft_arrow, hlt', ← hx, k_ref25_PutSteps_ref25_putStep.down, A_ref25_putStep, p_ref25_putStep, r_ref25_putStep, k_ref25_PutSteps_ref25_TakeSteps.down, A_ref25_TakeSteps, p_ref25_TakeSteps, r_ref25_TakeSteps, hrl2, ← hy, c2, hdz, hdx, k_ref25_PutSteps_ref25_SameStep.down, A_ref25_SameStep, p_ref25_SameStep, r_ref25_SameStep, hyk]
      ((repeat' with_reducible refine And.intro ?_ ?_) <;> try (first | omega | (simp only [List.length_take, List.length_drop, List.length_append, List.length_map, List.length_replicate] <;> omega)))
      all_goals first | exact rfl | exact fin _ (wk_to fewer_refl (by simp only [vP.down, vS.down, vE.down, Nat.reduceEqDiff, Nat.reduceAdd, Nat.reduceSub, Nat.reduceMul, Nat.reduceLeDiff, Nat.reduceLT, Int.reduceToNat, reduceIte, reduceCtorEq, Int.reduceEq, Int.reduceLT, Int.reduceLE, ↓avp_condG, ↓tf_arrow, ↓ft_arrow, wP.down, hi1])) | trace_state
  obtain ⟨z, hz⟩ : ∃ z, y = [z] := by
    match y, c1 with
    | [z], _ => exact ⟨z, rfl⟩
  subst hz
  have hdz : (idxB K_ref25_PutSteps 27 (.t (sl [z])) (.t (.int .i64 0))) = .val True (.imm (Cell.enc z)) := idx_at (l := [z]) (i := 0) ty_Lapi_Step ty_api_Step rfl (by simp) .i64
  have hdx := idx_at (C := K_ref25_PutSteps) (l := l) ty_Lapi_Step ty_api_Step rfl hlt .i64
  change z.Keep.length ≤ _ at hyk
  by_cases c2 : z = x
  · rw [if_pos ⟨c1, c2⟩] at one
    subst c2
    simp only [vP.down, vS.down, vE.down, Nat.reduceEqDiff, Nat.reduceAdd, Nat.reduceSub, Nat.reduceMul, Nat.reduceLeDiff, Nat.reduceLT, Int.reduceToNat, reduceIte, reduceCtorEq, Int.reduceEq, Int.reduceLT, Int.reduceLE, ↓avp_condG, ↓tf_arrow, ↓ft_arrow, hlt', ← hx, k_ref25_PutSteps_ref25_putStep.down, A_ref25_putStep, p_ref25_putStep, r_ref25_putStep, k_ref25_PutSteps_ref25_TakeSteps.down, A_ref25_TakeSteps, p_ref25_TakeSteps, r_ref25_TakeSteps, hrl2, ← hy, Int.natCast_one, hdz, hdx, k_ref25_PutSteps_ref25_SameStep.down, A_ref25_SameStep, p_ref25_SameStep, r_ref25_SameStep, hyk]
    ((repeat' with_reducible refine And.intro ?_ ?_) <;> try (first | omega | (simp only [List.length_take, List.length_drop, List.length_append, List.length_map, List.length_replicate] <;> omega)))
    all_goals first | omega | exact round_to (l.length - (i + 1)) [(0, .t (sl l)), (3, .t (.str (putL (l.take (i + 1))))), (4, .t (.int .i64 (i + 1 : Nat)))] .empty (by omega) fewer_refl (by simp only [vP.down, vS.down, vE.down, Nat.reduceEqDiff, Nat.reduceAdd, Nat.reduceSub, Nat.reduceMul, Nat.reduceLeDiff, Nat.reduceLT, Int.reduceToNat, reduceIte, reduceCtorEq, Int.reduceEq, Int.reduceLT, Int.reduceLE, ↓avp_condG, ↓tf_arrow, ↓ft_arrow, wP.down, hi1, hnx, one]) ⟨i + 1, rfl, hlt, rfl⟩ | trace_state
  · rw [if_neg (fun h => c2 h.2)] at one
    simp only [vP.down, vS.down, vE.down, Nat.reduceEqDiff, Nat.reduceAdd, Nat.reduceSub, Nat.reduceMul, Nat.reduceLeDiff, Nat.reduceLT, Int.reduceToNat, reduceIte, reduceCtorEq, Int.reduceEq, Int.reduceLT, Int.reduceLE, ↓avp_condG, ↓tf_arrow, ↓ft_arrow, hlt', ← hx, k_ref25_PutSteps_ref25_putStep.down, A_ref25_putStep, p_ref25_putStep, r_ref25_putStep, k_ref25_PutSteps_ref25_TakeSteps.down, A_ref25_TakeSteps, p_ref25_TakeSteps, r_ref25_TakeSteps, hrl2, ← hy, Int.natCast_one, hdz, hdx, k_ref25_PutSteps_ref25_SameStep.down, A_ref25_SameStep, p_ref25_SameStep, r_ref25_SameStep, hyk, c2]
    ((repeat' with_reducible refine And.intro ?_ ?_) <;> try (first | omega | (simp only [List.length_take, List.length_drop, List.length_append, List.length_map, List.length_replicate] <;> omega)))
    all_goals first | omega | exact round_to (l.length - (i + 1)) [(0, .t (sl l)), (3, .t (.str (putL (l.take (i + 1))))), (4, .t (.int .i64 (i + 1 : Nat)))] .empty (by omega) fewer_refl (by simp only [vP.down, vS.down, vE.down, Nat.reduceEqDiff, Nat.reduceAdd, Nat.reduceSub, Nat.reduceMul, Nat.reduceLeDiff, Nat.reduceLT, Int.reduceToNat, reduceIte, reduceCtorEq, Int.reduceEq, Int.reduceLT, Int.reduceLE, ↓avp_condG, ↓tf_arrow, ↓ft_arrow, wP.down, hi1, hnx, one]) ⟨i + 1, rfl, hlt, rfl⟩ | trace_state
noncomputable def c_ref25_PutSteps : Con := fnScal A_ref25_PutSteps p_ref25_PutSteps r_ref25_PutSteps
theorem ok_ref25_PutSteps : COk Try.prog 11 c_ref25_PutSteps := fn_sok sys_ref25_PutSteps mixed Try.func11 (by kernel_rfl) geq_ref25_PutSteps Try.ntmps11 (by rw [Try.results11]) (fun x => by unfold r_ref25_PutSteps; simp [AV.scal]) fun x hx => ⟨Nat.le_of_ble_eq_true rfl, body_ref25_PutSteps x hx⟩
end Go.Proofs.Ythhgaeeeppipnaa


namespace Go.Proofs.Ythhgaeeeppipnaa
open Go Go.Eng
def sA : TStep := ⟨2, 258, 0, 0, 0, [97, 98], [], [], []⟩
def sB : TStep := ⟨99, 0, 0, 0, 0, [], [], [], []⟩
def sC : TStep := ⟨16, 0, 0, 0, 0, [], [], [], []⟩
def sD : TStep := ⟨15, 0, 1, 0, 0, [], [], [], []⟩
theorem bg1 : takeS [16, 0, 15, 0, 1] = [sC, sD] := by decide +kernel
theorem bg2 : putL [sA, sB] = [2, 1, 2, 2, 97, 98] := by decide +kernel
theorem bg3 : takeS [2, 1, 2, 2, 97, 98, 2] = [sA] := by decide +kernel
def G_law25_begun : GCode := .seq (.region [⟨(some 0), none, .assign (.const (.bool false))⟩]) (.seq (.region [⟨(some 4), none, .call ⟨.value (.func 13), #[.const (.string ⟨#[16, 0, 15, 0, 1]⟩)], #[9]⟩⟩, ⟨(some 1), none, .assign (.tmp 4)⟩]) (.seq (.region [⟨(some 5), none, .build 24 #[(0, .const (.int .i64 2)), (1, .const (.int .i64 258)), (5, .const (.string ⟨#[97, 98]⟩))]⟩, ⟨(some 6), none, .build 24 #[(0, .const (.int .i64 99))]⟩, ⟨(some 7), none, .buildSlice 27 2 #[(0, .tmp 5), (1, .tmp 6)]⟩, ⟨(some 8), none, .call ⟨.value (.func 10), #[.tmp 7], #[27]⟩⟩, ⟨(some 2), none, .assign (.tmp 8)⟩]) (.seq (.region [⟨(some 9), none, .move (.tmp 2)⟩, ⟨(some 10), none, .binOp .add 9 (.tmp 9) (.const (.string ⟨#[2]⟩)) 9⟩, ⟨(some 11), none, .call ⟨.value (.func 13), #[.tmp 10], #[9]⟩⟩, ⟨(some 3), none, .assign (.tmp 11)⟩]) (.seq (.region [⟨(some 12), none, .move (.tmp 1)⟩, ⟨(some 13), none, .call ⟨.builtin .len, #[.tmp 12], #[27]⟩⟩, ⟨(some 14), none, .binOp .eql 3 (.tmp 13) (.const (.int .i64 2)) 3⟩, ⟨(some 15), none, .move (.tmp 14)⟩, ⟨(some 16), (some (15, true)), .move (.tmp 1)⟩, ⟨(some 17), (some (15, true)), .indexAddr 27 (.tmp 16) (.const (.int .i64 0))⟩, ⟨(some 18), (some (15, true)), .fieldAddr 24 (.tmp 17) 0⟩, ⟨(some 19), (some (15, true)), .load 3 (.tmp 18)⟩, ⟨(some 20), (some (15, true)), .binOp .eql 3 (.tmp 19) (.const (.int .i64 16)) 3⟩, ⟨(some 21), none, .pick (.tmp 15) (.tmp 20) (.const (.bool false))⟩, ⟨(some 22), none, .move (.tmp 21)⟩, ⟨(some 23), (some (22, true)), .move (.tmp 1)⟩, ⟨(some 24), (some (22, true)), .indexAddr 27 (.tmp 23) (.const (.int .i64 1))⟩, ⟨(some 25), (some (22, true)), .fieldAddr 24 (.tmp 24) 0⟩, ⟨(some 26), (some (22, true)), .load 3 (.tmp 25)⟩, ⟨(some 27), (some (22, true)), .binOp .eql 3 (.tmp 26) (.const (.int .i64 15)) 3⟩, ⟨(some 28), none, .pick (.tmp 22) (.tmp 27) (.const (.bool false))⟩, ⟨(some 29), none, .move (.tmp 28)⟩, ⟨(some 30), (some (29, true)), .move (.tmp 1)⟩, ⟨(some 31), (some (29, true)), .indexAddr 27 (.tmp 30) (.const (.int .i64 1))⟩, ⟨(some 32), (some (29, true)), .fieldAddr 24 (.tmp 31) 2⟩, ⟨(some 33), (some (29, true)), .load 3 (.tmp 32)⟩, ⟨(some 34), (some (29, true)), .binOp .eql 3 (.tmp 33) (.const (.int .i64 1)) 3⟩, ⟨(some 35), none, .pick (.tmp 29) (.tmp 34) (.const (.bool false))⟩, ⟨(some 36), none, .move (.tmp 35)⟩, ⟨(some 37), (some (36, true)), .move (.tmp 2)⟩, ⟨(some 38), (some (36, true)), .binOp .eql 9 (.tmp 37) (.const (.string ⟨#[2, 1, 2, 2, 97, 98]⟩)) 9⟩, ⟨(some 39), none, .pick (.tmp 36) (.tmp 38) (.const (.bool false))⟩, ⟨(some 40), none, .move (.tmp 39)⟩, ⟨(some 41), (some (40, true)), .move (.tmp 3)⟩, ⟨(some 42), (some (40, true)), .call ⟨.builtin .len, #[.tmp 41], #[27]⟩⟩, ⟨(some 43), (some (40, true)), .binOp .eql 3 (.tmp 42) (.const (.int .i64 1)) 3⟩, ⟨(some 44), none, .pick (.tmp 40) (.tmp 43) (.const (.bool false))⟩, ⟨(some 45), none, .move (.tmp 44)⟩, ⟨(some 46), (some (45, true)), .move (.tmp 3)⟩, ⟨(some 47), (some (45, true)), .indexAddr 27 (.tmp 46) (.const (.int .i64 0))⟩, ⟨(some 48), (some (45, true)), .fieldAddr 24 (.tmp 47) 1⟩, ⟨(some 49), (some (45, true)), .load 3 (.tmp 48)⟩, ⟨(some 50), (some (45, true)), .binOp .eql 3 (.tmp 49) (.const (.int .i64 258)) 3⟩, ⟨(some 51), none, .pick (.tmp 45) (.tmp 50) (.const (.bool false))⟩, ⟨(some 52), none, .move (.tmp 51)⟩, ⟨(some 53), (some (52, true)), .move (.tmp 3)⟩, ⟨(some 54), (some (52, true)), .indexAddr 27 (.tmp 53) (.const (.int .i64 0))⟩, ⟨(some 55), (some (52, true)), .fieldAddr 24 (.tmp 54) 5⟩, ⟨(some 56), (some (52, true)), .load 9 (.tmp 55)⟩, ⟨(some 57), (some (52, true)), .binOp .eql 9 (.tmp 56) (.const (.string ⟨#[97, 98]⟩)) 9⟩, ⟨(some 58), none, .pick (.tmp 52) (.tmp 57) (.const (.bool false))⟩, ⟨(some 0), none, .assign (.tmp 58)⟩]) (.ret)))))
noncomputable def l_law25_begun : List (Nat × Con) := [(13, c_ops_Take), (10, c_ops_Put)]
noncomputable abbrev K_law25_begun : Ctx := ctx (cl l_law25_begun)
theorem geq_law25_begun : gof K_law25_begun Try.f8 = some G_law25_begun.strip := by kernel_rfl
theorem sys_law25_begun : Go.Eng.Sys Try.prog K_law25_begun := sys_of' ⟨ok_ops_Take, ok_ops_Put, trivial⟩
theorem hm_law25_begun : ConMono K_law25_begun := conMono_of sys_law25_begun.con
noncomputable def k_law25_begun_ops_Take := PLift.up (call_fn (C := K_law25_begun) (f := 13) (A := A_ops_Take) (p := p_ops_Take) (r := r_ops_Take) rfl)
noncomputable def k_law25_begun_ops_Put := PLift.up (call_scal (C := K_law25_begun) (f := 10) (A := A_ops_Put) (p := p_ops_Put) (r := r_ops_Put) rfl)
def A_law25_begun := Arms.nil
def p_law25_begun (_ : Unit) : Prop := True
def r_law25_begun (_ : Unit) : AV := .t (.bool true)
set_option maxRecDepth 100000 in
set_option maxHeartbeats 4000000 in
theorem body_law25_begun (x : Unit) (_ : p_law25_begun x) : avp K_law25_begun G_law25_begun (Ret K_law25_begun [.tmp 0] fun v _ => v = r_law25_begun x) (entry (A_law25_begun.enc x) .empty) := by
  unfold G_law25_begun
  simp only [vP.down, vS.down, vE.down, Nat.reduceEqDiff, Nat.reduceAdd, Nat.reduceSub, Nat.reduceMul, Nat.reduceLeDiff, Nat.reduceLT, Int.reduceToNat, reduceIte, reduceCtorEq, Int.reduceEq, Int.reduceLT, Int.reduceLE, ↓avp_condG, ↓tf_arrow, ↓ft_arrow, k_law25_begun_ops_Take.down, A_ops_Take, p_ops_Take, r_ops_Take, bg1]
  intro g hg
  have bg2' : putL [⟨2, 258, 0, 0, 0, [97, 98], [], [], []⟩, ⟨99, 0, 0, 0, 0, [], [], [], []⟩] = [2, 1, 2, 2, 97, 98] := bg2
  have hs : (∀ y ∈ ([⟨2, 258, 0, 0, 0, [97, 98], [], [], []⟩, ⟨99, 0, 0, 0, 0, [], [], [], []⟩] : List TStep), smallS y) = True := by simp [smallS]
  have hd : (argT (List TStep)).dec (.t (.seq 9 [[.int .i64 2, .int .i64 258, .int .i64 0, .int .i64 0, .int .i64 0, .str [97, 98], .str [], .str [], .nilS], [.int .i64 99, .int .i64 0, .int .i64 0, .int .i64 0, .int .i64 0, .str [], .str [], .str [], .nilS]])) = some [sA, sB] := by rfl
  simp only [vP.down, vS.down, vE.down, Nat.reduceEqDiff, Nat.reduceAdd, Nat.reduceSub, Nat.reduceMul, Nat.reduceLeDiff, Nat.reduceLT, Int.reduceToNat, reduceIte, reduceCtorEq, Int.reduceEq, Int.reduceLT, Int.reduceLE, ↓avp_condG, ↓tf_arrow, ↓ft_arrow, k_law25_begun_ops_Take.down, A_ops_Take, p_ops_Take, r_ops_Take, k_law25_begun_ops_Put.down, A_ops_Put, p_ops_Put, r_ops_Put, hd, bg2', hs, bg3]
  unfold sA sC sD
  simp only [vP.down, vS.down, vE.down, Nat.reduceEqDiff, Nat.reduceAdd, Nat.reduceSub, Nat.reduceMul, Nat.reduceLeDiff, Nat.reduceLT, Int.reduceToNat, reduceIte, reduceCtorEq, Int.reduceEq, Int.reduceLT, Int.reduceLE, ↓avp_condG, ↓tf_arrow, ↓ft_arrow]
  ((repeat' with_reducible refine And.intro ?_ ?_) <;> try (first | omega | (simp only [List.length_take, List.length_drop, List.length_append, List.length_map, List.length_replicate] <;> omega)))
  simp only [vP.down, vS.down, vE.down, Nat.reduceEqDiff, Nat.reduceAdd, Nat.reduceSub, Nat.reduceMul, Nat.reduceLeDiff, Nat.reduceLT, Int.reduceToNat, reduceIte, reduceCtorEq, Int.reduceEq, Int.reduceLT, Int.reduceLE, ↓avp_condG, ↓tf_arrow, ↓ft_arrow, vT.down]
  rfl
noncomputable def c_law25_begun : Con := fnScal A_law25_begun p_law25_begun r_law25_begun
theorem ok_law25_begun : COk Try.prog 8 c_law25_begun := fn_sok sys_law25_begun mixed Try.func8 (by kernel_rfl) geq_law25_begun Try.ntmps8 (by rw [Try.results8]) (fun x => by unfold r_law25_begun; simp [AV.scal]) fun x hx => ⟨Nat.le_of_ble_eq_true rfl, body_law25_begun x hx⟩
end Go.Proofs.Ythhgaeeeppipnaa


namespace Go.Proofs.Ythhgaeeeppipnaa
open Go Go.Eng
def numV (l : List Byt) (n : Nat) (m : Int) : Int := if l.length ≤ n ∨ m < 1 then 0 else ((l.getD n default).v.toNat : Int).tmod m
def numN (l : List Byt) (n : Nat) (m : Int) : Nat := if l.length ≤ n ∨ m < 1 then n else n + 1
def pkE (l : List Byt) (n : Nat) : Entry := .box [.t (sl l), .t (.int .i64 (n : Int))] false
theorem numV_bd {l : List Byt} {n : Nat} {m : Int} (h : 1 ≤ m) : 0 ≤ numV l n m ∧ numV l n m < m := by
  unfold numV
  split
  · omega
  · refine ⟨Int.tmod_nonneg _ (by omega), Int.tmod_lt_of_pos _ (by omega)⟩
theorem numN_bd {l : List Byt} {n : Nat} {m : Int} (h : n ≤ l.length) : numN l n m ≤ l.length := by
  unfold numN
  split <;> omega

def G_made_Made : GCode := .seq (.region [⟨(some 2), none, .assign (.const (.pointer none))⟩]) (.seq (.region [⟨(some 3), none, .move (.tmp 0)⟩, ⟨(some 4), none, .build 58 #[(0, .tmp 3)]⟩, ⟨(some 5), none, .box 58 (.tmp 4)⟩, ⟨(some 2), none, .assign (.tmp 5)⟩]) (.ret))
noncomputable def l_made_Made : List (Nat × Con) := []
noncomputable abbrev K_made_Made : Ctx := ctx (cl l_made_Made)
theorem geq_made_Made : gof K_made_Made Try.f16 = some G_made_Made.strip := by kernel_rfl
theorem sys_made_Made : Go.Eng.Sys Try.prog K_made_Made := sys_of' (l := []) trivial
theorem hm_made_Made : ConMono K_made_Made := conMono_of sys_made_Made.con
def q_made_Made (xs : List AV) : Prop := ∃ l : List Byt, xs = [.t (sl l)]
def e_made_Made (xs : List AV) : Entry := .box [xs.headD .unk, .t (.int .i64 0)] false
def mk_made_Made (g : Nat) : AV := .ptr g 0
theorem body_made_Made (xs : List AV) (h : q_made_Made xs) : xs.length ≤ 6 ∧ avp K_made_Made G_made_Made (Ret K_made_Made [.tmp 2] fun r s' => ∃ g, r = mk_made_Made g ∧ s'.f g = some (e_made_Made xs)) (entry xs .empty) := by
  obtain ⟨l, rfl⟩ := h
  refine ⟨by simp, ?_⟩
  unfold G_made_Made
  simp only [vP.down, vS.down, vE.down, Nat.reduceEqDiff, Nat.reduceAdd, Nat.reduceSub, Nat.reduceMul, Nat.reduceLeDiff, Nat.reduceLT, Int.reduceToNat, reduceIte, reduceCtorEq, Int.reduceEq, Int.reduceLT, Int.reduceLE, ↓avp_condG, ↓tf_arrow, ↓ft_arrow]
  intro g hg
  simp only [vP.down, vS.down, vE.down, Nat.reduceEqDiff, Nat.reduceAdd, Nat.reduceSub, Nat.reduceMul, Nat.reduceLeDiff, Nat.reduceLT, Int.reduceToNat, reduceIte, reduceCtorEq, Int.reduceEq, Int.reduceLT, Int.reduceLE, ↓avp_condG, ↓tf_arrow, ↓ft_arrow, vT.down]
  exact ⟨g, rfl, Store.set_same _ _ _⟩
noncomputable def c_made_Made : Con := newCon q_made_Made e_made_Made mk_made_Made
theorem ok_made_Made : COk Try.prog 16 c_made_Made := fn_nok sys_made_Made mixed Try.func16 (by kernel_rfl) geq_made_Made Try.ntmps16 (by rw [Try.results16]) body_made_Made

def G_made_Picks_Num : GCode := .seq (.region [⟨(some 4), none, .assign (.const (.int .i64 0))⟩]) (.seq (.seq (.region [⟨(some 5), none, .move (.tmp 0)⟩, ⟨(some 6), none, .nilCheck (.tmp 5)⟩, ⟨(some 7), none, .fieldAddr 58 (.tmp 6) 1⟩, ⟨(some 8), none, .load 3 (.tmp 7)⟩, ⟨(some 9), none, .move (.tmp 0)⟩, ⟨(some 10), none, .nilCheck (.tmp 9)⟩, ⟨(some 11), none, .fieldAddr 58 (.tmp 10) 0⟩, ⟨(some 12), none, .load 25 (.tmp 11)⟩, ⟨(some 13), none, .call ⟨.builtin .len, #[.tmp 12], #[25]⟩⟩, ⟨(some 14), none, .binOp .geq 3 (.tmp 8) (.tmp 13) 3⟩, ⟨(some 15), none, .move (.tmp 14)⟩, ⟨(some 16), (some (15, false)), .move (.tmp 1)⟩, ⟨(some 17), (some (15, false)), .binOp .lss 3 (.tmp 16) (.const (.int .i64 1)) 3⟩, ⟨(some 18), none, .pick (.tmp 15) (.const (.bool true)) (.tmp 17)⟩]) (.cond (.tmp 18) (.seq (.region [⟨(some 4), none, .assign (.const (.int .i64 0))⟩]) (.ret)) (.skip))) (.seq (.region [⟨(some 19), none, .move (.tmp 0)⟩, ⟨(some 20), none, .nilCheck (.tmp 19)⟩, ⟨(some 21), none, .fieldAddr 58 (.tmp 20) 1⟩, ⟨(some 22), none, .load 3 (.tmp 21)⟩, ⟨(some 23), none, .binOp .add 3 (.tmp 22) (.const (.int .i64 1)) 3⟩, ⟨(some 24), none, .nilCheck (.tmp 19)⟩, ⟨(some 25), none, .fieldAddr 58 (.tmp 24) 1⟩, ⟨none, none, .store 3 (.tmp 25) (.tmp 23)⟩]) (.seq (.region [⟨(some 26), none, .move (.tmp 0)⟩, ⟨(some 27), none, .nilCheck (.tmp 26)⟩, ⟨(some 28), none, .fieldAddr 58 (.tmp 27) 0⟩, ⟨(some 29), none, .load 25 (.tmp 28)⟩, ⟨(some 30), none, .move (.tmp 0)⟩, ⟨(some 31), none, .nilCheck (.tmp 30)⟩, ⟨(some 32), none, .fieldAddr 58 (.tmp 31) 1⟩, ⟨(some 33), none, .load 3 (.tmp 32)⟩, ⟨(some 34), none, .binOp .sub 3 (.tmp 33) (.const (.int .i64 1)) 3⟩, ⟨(some 35), none, .indexAddr 25 (.tmp 29) (.tmp 34)⟩, ⟨(some 36), none, .load 5 (.tmp 35)⟩, ⟨(some 37), none, .convert 5 3 (.tmp 36)⟩, ⟨(some 38), none, .move (.tmp 1)⟩, ⟨(some 39), none, .binOp .rem 3 (.tmp 37) (.tmp 38) 3⟩, ⟨(some 4), none, .assign (.tmp 39)⟩]) (.ret))))
noncomputable def l_made_Picks_Num : List (Nat × Con) := []
noncomputable abbrev K_made_Picks_Num : Ctx := ctx (cl l_made_Picks_Num)
theorem geq_made_Picks_Num : gof K_made_Picks_Num Try.f28 = some G_made_Picks_Num.strip := by kernel_rfl
theorem sys_made_Picks_Num : Go.Eng.Sys Try.prog K_made_Picks_Num := sys_of' (l := []) trivial
theorem hm_made_Picks_Num : ConMono K_made_Picks_Num := conMono_of sys_made_Picks_Num.con
def m_made_Picks_Num : List Bool := [true, false]
def F_made_Picks_Num (xs : List AV) (s : Store) (Q : AV → Store → Prop) : Prop :=
  ∃ (g : Nat) (l : List Byt) (n : Nat) (m : Int), xs = [.ptr g 0, .t (.int .i64 m)] ∧ s.f g = some (pkE l n) ∧ l.length ≤ 1099511627776 ∧ n ≤ l.length ∧ Q (.t (.int .i64 (numV l n m))) (s.set g (some (pkE l (numN l n m))))
theorem mono_made_Picks_Num (xs : List AV) (s : Store) (Q Q' : AV → Store → Prop) (hq : ∀ r t, Q r t → Q' r t) : F_made_Picks_Num xs s Q → F_made_Picks_Num xs s Q' :=
  fun ⟨g, l, n, m, a, b, c, d, e⟩ => ⟨g, l, n, m, a, b, c, d, hq _ _ e⟩
theorem ex_made_Picks_Num (xs : List AV) (s : Store) (Q : AV → Store → Prop) : F_made_Picks_Num xs s Q → ∃ r t, Q r t := fun ⟨_, _, _, _, _, _, _, _, e⟩ => ⟨_, _, e⟩
theorem body_made_Picks_Num (xs : List AV) (s : Store) (Q : AV → Store → Prop) (h : F_made_Picks_Num xs s Q) : xs.length ≤ 40 ∧ avp K_made_Picks_Num G_made_Picks_Num (Ret K_made_Picks_Num [.tmp 4] fun r s' => ∃ s'', Sub s'' s' ∧ Q r s'') (entry xs s) := by
  obtain ⟨g, l, n, m, rfl, hg, hl, hn, hq⟩ := h
  refine ⟨by simp, ?_⟩
  unfold pkE at hg
  unfold G_made_Picks_Num
  by_cases hge : l.length ≤ n
  · have c1 : (l.length : Int) ≤ (n : Int) := by omega
    simp only [vP.down, vS.down, vE.down, Nat.reduceEqDiff, Nat.reduceAdd, Nat.reduceSub, Nat.reduceMul, Nat.reduceLeDiff, Nat.reduceLT, Int.reduceToNat, reduceIte, reduceCtorEq, Int.reduceEq, Int.reduceLT, Int.reduceLE, ↓avp_condG, ↓tf_arrow, ↓ft_arrow, hg, c1, false_implies]
    simp only [vP.down, vS.down, vE.down, Nat.reduceEqDiff, Nat.reduceAdd, Nat.reduceSub, Nat.reduceMul, Nat.reduceLeDiff, Nat.reduceLT, Int.reduceToNat, reduceIte, reduceCtorEq, Int.reduceEq, Int.reduceLT, Int.reduceLE, ↓avp_condG, ↓tf_arrow, ↓ft_arrow, vT.down]
    rw [numV, if_pos (.inl hge), numN, if_pos (.inl hge)] at hq
    refine ⟨_, fun k e hk => ?_, hq⟩
    rw [set_f] at hk
    by_cases hkg : k = g
    · subst hkg; rw [if_pos rfl] at hk; rw [hg]; exact hk
    · rwa [if_neg hkg] at hk
  have c1 : ¬ (l.length : Int) ≤ (n : Int) := by omega
  by_cases hm : m < 1
  · simp only [vP.down, vS.down, vE.down, Nat.reduceEqDiff, Nat.reduceAdd, Nat.reduceSub, Nat.reduceMul, Nat.reduceLeDiff, Nat.reduceLT, Int.reduceToNat, reduceIte, reduceCtorEq, Int.reduceEq, Int.reduceLT, Int.reduceLE, ↓avp_condG, ↓tf_arrow, ↓ft_arrow, hg, c1, hm, false_implies]
    simp only [vP.down, vS.down, vE.down, Nat.reduceEqDiff, Nat.reduceAdd, Nat.reduceSub, Nat.reduceMul, Nat.reduceLeDiff, Nat.reduceLT, Int.reduceToNat, reduceIte, reduceCtorEq, Int.reduceEq, Int.reduceLT, Int.reduceLE, ↓avp_condG, ↓tf_arrow, ↓ft_arrow, vT.down]
    rw [numV, if_pos (.inr hm), numN, if_pos (.inr hm)] at hq
    refine ⟨_, fun k e hk => ?_, hq⟩
    rw [set_f] at hk
    by_cases hkg : k = g
    · subst hkg; rw [if_pos rfl] at hk; rw [hg]; exact hk
    · rwa [if_neg hkg] at hk
  have hno : ¬ (l.length ≤ n ∨ m < 1) := fun h => h.elim hge hm
  rw [numV, if_neg hno, numN, if_neg hno] at hq
  have w1 : IntKind.i64.wrap ((n : Int) + 1) = ((n + 1 : Nat) : Int) := by rw [IntWalk.i64_in _ (by omega)]; rfl
  have w2 : IntKind.i64.wrap (((n + 1 : Nat) : Int) - 1) = (n : Int) := by rw [IntWalk.i64_in _ (by omega)]; omega
  have w3 : ∀ x : UInt8, IntKind.i64.wrap (x.toNat : Int) = (x.toNat : Int) := fun x => IntWalk.i64_in _ (by have := x.toNat_lt; omega)
  simp only [vP.down, vS.down, vE.down, Nat.reduceEqDiff, Nat.reduceAdd, Nat.reduceSub, Nat.reduceMul, Nat.reduceLeDiff, Nat.reduceLT, Int.reduceToNat, reduceIte, reduceCtorEq, Int.reduceEq, Int.reduceLT, Int.reduceLE, ↓avp_condG, ↓tf_arrow, ↓ft_arrow, hg, c1, hm, w1, w2, w3, false_implies]
  ((repeat' with_reducible refine And.intro ?_ ?_) <;> try (first | omega | (simp only [List.length_take, List.length_drop, List.length_append, List.length_map, List.length_replicate] <;> omega)))
  simp only [vP.down, vS.down, vE.down, Nat.reduceEqDiff, Nat.reduceAdd, Nat.reduceSub, Nat.reduceMul, Nat.reduceLeDiff, Nat.reduceLT, Int.reduceToNat, reduceIte, reduceCtorEq, Int.reduceEq, Int.reduceLT, Int.reduceLE, ↓avp_condG, ↓tf_arrow, ↓ft_arrow, vT.down]
  exact ⟨_, fun k e hk => hk, hq⟩
noncomputable def c_made_Picks_Num : Con := .gen m_made_Picks_Num F_made_Picks_Num
theorem ok_made_Picks_Num : COk Try.prog 28 c_made_Picks_Num := fn_gok sys_made_Picks_Num mixed Try.func28 (by kernel_rfl) geq_made_Picks_Num Try.ntmps28 (by rw [Try.results28]) mono_made_Picks_Num ex_made_Picks_Num body_made_Picks_Num
end Go.Proofs.Ythhgaeeeppipnaa


namespace Go.Proofs.Ythhgaeeeppipnaa
open Go Go.Eng
/-- Numbers, some of which are read: nothing else is changed. -/
def PkI (s S : Store) (g : Nat) (l : List Byt) : Prop := ∃ n, S.f g = some (pkE l n) ∧ n ≤ l.length ∧ l.length ≤ 1099511627776 ∧ ∀ k e, k ≠ g → s.f k = some e → S.f k = some e
def pkF (P : AV → Prop) (g : Nat) (s : Store) (Q : AV → Store → Prop) : Prop := ∃ l, PkI s s g l ∧ ∀ r S, P r → PkI s S g l → Q r S
theorem pkF_mono {P : AV → Prop} {g : Nat} {s : Store} {Q Q' : AV → Store → Prop} (hq : ∀ r t, Q r t → Q' r t) : pkF P g s Q → pkF P g s Q' := fun ⟨l, h, hh⟩ => ⟨l, h, fun r S a b => hq _ _ (hh r S a b)⟩
theorem pkF_ex {P : AV → Prop} {g : Nat} {s : Store} {Q : AV → Store → Prop} (hp : ∃ r, P r) : pkF P g s Q → ∃ r t, Q r t := fun ⟨l, h, hh⟩ => let ⟨r, hr⟩ := hp; ⟨r, s, hh r s hr h⟩
theorem PkI.refl' {s S : Store} {g : Nat} {l : List Byt} (h : PkI s S g l) : PkI S S g l := let ⟨n, a, b, c, _⟩ := h; ⟨n, a, b, c, fun _ _ _ h => h⟩
theorem PkI.trans {s S S' : Store} {g : Nat} {l : List Byt} (h : PkI s S g l) (h' : PkI S S' g l) : PkI s S' g l := let ⟨_, _, _, _, d⟩ := h; let ⟨n, a, b, c, d'⟩ := h'; ⟨n, a, b, c, fun k e hk hs => d' k e hk (d k e hk hs)⟩
theorem PkI.fresh {s S : Store} {g : Nat} {l : List Byt} (h : PkI s S g l) {k : Nat} {e : Option Entry} (hk : S.f k = none) : PkI s (S.set k e) g l := by
  obtain ⟨n, a, b, c, d⟩ := h
  refine ⟨n, ?_, b, c, fun j e' hj hs => ?_⟩
  · rw [Store.set_other _ _ (fun h => by rw [← h, a] at hk; cases hk)]; exact a
  · have := d j e' hj hs
    rw [Store.set_other _ _ (fun h => by rw [← h, this] at hk; cases hk)]; exact this
theorem PkI.box {s S : Store} {g : Nat} {l : List Byt} (h : PkI s S g l) {k : Nat} {e : Option Entry} (hk : s.f k = none) (hkg : k ≠ g) : PkI s (S.set k e) g l := by
  obtain ⟨n, a, b, c, d⟩ := h
  refine ⟨n, ?_, b, c, fun j e' hj hs => ?_⟩
  · rw [Store.set_other _ _ hkg.symm]; exact a
  · rw [Store.set_other _ _ (fun h => by rw [h, hk] at hs; cases hs)]; exact d j e' hj hs
theorem PkI.keep {s S : Store} {g : Nat} {l : List Byt} (h : PkI s S g l) {k : Nat} {e : Entry} (hk : s.f k = some e) (hkg : k ≠ g) : S.f k = some e := let ⟨_, _, _, _, d⟩ := h; d k e hkg hk
theorem PkI.ne {s S : Store} {g : Nat} {l : List Byt} (h : PkI s S g l) {k : Nat} (hk : S.f k = none) : k ≠ g := fun e => by
  obtain ⟨n, a, _⟩ := h
  rw [e, a] at hk; cases hk
theorem PkI.old {s S : Store} {g : Nat} {l : List Byt} (h : PkI s S g l) {k : Nat} (hk : S.f k = none) : s.f k = none := by
  cases hs : s.f k with
  | none => rfl
  | some e => have := h.keep hs (h.ne hk); rw [hk] at this; cases this
/-- A number is chosen. -/
theorem num_any {s : Store} {g : Nat} {l : List Byt} {m : Int} {Q : AV → Store → Prop} (h : PkI s s g l) (hm : 1 ≤ m) (hq : ∀ v S, 0 ≤ v → v < m → PkI s S g l → Q (.t (.int .i64 v)) S) : F_made_Picks_Num [.ptr g 0, .t (.int .i64 m)] s Q := by
  obtain ⟨n, a, b, c, _⟩ := h
  refine ⟨g, l, n, m, rfl, a, c, b, ?_⟩
  obtain ⟨h1, h2⟩ := numV_bd (l := l) (n := n) hm
  exact hq _ _ h1 h2 ⟨_, Store.set_same _ _ _, numN_bd b, c, fun k e hk hs => by rw [Store.set_other _ _ hk]; exact hs⟩
def pathS : List (List UInt8) := [[97], [98], [99], [97, 47, 98], [97, 47, 99], [98, 47, 97], [97, 47, 98, 47, 99], [100], [99, 47, 100], [], [47, 97], [97, 47, 47, 98], [116, 111, 111, 108, 111, 110, 103, 110, 97, 109, 101], [65], [46, 46]]
def pathP (r : AV) : Prop := ∃ p : List UInt8, r = .t (.str p) ∧ p.length ≤ 255
def G_made_Picks_Path : GCode := .seq (.region [⟨(some 2), none, .assign (.const (.string ⟨#[]⟩))⟩]) (.seq (.region [⟨(some 3), none, .buildSlice 31 15 #[(0, .const (.string ⟨#[97]⟩)), (1, .const (.string ⟨#[98]⟩)), (2, .const (.string ⟨#[99]⟩)), (3, .const (.string ⟨#[97, 47, 98]⟩)), (4, .const (.string ⟨#[97, 47, 99]⟩)), (5, .const (.string ⟨#[98, 47, 97]⟩)), (6, .const (.string ⟨#[97, 47, 98, 47, 99]⟩)), (7, .const (.string ⟨#[100]⟩)), (8, .const (.string ⟨#[99, 47, 100]⟩)), (9, .const (.string ⟨#[]⟩)), (10, .const (.string ⟨#[47, 97]⟩)), (11, .const (.string ⟨#[97, 47, 47, 98]⟩)), (12, .const (.string ⟨#[116, 111, 111, 108, 111, 110, 103, 110, 97, 109, 101]⟩)), (13, .const (.string ⟨#[65]⟩)), (14, .const (.string ⟨#[46, 46]⟩))]⟩, ⟨(some 4), none, .move (.tmp 0)⟩, ⟨(some 5), none, .call ⟨.value (.func 28), #[.tmp 4, .const (.int .i64 15)], #[40, 3]⟩⟩, ⟨(some 6), none, .indexAddr 31 (.tmp 3) (.tmp 5)⟩, ⟨(some 7), none, .load 9 (.tmp 6)⟩, ⟨(some 2), none, .assign (.tmp 7)⟩]) (.ret))
noncomputable def l_made_Picks_Path : List (Nat × Con) := [(28, c_made_Picks_Num)]
noncomputable abbrev K_made_Picks_Path : Ctx := ctx (cl l_made_Picks_Path)
theorem geq_made_Picks_Path : gof K_made_Picks_Path Try.f41 = some G_made_Picks_Path.strip := by kernel_rfl
theorem sys_made_Picks_Path : Go.Eng.Sys Try.prog K_made_Picks_Path := sys_of' ⟨ok_made_Picks_Num, trivial⟩
theorem hm_made_Picks_Path : ConMono K_made_Picks_Path := conMono_of sys_made_Picks_Path.con
noncomputable def k_made_Picks_Path_made_Picks_Num := PLift.up (call_gen (C := K_made_Picks_Path) (f := 28) (modes := m_made_Picks_Num) (F := F_made_Picks_Num) rfl)
def m_made_Picks_Path : List Bool := [true]
def F_made_Picks_Path (xs : List AV) (s : Store) (Q : AV → Store → Prop) : Prop := ∃ g, xs = [.ptr g 0] ∧ pkF pathP g s Q
theorem mono_made_Picks_Path (xs : List AV) (s : Store) (Q Q' : AV → Store → Prop) (hq : ∀ r t, Q r t → Q' r t) : F_made_Picks_Path xs s Q → F_made_Picks_Path xs s Q' := fun ⟨g, a, b⟩ => ⟨g, a, pkF_mono hq b⟩
theorem ex_made_Picks_Path (xs : List AV) (s : Store) (Q : AV → Store → Prop) : F_made_Picks_Path xs s Q → ∃ r t, Q r t := fun ⟨_, _, b⟩ => pkF_ex ⟨_, [], rfl, by simp⟩ b
set_option maxRecDepth 10000 in
theorem body_made_Picks_Path (xs : List AV) (s : Store) (Q : AV → Store → Prop) (h : F_made_Picks_Path xs s Q) : xs.length ≤ 8 ∧ avp K_made_Picks_Path G_made_Picks_Path (Ret K_made_Picks_Path [.tmp 2] fun r s' => ∃ s'', Sub s'' s' ∧ Q r s'') (entry xs s) := by
  obtain ⟨g, rfl, l, h, hq⟩ := h
  refine ⟨by simp, ?_⟩
  unfold G_made_Picks_Path
  simp only [vP.down, vS.down, vE.down, Nat.reduceEqDiff, Nat.reduceAdd, Nat.reduceSub, Nat.reduceMul, Nat.reduceLeDiff, Nat.reduceLT, Int.reduceToNat, reduceIte, reduceCtorEq, Int.reduceEq, Int.reduceLT, Int.reduceLE, ↓avp_condG, ↓tf_arrow, ↓ft_arrow]
  intro g3 hg3
  simp only [vP.down, vS.down, vE.down, Nat.reduceEqDiff, Nat.reduceAdd, Nat.reduceSub, Nat.reduceMul, Nat.reduceLeDiff, Nat.reduceLT, Int.reduceToNat, reduceIte, reduceCtorEq, Int.reduceEq, Int.reduceLT, Int.reduceLE, ↓avp_condG, ↓tf_arrow, ↓ft_arrow, k_made_Picks_Path_made_Picks_Num.down, m_made_Picks_Num]
  have h1 : PkI s (s.set g3 (some (.row 1 (pathS.map Cell.enc) false))) g l := h.fresh hg3
  refine num_any h1.refl' (by omega) fun v S hv0 hv1 h2 => ?_
  have h3 := h2.keep (Store.set_same _ _ _) (h.ne hg3)
  obtain ⟨i, rfl⟩ : ∃ i : Nat, v = (i : Int) := ⟨v.toNat, by omega⟩
  have hi : i < pathS.length := by show i < 15; omega
  have hrow := rowL_at (α := List UInt8) (w := 1) rfl h3 hi
  have hp : (pathS.getD i default).length ≤ 255 := by
    have : ∀ i, i < 15 → (pathS.getD i default).length ≤ 255 := by decide
    exact this i hi
  simp only [vP.down, vS.down, vE.down, Nat.reduceEqDiff, Nat.reduceAdd, Nat.reduceSub, Nat.reduceMul, Nat.reduceLeDiff, Nat.reduceLT, Int.reduceToNat, reduceIte, reduceCtorEq, Int.reduceEq, Int.reduceLT, Int.reduceLE, ↓avp_condG, ↓tf_arrow, ↓ft_arrow, hrow]
  refine ⟨by omega, ?_⟩
  simp only [vP.down, vS.down, vE.down, Nat.reduceEqDiff, Nat.reduceAdd, Nat.reduceSub, Nat.reduceMul, Nat.reduceLeDiff, Nat.reduceLT, Int.reduceToNat, reduceIte, reduceCtorEq, Int.reduceEq, Int.reduceLT, Int.reduceLE, ↓avp_condG, ↓tf_arrow, ↓ft_arrow, vT.down]
  exact ⟨S, fun _ _ h => h, hq _ _ ⟨_, rfl, hp⟩ (h1.trans h2)⟩
noncomputable def c_made_Picks_Path : Con := .gen m_made_Picks_Path F_made_Picks_Path
theorem ok_made_Picks_Path : COk Try.prog 41 c_made_Picks_Path := fn_gok sys_made_Picks_Path mixed Try.func41 (by kernel_rfl) geq_made_Picks_Path Try.ntmps41 (by rw [Try.results41]) mono_made_Picks_Path ex_made_Picks_Path body_made_Picks_Path

theorem u8_wrap (x : Int) : IntKind.u8.wrap x = ((byt x).toNat : Int) := by
  rw [byt_nat]
  simp [IntKind.wrap, IntKind.signed, IntKind.bits]
def textP (r : AV) : Prop := ∃ p : List UInt8, r = .t (.str p) ∧ p.length ≤ 255
def G_made_Picks_Text : GCode := .seq (.region [⟨(some 2), none, .assign (.const (.string ⟨#[]⟩))⟩]) (.seq (.region [⟨(some 7), none, .buildSlice 22 8 #[(0, .const (.int .i64 0)), (1, .const (.int .i64 1)), (2, .const (.int .i64 3)), (3, .const (.int .i64 17)), (4, .const (.int .i64 32)), (5, .const (.int .i64 33)), (6, .const (.int .i64 64)), (7, .const (.int .i64 129))]⟩, ⟨(some 8), none, .move (.tmp 0)⟩, ⟨(some 9), none, .call ⟨.value (.func 28), #[.tmp 8, .const (.int .i64 8)], #[40, 3]⟩⟩, ⟨(some 10), none, .indexAddr 22 (.tmp 7) (.tmp 9)⟩, ⟨(some 11), none, .load 3 (.tmp 10)⟩, ⟨(some 3), none, .assign (.tmp 11)⟩]) (.seq (.region [⟨(some 12), none, .move (.tmp 0)⟩, ⟨(some 13), none, .call ⟨.value (.func 28), #[.tmp 12, .const (.int .i64 4)], #[40, 3]⟩⟩, ⟨(some 14), none, .binOp .mul 3 (.tmp 13) (.const (.int .i64 40)) 3⟩, ⟨(some 15), none, .convert 3 5 (.tmp 14)⟩, ⟨(some 4), none, .assign (.tmp 15)⟩]) (.seq (.region [⟨(some 16), none, .move (.tmp 3)⟩, ⟨(some 17), none, .makeSlice 25 (.tmp 16) (.tmp 16)⟩, ⟨(some 5), none, .assign (.tmp 17)⟩]) (.seq (.seq (.region [⟨(some 6), none, .assign (.const (.int .i64 0))⟩]) (.block 0 (.loop (.seq .weak (.seq (.seq (.region [⟨(some 18), none, .move (.tmp 6)⟩, ⟨(some 19), none, .move (.tmp 3)⟩, ⟨(some 20), none, .binOp .lss 3 (.tmp 18) (.tmp 19) 3⟩]) (.cond (.tmp 20) (.skip) (.exit 0))) (.seq (.block 1 (.seq (.region [⟨(some 23), none, .move (.tmp 4)⟩, ⟨(some 24), none, .binOp .gtr 5 (.tmp 23) (.const (.int .u8 0)) 5⟩]) (.cond (.tmp 24) (.region [⟨(some 25), none, .move (.tmp 5)⟩, ⟨(some 26), none, .move (.tmp 6)⟩, ⟨(some 27), none, .move (.tmp 4)⟩, ⟨(some 28), none, .move (.tmp 6)⟩, ⟨(some 29), none, .binOp .rem 3 (.tmp 28) (.const (.int .i64 5)) 3⟩, ⟨(some 30), none, .convert 3 5 (.tmp 29)⟩, ⟨(some 31), none, .binOp .add 5 (.tmp 27) (.tmp 30) 5⟩, ⟨(some 32), none, .indexAddr 25 (.tmp 25) (.tmp 26)⟩, ⟨none, none, .store 5 (.tmp 32) (.tmp 31)⟩]) (.skip)))) (.region [⟨(some 21), none, .move (.tmp 6)⟩, ⟨(some 22), none, .binOp .add 3 (.tmp 21) (.const (.int .i64 1)) 3⟩, ⟨(some 6), none, .assign (.tmp 22)⟩]))))))) (.seq (.region [⟨(some 33), none, .move (.tmp 5)⟩, ⟨(some 34), none, .convert 25 9 (.tmp 33)⟩, ⟨(some 2), none, .assign (.tmp 34)⟩]) (.ret))))))
noncomputable def l_made_Picks_Text : List (Nat × Con) := [(28, c_made_Picks_Num)]
noncomputable abbrev K_made_Picks_Text : Ctx := ctx (cl l_made_Picks_Text)
theorem geq_made_Picks_Text : gof K_made_Picks_Text Try.f42 = some G_made_Picks_Text.strip := by kernel_rfl
theorem sys_made_Picks_Text : Go.Eng.Sys Try.prog K_made_Picks_Text := sys_of' ⟨ok_made_Picks_Num, trivial⟩
theorem hm_made_Picks_Text : ConMono K_made_Picks_Text := conMono_of sys_made_Picks_Text.con
noncomputable def k_made_Picks_Text_made_Picks_Num := PLift.up (call_gen (C := K_made_Picks_Text) (f := 28) (modes := m_made_Picks_Num) (F := F_made_Picks_Num) rfl)
def m_made_Picks_Text : List Bool := [true]
def F_made_Picks_Text (xs : List AV) (s : Store) (Q : AV → Store → Prop) : Prop := ∃ g, xs = [.ptr g 0] ∧ pkF textP g s Q
theorem mono_made_Picks_Text (xs : List AV) (s : Store) (Q Q' : AV → Store → Prop) (hq : ∀ r t, Q r t → Q' r t) : F_made_Picks_Text xs s Q → F_made_Picks_Text xs s Q' := fun ⟨g, a, b⟩ => ⟨g, a, pkF_mono hq b⟩
theorem ex_made_Picks_Text (xs : List AV) (s : Store) (Q : AV → Store → Prop) : F_made_Picks_Text xs s Q → ∃ r t, Q r t := fun ⟨_, _, b⟩ => pkF_ex ⟨_, [], rfl, by simp⟩ b
def lenS : List Int := [0, 1, 3, 17, 32, 33, 64, 129]
set_option maxRecDepth 10000 in
theorem body_made_Picks_Text (xs : List AV) (s : Store) (Q : AV → Store → Prop) (h : F_made_Picks_Text xs s Q) : xs.length ≤ 35 ∧ avp K_made_Picks_Text G_made_Picks_Text (Ret K_made_Picks_Text [.tmp 2] fun r s' => ∃ s'', Sub s'' s' ∧ Q r s'') (entry xs s) := by
  obtain ⟨g, rfl, l, h, hq⟩ := h
  refine ⟨by simp, ?_⟩
  unfold G_made_Picks_Text
  simp only [vP.down, vS.down, vE.down, Nat.reduceEqDiff, Nat.reduceAdd, Nat.reduceSub, Nat.reduceMul, Nat.reduceLeDiff, Nat.reduceLT, Int.reduceToNat, reduceIte, reduceCtorEq, Int.reduceEq, Int.reduceLT, Int.reduceLE, ↓avp_condG, ↓tf_arrow, ↓ft_arrow]
  intro g3 hg3
  simp only [vP.down, vS.down, vE.down, Nat.reduceEqDiff, Nat.reduceAdd, Nat.reduceSub, Nat.reduceMul, Nat.reduceLeDiff, Nat.reduceLT, Int.reduceToNat, reduceIte, reduceCtorEq, Int.reduceEq, Int.reduceLT, Int.reduceLE, ↓avp_condG, ↓tf_arrow, ↓ft_arrow, k_made_Picks_Text_made_Picks_Num.down, m_made_Picks_Num]
  have h1 : PkI s (s.set g3 (some (.row 1 (lenS.map Cell.enc) false))) g l := h.fresh hg3
  refine num_any h1.refl' (by omega) fun v S hv0 hv1 h2 => ?_
  have h3 := h2.keep (Store.set_same _ _ _) (h.ne hg3)
  obtain ⟨i, rfl⟩ : ∃ i : Nat, v = (i : Int) := ⟨v.toNat, by omega⟩
  have hi : i < lenS.length := by show i < 8; omega
  have hrow := rowL_at (α := Int) (w := 1) rfl h3 hi
  obtain ⟨n, hn, hn2⟩ : ∃ n : Nat, lenS.getD i default = (n : Int) ∧ n ≤ 129 := by
    have : ∀ i, i < 8 → (lenS.getD i default).toNat ≤ 129 ∧ 0 ≤ lenS.getD i default := by decide
    have := this i hi
    exact ⟨(lenS.getD i default).toNat, by omega, this.1⟩
  simp only [vP.down, vS.down, vE.down, Nat.reduceEqDiff, Nat.reduceAdd, Nat.reduceSub, Nat.reduceMul, Nat.reduceLeDiff, Nat.reduceLT, Int.reduceToNat, reduceIte, reduceCtorEq, Int.reduceEq, Int.reduceLT, Int.reduceLE, ↓avp_condG, ↓tf_arrow, ↓ft_arrow, hrow, hn, k_made_Picks_Text_made_Picks_Num.down, m_made_Picks_Num]
  refine ⟨by omega, ?_⟩
  have h4 := h1.trans h2
  refine num_any h4.refl' (by omega) fun c S2 hc0 hc1 h5 => ?_
  have h6 := h4.trans h5
  simp only [vP.down, vS.down, vE.down, Nat.reduceEqDiff, Nat.reduceAdd, Nat.reduceSub, Nat.reduceMul, Nat.reduceLeDiff, Nat.reduceLT, Int.reduceToNat, reduceIte, reduceCtorEq, Int.reduceEq, Int.reduceLT, Int.reduceLE, ↓avp_condG, ↓tf_arrow, ↓ft_arrow]
  ((repeat' with_reducible refine And.intro ?_ ?_) <;> try (first | omega | (simp only [List.length_take, List.length_drop, List.length_append, List.length_map, List.length_replicate] <;> omega)))
  intro gb hgb
  have hgbs := h6.old hgb
  have hgbg := h6.ne hgb
  obtain ⟨cv, hcv⟩ : ∃ cv, cv = IntKind.u8.wrap (IntKind.i64.wrap (c * 40)) := ⟨_, rfl⟩
  rw [← hcv]
  have hrep : List.replicate n [TV.int .u8 0] = ((List.replicate n (0 : UInt8)).map Byt.mk).map Cell.enc := by simp only [List.map_replicate]; rfl
  rw [hrep]
  refine loop_weak hm_made_Picks_Text (fun m σ => ∃ (j : Nat) (bs : List UInt8) (S : Store), m = n - j ∧ j ≤ n ∧ bs.length = n ∧ S.f gb = some (.row 1 ((bs.map Byt.mk).map Cell.enc) false) ∧ PkI s S g l ∧
    σ = mkS [(3, .t (.int .i64 (n : Nat))), (4, .t (.int .u8 cv)), (5, .tok gb 1 0 n), (6, .t (.int .i64 (j : Nat)))] S)
    ⟨0, List.replicate n 0, (S2.set gb (some (.row 1 (((List.replicate n (0 : UInt8)).map Byt.mk).map Cell.enc) false))), rfl, by omega, by simp, Store.set_same _ _ _, h6.box hgbs hgbg, rfl⟩ (wk_to fewer_refl (by simp only [vP.down, vS.down, vE.down, Nat.reduceEqDiff, Nat.reduceAdd, Nat.reduceSub, Nat.reduceMul, Nat.reduceLeDiff, Nat.reduceLT, Int.reduceToNat, reduceIte, reduceCtorEq, Int.reduceEq, Int.reduceLT, Int.reduceLE, ↓avp_condG, ↓tf_arrow, ↓ft_arrow, wP.down, Int.natCast_zero])) ?_
  rintro m _ ⟨j, bs, S3, rfl, hj, hbs, hrw, h7, rfl⟩
  have hj1 : IntKind.i64.wrap ((j : Int) + 1) = ((j + 1 : Nat) : Int) := by rw [IntWalk.i64_in _ (by omega)]; rfl
  by_cases hlt : j < n
  case neg =>
    obtain rfl : j = n := by omega
    have hge : ¬ ((j : Int) < (j : Int)) := by omega
    have hcv2 : convB K_made_Picks_Text S3 25 9 (.tok gb 1 0 j) = .val True (.t (.str bs)) := by
      have ht : ((((bs.map Byt.mk).map Cell.enc).drop 0).take j) = (bs.map Byt.mk).map Cell.enc := by rw [List.drop_zero, List.take_of_length_le (by simp [hbs])]
      simp only [convB, ty_Luint8, ty_uint8, ty_string, hrw, ht, u8s_enc, map_v]
      simp [hbs]
    simp only [vP.down, vS.down, vE.down, Nat.reduceEqDiff, Nat.reduceAdd, Nat.reduceSub, Nat.reduceMul, Nat.reduceLeDiff, Nat.reduceLT, Int.reduceToNat, reduceIte, reduceCtorEq, Int.reduceEq, Int.reduceLT, Int.reduceLE, ↓avp_condG, ↓tf_arrow, ↓ft_arrow, hge, hcv2]
    simp only [vP.down, vS.down, vE.down, Nat.reduceEqDiff, Nat.reduceAdd, Nat.reduceSub, Nat.reduceMul, Nat.reduceLeDiff, Nat.reduceLT, Int.reduceToNat, reduceIte, reduceCtorEq, Int.reduceEq, Int.reduceLT, Int.reduceLE, ↓avp_condG, ↓tf_arrow, ↓ft_arrow, vT.down]
    exact ⟨S3, fun _ _ h => h, hq _ _ ⟨bs, rfl, by omega⟩ h7⟩
  have hlt' : (j : Int) < (n : Int) := by omega
  by_cases hc : 0 < cv
  · simp only [vP.down, vS.down, vE.down, Nat.reduceEqDiff, Nat.reduceAdd, Nat.reduceSub, Nat.reduceMul, Nat.reduceLeDiff, Nat.reduceLT, Int.reduceToNat, reduceIte, reduceCtorEq, Int.reduceEq, Int.reduceLT, Int.reduceLE, ↓avp_condG, ↓tf_arrow, ↓ft_arrow, hlt', hc, gt_iff_lt, u8_wrap, hrw, put_byt, set_byt, List.length_map, hbs]
    refine ⟨by omega, hlt, by simp, ?_⟩
    exact round_to (n - (j + 1)) [(3, .t (.int .i64 (n : Nat))), (4, .t (.int .u8 cv)), (5, .tok gb 1 0 n), (6, .t (.int .i64 (j + 1 : Nat)))] _ (by omega) fewer_refl (by simp only [vP.down, vS.down, vE.down, Nat.reduceEqDiff, Nat.reduceAdd, Nat.reduceSub, Nat.reduceMul, Nat.reduceLeDiff, Nat.reduceLT, Int.reduceToNat, reduceIte, reduceCtorEq, Int.reduceEq, Int.reduceLT, Int.reduceLE, ↓avp_condG, ↓tf_arrow, ↓ft_arrow, wP.down, hj1]) ⟨j + 1, bs.set j (byt (cv + ((byt ((j : Int).tmod 5)).toNat : Int))), _, rfl, hlt, by rw [List.length_set, hbs], Store.set_same _ _ _, h7.box hgbs hgbg, rfl⟩
  · simp only [vP.down, vS.down, vE.down, Nat.reduceEqDiff, Nat.reduceAdd, Nat.reduceSub, Nat.reduceMul, Nat.reduceLeDiff, Nat.reduceLT, Int.reduceToNat, reduceIte, reduceCtorEq, Int.reduceEq, Int.reduceLT, Int.reduceLE, ↓avp_condG, ↓tf_arrow, ↓ft_arrow, hlt', hc, gt_iff_lt]
    exact round_to (n - (j + 1)) [(3, .t (.int .i64 (n : Nat))), (4, .t (.int .u8 cv)), (5, .tok gb 1 0 n), (6, .t (.int .i64 (j + 1 : Nat)))] S3 (by omega) fewer_refl (by simp only [vP.down, vS.down, vE.down, Nat.reduceEqDiff, Nat.reduceAdd, Nat.reduceSub, Nat.reduceMul, Nat.reduceLeDiff, Nat.reduceLT, Int.reduceToNat, reduceIte, reduceCtorEq, Int.reduceEq, Int.reduceLT, Int.reduceLE, ↓avp_condG, ↓tf_arrow, ↓ft_arrow, wP.down, hj1]) ⟨j + 1, bs, S3, rfl, hlt, hbs, hrw, h7, rfl⟩
noncomputable def c_made_Picks_Text : Con := .gen m_made_Picks_Text F_made_Picks_Text
theorem ok_made_Picks_Text : COk Try.prog 42 c_made_Picks_Text := fn_gok sys_made_Picks_Text mixed Try.func42 (by kernel_rfl) geq_made_Picks_Text Try.ntmps42 (by rw [Try.results42]) mono_made_Picks_Text ex_made_Picks_Text body_made_Picks_Text
end Go.Proofs.Ythhgaeeeppipnaa


namespace Go.Proofs.Ythhgaeeeppipnaa
open Go Go.Eng
theorem good_def {x : TStep} (h1 : 1 ≤ x.Kind) (h2 : x.Kind ≤ 22) (h3 : inL x) (h4 : norm x = x) : good x = true := by
  unfold good
  simp only [Bool.and_eq_true, decide_eq_true_eq]
  exact ⟨⟨⟨h1, h2⟩, h3⟩, h4⟩
def n2 (n : Int) : Prop := 0 ≤ n ∧ n < 65536
theorem gd_make {k id n : Int} {p : List UInt8} (hk : k = 1 ∨ k = 5) (h1 : n2 id) (h2 : n2 n) (hp : p.length ≤ 255) : good ⟨k, id, n, 0, 0, p, [], [], []⟩ = true := by
  have e : fldL k = [0, 1, 4] := by rcases hk with rfl | rfl <;> rfl
  refine good_def (by show 1 ≤ k; omega) (by show k ≤ 22; omega) (by simp [inL, hp]) ?_
  simp [norm, setX, setN, step0, e, setF, msk, getN, getX, wd, two6, Int.emod_eq_of_lt h1.1 h1.2, Int.emod_eq_of_lt h2.1 h2.2]
theorem gd_drop {k id : Int} {p : List UInt8} (hk : k = 2 ∨ k = 7 ∨ k = 8) (h1 : n2 id) (hp : p.length ≤ 255) : good ⟨k, id, 0, 0, 0, p, [], [], []⟩ = true := by
  have e : fldL k = [0, 4] := by rcases hk with rfl | rfl | rfl <;> rfl
  refine good_def (by show 1 ≤ k; omega) (by show k ≤ 22; omega) (by simp [inL, hp]) ?_
  simp [norm, setX, setN, step0, e, setF, msk, getN, getX, wd, two6, Int.emod_eq_of_lt h1.1 h1.2]
theorem gd_move {id : Int} {p q : List UInt8} (h1 : n2 id) (hp : p.length ≤ 255) (hq : q.length ≤ 255) : good ⟨3, id, 0, 0, 0, p, q, [], []⟩ = true := by
  have e : fldL 3 = [0, 4, 5] := rfl
  refine good_def (by show (1 : Int) ≤ 3; omega) (by show (3 : Int) ≤ 22; omega) (by simp [inL, hp, hq]) ?_
  simp [norm, setX, setN, step0, e, setF, msk, getN, getX, wd, two6, Int.emod_eq_of_lt h1.1 h1.2]
theorem gd_write {id n : Int} {p q : List UInt8} (h1 : n2 id) (h2 : n2 n) (hp : p.length ≤ 255) (hq : q.length ≤ 255) : good ⟨4, id, n, 0, 0, p, [], q, []⟩ = true := by
  have e : fldL 4 = [0, 1, 4, 6] := rfl
  refine good_def (by show (1 : Int) ≤ 4; omega) (by show (4 : Int) ≤ 22; omega) (by simp [inL, hp, hq]) ?_
  simp [norm, setX, setN, step0, e, setF, msk, getN, getX, wd, two6, Int.emod_eq_of_lt h1.1 h1.2, Int.emod_eq_of_lt h2.1 h2.2]
theorem gd_read {id n m : Int} {p : List UInt8} (h1 : n2 id) (h2 : n2 n) (h3 : n2 m) (hp : p.length ≤ 255) : good ⟨6, id, n, m, 0, p, [], [], []⟩ = true := by
  have e : fldL 6 = [0, 1, 2, 4] := rfl
  refine good_def (by show (1 : Int) ≤ 6; omega) (by show (6 : Int) ≤ 22; omega) (by simp [inL, hp]) ?_
  simp [norm, setX, setN, step0, e, setF, msk, getN, getX, wd, two6, Int.emod_eq_of_lt h1.1 h1.2, Int.emod_eq_of_lt h2.1 h2.2, Int.emod_eq_of_lt h3.1 h3.2]
theorem gd_n {k n : Int} (hk : k = 9 ∨ k = 15 ∨ k = 18 ∨ k = 19 ∨ k = 20) (h2 : n2 n) : good ⟨k, 0, n, 0, 0, [], [], [], []⟩ = true := by
  have e : fldL k = [1] := by rcases hk with rfl | rfl | rfl | rfl | rfl <;> rfl
  refine good_def (by show 1 ≤ k; omega) (by show k ≤ 22; omega) (by simp [inL]) ?_
  simp [norm, setX, setN, step0, e, setF, msk, getN, getX, wd, two6, Int.emod_eq_of_lt h2.1 h2.2]
theorem gd_id {k id : Int} (hk : k = 10 ∨ k = 11 ∨ k = 12 ∨ k = 14) (h1 : n2 id) : good ⟨k, id, 0, 0, 0, [], [], [], []⟩ = true := by
  have e : fldL k = [0] := by rcases hk with rfl | rfl | rfl | rfl <;> rfl
  refine good_def (by show 1 ≤ k; omega) (by show k ≤ 22; omega) (by simp [inL]) ?_
  simp [norm, setX, setN, step0, e, setF, msk, getN, getX, wd, two6, Int.emod_eq_of_lt h1.1 h1.2]
theorem gd_back {id n : Int} (h1 : n2 id) (h2 : n2 n) : good ⟨13, id, n, 0, 0, [], [], [], []⟩ = true := by
  have e : fldL 13 = [0, 1] := rfl
  refine good_def (by show (1 : Int) ≤ 13; omega) (by show (13 : Int) ≤ 22; omega) (by simp [inL]) ?_
  simp [norm, setX, setN, step0, e, setF, msk, getN, getX, wd, two6, Int.emod_eq_of_lt h1.1 h1.2, Int.emod_eq_of_lt h2.1 h2.2]
theorem gd_none {k : Int} (hk : k = 16 ∨ k = 17) : good ⟨k, 0, 0, 0, 0, [], [], [], []⟩ = true := by
  have e : fldL k = [] := by rcases hk with rfl | rfl <;> rfl
  refine good_def (by show 1 ≤ k; omega) (by show k ≤ 22; omega) (by simp [inL]) ?_
  simp [norm, step0, e]
theorem gd_turn {n m b : Int} (h1 : n2 n) (h2 : n2 m) (h3 : 0 ≤ b ∧ b < 256) : good ⟨22, 0, n, m, b, [], [], [], []⟩ = true := by
  have e : fldL 22 = [1, 2, 3] := rfl
  refine good_def (by show (1 : Int) ≤ 22; omega) (by show (22 : Int) ≤ 22; omega) (by simp [inL]) ?_
  simp [norm, setX, setN, step0, e, setF, msk, getN, getX, wd, two6, Int.emod_eq_of_lt h1.1 h1.2, Int.emod_eq_of_lt h2.1 h2.2, Int.emod_eq_of_lt h3.1 h3.2]
theorem gd_keep {l : List Int} (h : ∀ k ∈ l, 0 ≤ k ∧ k < 4) (hl : l.length ≤ 60) : good ⟨21, 0, 0, 0, 0, [], [], [], l⟩ = true := by
  have e : fldL 21 = [7] := rfl
  refine good_def (by show (1 : Int) ≤ 21; omega) (by show (21 : Int) ≤ 22; omega) (by simp [inL, hl]) ?_
  have : l.map (fun k => k % 4) = l := by
    rw [← List.map_id l, List.map_map]
    refine List.map_congr_left fun k hk => ?_
    have := h k (by simpa using hk)
    simp only [Function.comp_apply, id]; omega
  simp only [norm, step0, e, setF, List.foldl_cons, List.foldl_nil, List.nil_append, this]; simp
def stepP (r : AV) : Prop := ∃ x : TStep, good x = true ∧ x.Keep = [] ∧ r = .agg (stC x (.t .nilS))
theorem stepP_ex : ∃ r, stepP r := ⟨_, _, gd_none (k := 16) (.inl rfl), rfl, rfl⟩
def G_made_Picks_set : GCode := .seq (.region [⟨(some 4), none, .alloc 24⟩]) (.seq (.region [⟨(some 6), none, .move (.tmp 0)⟩, ⟨(some 7), none, .call ⟨.value (.func 28), #[.tmp 6, .const (.int .i64 6)], #[40, 3]⟩⟩, ⟨(some 8), none, .binOp .add 3 (.const (.int .i64 9)) (.tmp 7) 3⟩, ⟨(some 9), none, .move (.tmp 1)⟩, ⟨(some 10), none, .build 24 #[(0, .tmp 8), (1, .tmp 9)]⟩, ⟨(some 5), none, .alloc 24⟩, ⟨none, none, .store 24 (.tmp 5) (.tmp 10)⟩]) (.seq (.seq (.region [⟨(some 11), none, .fieldAddr 24 (.tmp 5) 0⟩, ⟨(some 12), none, .load 3 (.tmp 11)⟩]) (.block 0 (.seq (.region [⟨(some 14), none, .binOp .eql 3 (.tmp 12) (.const (.int .i64 9)) 3⟩, ⟨(some 13), none, .assign (.tmp 14)⟩]) (.cond (.tmp 13) (.region [⟨(some 15), none, .move (.tmp 0)⟩, ⟨(some 16), none, .call ⟨.value (.func 28), #[.tmp 15, .const (.int .i64 9)], #[40, 3]⟩⟩, ⟨(some 17), none, .fieldAddr 24 (.tmp 5) 1⟩, ⟨none, none, .store 3 (.tmp 17) (.const (.int .i64 0))⟩, ⟨(some 18), none, .fieldAddr 24 (.tmp 5) 2⟩, ⟨none, none, .store 3 (.tmp 18) (.tmp 16)⟩]) (.seq (.region [⟨(some 20), none, .binOp .eql 3 (.tmp 12) (.const (.int .i64 13)) 3⟩, ⟨(some 19), none, .assign (.tmp 20)⟩]) (.cond (.tmp 19) (.region [⟨(some 21), none, .move (.tmp 0)⟩, ⟨(some 22), none, .call ⟨.value (.func 28), #[.tmp 21, .const (.int .i64 8)], #[40, 3]⟩⟩, ⟨(some 23), none, .binOp .add 3 (.const (.int .i64 1)) (.tmp 22) 3⟩, ⟨(some 24), none, .fieldAddr 24 (.tmp 5) 2⟩, ⟨none, none, .store 3 (.tmp 24) (.tmp 23)⟩]) (.skip))))))) (.seq (.region [⟨(some 25), none, .load 24 (.tmp 5)⟩, ⟨none, none, .store 24 (.tmp 4) (.tmp 25)⟩]) (.ret))))
noncomputable def l_made_Picks_set : List (Nat × Con) := [(28, c_made_Picks_Num)]
noncomputable abbrev K_made_Picks_set : Ctx := ctx (cl l_made_Picks_set)
theorem geq_made_Picks_set : gof K_made_Picks_set Try.f40 = some G_made_Picks_set.strip := by kernel_rfl
theorem sys_made_Picks_set : Go.Eng.Sys Try.prog K_made_Picks_set := sys_of' ⟨ok_made_Picks_Num, trivial⟩
theorem hm_made_Picks_set : ConMono K_made_Picks_set := conMono_of sys_made_Picks_set.con
noncomputable def k_made_Picks_set_made_Picks_Num := PLift.up (call_gen (C := K_made_Picks_set) (f := 28) (modes := m_made_Picks_Num) (F := F_made_Picks_Num) rfl)
def m_made_Picks_set : List Bool := [true, false]
def F_made_Picks_set (xs : List AV) (s : Store) (Q : AV → Store → Prop) : Prop := ∃ g id, xs = [.ptr g 0, .t (.int .i64 id)] ∧ n2 id ∧ pkF stepP g s Q
theorem mono_made_Picks_set (xs : List AV) (s : Store) (Q Q' : AV → Store → Prop) (hq : ∀ r t, Q r t → Q' r t) : F_made_Picks_set xs s Q → F_made_Picks_set xs s Q' := fun ⟨g, i, a, c, b⟩ => ⟨g, i, a, c, pkF_mono hq b⟩
theorem ex_made_Picks_set (xs : List AV) (s : Store) (Q : AV → Store → Prop) : F_made_Picks_set xs s Q → ∃ r t, Q r t := fun ⟨_, _, _, _, b⟩ => pkF_ex stepP_ex b
set_option maxRecDepth 10000 in
set_option maxHeartbeats 4000000 in
theorem body_made_Picks_set (xs : List AV) (s : Store) (Q : AV → Store → Prop) (h : F_made_Picks_set xs s Q) : xs.length ≤ 26 ∧ avp K_made_Picks_set G_made_Picks_set (Ret K_made_Picks_set [.cell 4 24] fun r s' => ∃ s'', Sub s'' s' ∧ Q r s'') (entry xs s) := by
  obtain ⟨g, id, rfl, hid, l, h, hq⟩ := h
  refine ⟨by simp, ?_⟩
  unfold G_made_Picks_set
  simp only [vP.down, vS.down, vE.down, Nat.reduceEqDiff, Nat.reduceAdd, Nat.reduceSub, Nat.reduceMul, Nat.reduceLeDiff, Nat.reduceLT, Int.reduceToNat, reduceIte, reduceCtorEq, Int.reduceEq, Int.reduceLT, Int.reduceLE, ↓avp_condG, ↓tf_arrow, ↓ft_arrow]
  intro g4 hg4
  simp only [vP.down, vS.down, vE.down, Nat.reduceEqDiff, Nat.reduceAdd, Nat.reduceSub, Nat.reduceMul, Nat.reduceLeDiff, Nat.reduceLT, Int.reduceToNat, reduceIte, reduceCtorEq, Int.reduceEq, Int.reduceLT, Int.reduceLE, ↓avp_condG, ↓tf_arrow, ↓ft_arrow, k_made_Picks_set_made_Picks_Num.down, m_made_Picks_Num]
  have h1 := h.fresh (e := some (stE step0 (.t .nilS))) hg4
  have n4 := h.ne hg4
  refine num_any h1.refl' (by omega) fun v S hv0 hv1 h2 => ?_
  have h3 := h1.trans h2
  have f4 := h2.keep (Store.set_same _ _ _) n4
  have w1 : IntKind.i64.wrap (9 + v) = 9 + v := IntWalk.i64_in _ (by omega)
  have z4 := hg4
  by_cases c0 : 9 + v = 9
  · have w9 : IntKind.i64.wrap 9 = 9 := by decide
    simp only [vP.down, vS.down, vE.down, Nat.reduceEqDiff, Nat.reduceAdd, Nat.reduceSub, Nat.reduceMul, Nat.reduceLeDiff, Nat.reduceLT, Int.reduceToNat, reduceIte, reduceCtorEq, Int.reduceEq, Int.reduceLT, Int.reduceLE, ↓avp_condG, ↓tf_arrow, ↓ft_arrow, w9, c0, k_made_Picks_set_made_Picks_Num.down, m_made_Picks_Num]
    intro g5 hg5
    have h5 := h3.fresh (e := some (stE ⟨9, id, 0, 0, 0, [], [], [], []⟩ (.t .nilS))) hg5
    have n5 := h3.ne hg5
    have n54 : g5 ≠ g4 := fun e => by rw [e, f4] at hg5; cases hg5
    have o4 : ∀ (T : Store) x, (T.set g5 x).f g4 = T.f g4 := fun _ _ => Store.set_other _ _ n54.symm
    have z5 := h3.old hg5
    refine num_any h5.refl' (by omega) fun n S2 hn0 hn1 h6 => ?_
    have h7 := h5.trans h6
    have f5 := h6.keep (Store.set_same _ _ _) n5
    have f4' := h6.keep ((Store.set_other _ _ n54.symm).trans f4) n4
    simp only [vP.down, vS.down, vE.down, Nat.reduceEqDiff, Nat.reduceAdd, Nat.reduceSub, Nat.reduceMul, Nat.reduceLeDiff, Nat.reduceLT, Int.reduceToNat, reduceIte, reduceCtorEq, Int.reduceEq, Int.reduceLT, Int.reduceLE, ↓avp_condG, ↓tf_arrow, ↓ft_arrow, f5, f4', o4, Store.set_same]
    simp only [vP.down, vS.down, vE.down, Nat.reduceEqDiff, Nat.reduceAdd, Nat.reduceSub, Nat.reduceMul, Nat.reduceLeDiff, Nat.reduceLT, Int.reduceToNat, reduceIte, reduceCtorEq, Int.reduceEq, Int.reduceLT, Int.reduceLE, ↓avp_condG, ↓tf_arrow, ↓ft_arrow, vT.down]
    exact ⟨_, fun _ _ h => h, hq _ _ ⟨⟨9, 0, n, 0, 0, [], [], [], []⟩, gd_n (.inl rfl) ⟨hn0, by omega⟩, rfl, rfl⟩ ((h7.box z5 n5).box z4 n4)⟩
  by_cases c4 : 9 + v = 13
  · have w9 : IntKind.i64.wrap 13 = 13 := by decide
    simp only [vP.down, vS.down, vE.down, Nat.reduceEqDiff, Nat.reduceAdd, Nat.reduceSub, Nat.reduceMul, Nat.reduceLeDiff, Nat.reduceLT, Int.reduceToNat, reduceIte, reduceCtorEq, Int.reduceEq, Int.reduceLT, Int.reduceLE, ↓avp_condG, ↓tf_arrow, ↓ft_arrow, w9, c4, k_made_Picks_set_made_Picks_Num.down, m_made_Picks_Num]
    intro g5 hg5
    have h5 := h3.fresh (e := some (stE ⟨13, id, 0, 0, 0, [], [], [], []⟩ (.t .nilS))) hg5
    have n5 := h3.ne hg5
    have n54 : g5 ≠ g4 := fun e => by rw [e, f4] at hg5; cases hg5
    have o4 : ∀ (T : Store) x, (T.set g5 x).f g4 = T.f g4 := fun _ _ => Store.set_other _ _ n54.symm
    have z5 := h3.old hg5
    refine num_any h5.refl' (by omega) fun n S2 hn0 hn1 h6 => ?_
    have h7 := h5.trans h6
    have f5 := h6.keep (Store.set_same _ _ _) n5
    have f4' := h6.keep ((Store.set_other _ _ n54.symm).trans f4) n4
    have w2 : IntKind.i64.wrap (1 + n) = 1 + n := IntWalk.i64_in _ (by omega)
    simp only [vP.down, vS.down, vE.down, Nat.reduceEqDiff, Nat.reduceAdd, Nat.reduceSub, Nat.reduceMul, Nat.reduceLeDiff, Nat.reduceLT, Int.reduceToNat, reduceIte, reduceCtorEq, Int.reduceEq, Int.reduceLT, Int.reduceLE, ↓avp_condG, ↓tf_arrow, ↓ft_arrow, f5, f4', o4, Store.set_same, w2]
    simp only [vP.down, vS.down, vE.down, Nat.reduceEqDiff, Nat.reduceAdd, Nat.reduceSub, Nat.reduceMul, Nat.reduceLeDiff, Nat.reduceLT, Int.reduceToNat, reduceIte, reduceCtorEq, Int.reduceEq, Int.reduceLT, Int.reduceLE, ↓avp_condG, ↓tf_arrow, ↓ft_arrow, vT.down]
    exact ⟨_, fun _ _ h => h, hq _ _ ⟨⟨13, id, 1 + n, 0, 0, [], [], [], []⟩, gd_back hid ⟨by omega, by omega⟩, rfl, rfl⟩ ((h7.box z5 n5).box z4 n4)⟩
  · simp only [vP.down, vS.down, vE.down, Nat.reduceEqDiff, Nat.reduceAdd, Nat.reduceSub, Nat.reduceMul, Nat.reduceLeDiff, Nat.reduceLT, Int.reduceToNat, reduceIte, reduceCtorEq, Int.reduceEq, Int.reduceLT, Int.reduceLE, ↓avp_condG, ↓tf_arrow, ↓ft_arrow, w1, c0, c4]
    intro g5 hg5
    have h5 := h3.fresh (e := some (stE ⟨9 + v, id, 0, 0, 0, [], [], [], []⟩ (.t .nilS))) hg5
    have n5 := h3.ne hg5
    have n54 : g5 ≠ g4 := fun e => by rw [e, f4] at hg5; cases hg5
    have o4 : ∀ (T : Store) x, (T.set g5 x).f g4 = T.f g4 := fun _ _ => Store.set_other _ _ n54.symm
    have z5 := h3.old hg5
    simp only [vP.down, vS.down, vE.down, Nat.reduceEqDiff, Nat.reduceAdd, Nat.reduceSub, Nat.reduceMul, Nat.reduceLeDiff, Nat.reduceLT, Int.reduceToNat, reduceIte, reduceCtorEq, Int.reduceEq, Int.reduceLT, Int.reduceLE, ↓avp_condG, ↓tf_arrow, ↓ft_arrow, f4, o4, Store.set_same]
    simp only [vP.down, vS.down, vE.down, Nat.reduceEqDiff, Nat.reduceAdd, Nat.reduceSub, Nat.reduceMul, Nat.reduceLeDiff, Nat.reduceLT, Int.reduceToNat, reduceIte, reduceCtorEq, Int.reduceEq, Int.reduceLT, Int.reduceLE, ↓avp_condG, ↓tf_arrow, ↓ft_arrow, vT.down]
    exact ⟨_, fun _ _ h => h, hq _ _ ⟨⟨9 + v, id, 0, 0, 0, [], [], [], []⟩, gd_id (by omega) hid, rfl, rfl⟩ (h5.box z4 n4)⟩
noncomputable def c_made_Picks_set : Con := .gen m_made_Picks_set F_made_Picks_set
theorem ok_made_Picks_set : COk Try.prog 40 c_made_Picks_set := fn_gok sys_made_Picks_set mixed Try.func40 (by kernel_rfl) geq_made_Picks_set Try.ntmps40 (by rw [Try.results40]) mono_made_Picks_set ex_made_Picks_set body_made_Picks_set
end Go.Proofs.Ythhgaeeeppipnaa

