/-
  What is taken: may it be, what is free, are two alike.
-/
import Derived.Test.YtgdaibdfjhchbaaFnsD
set_option linter.unusedSimpArgs false
set_option linter.unusedVariables false
namespace Go.Proofs.Ytgdaibdfjhchbaa
open Go Go.Eng
set_option maxRecDepth 100000
def G_space_May : GCode := .seq (.region [⟨(some 3), none, .box 26 (.tmp 1)⟩, ⟨(some 4), none, .assign (.const (.bool false))⟩]) (.seq (.seq .weak (.region [⟨(some 5), none, .load 26 (.tmp 3)⟩, ⟨(some 6), none, .build 55 #[(0, .tmp 5)]⟩, ⟨(some 7), none, .move (.tmp 0)⟩, ⟨(some 8), none, .build 57 #[(0, .tmp 6), (1, .tmp 7)]⟩, ⟨(some 9), none, .call ⟨.value (.func 36), #[.tmp 8], #[57]⟩⟩, ⟨(some 4), none, .assign (.tmp 9)⟩])) (.ret))
noncomputable def l_space_May : List (Nat × Con) := [(36, c_space_pool_may)]
noncomputable abbrev K_space_May : Ctx := ctx (cl l_space_May)
theorem geq_space_May : gof K_space_May Try.f16 = some G_space_May.strip := by kernel_rfl
theorem sys_space_May : Go.Eng.Sys Try.prog K_space_May := sys_of' ⟨ok_space_pool_may, trivial⟩
theorem hm_space_May : ConMono K_space_May := conMono_of sys_space_May.con
noncomputable def k_space_May_space_pool_may := PLift.up (call_scal (C := K_space_May) (f := 36) (A := A_space_pool_may) (p := p_space_pool_may) (r := r_space_pool_may) rfl)
def A_space_May := Arms.cons (argT Int) (Arms.cons (argA TSpace) Arms.nil)
def p_space_May (x : Int × TSpace × Unit) : Prop := lenS x.2.1
def r_space_May (x : Int × TSpace × Unit) : AV := .t (.bool (okSp x.1 x.2.1))
theorem body_space_May (x : Int × TSpace × Unit) (hp : p_space_May x) : avp K_space_May G_space_May (Ret K_space_May [.tmp 4] fun v _ => v = r_space_May x) (entry (A_space_May.enc x) .empty) := by
  obtain ⟨n, s, ⟨⟩⟩ := x
  change lenS s at hp
  change avp _ _ (Ret _ _ fun v s' => v = .t (.bool (okSp n s))) (entry [.t (.int .i64 n), .agg ((spC s).map .t)] .empty)
  unfold G_space_May
  simp only [vP.down, vS.down, vE.down, Nat.reduceEqDiff, Nat.reduceAdd, Nat.reduceSub, Nat.reduceMul, Nat.reduceLeDiff, Nat.reduceLT, Int.reduceToNat, reduceIte, reduceCtorEq, Int.reduceEq, Int.reduceLT, Int.reduceLE, ↓avp_condG, ↓tf_arrow, ↓ft_arrow, spC]
  intro g hg
  refine weak_at [(0, .t (.int .i64 n)), (3, .imm (spC s))] .empty fewer_empty (by
    simp only [vP.down, vS.down, vE.down, Nat.reduceEqDiff, Nat.reduceAdd, Nat.reduceSub, Nat.reduceMul, Nat.reduceLeDiff, Nat.reduceLT, Int.reduceToNat, reduceIte, reduceCtorEq, Int.reduceEq, Int.reduceLT, Int.reduceLE, ↓avp_condG, ↓tf_arrow, ↓ft_arrow, wP.down]
    exact w2_imm (l := spC s) (Store.set_same _ _ _) rfl) ?_
  simp only [vP.down, vS.down, vE.down, Nat.reduceEqDiff, Nat.reduceAdd, Nat.reduceSub, Nat.reduceMul, Nat.reduceLeDiff, Nat.reduceLT, Int.reduceToNat, reduceIte, reduceCtorEq, Int.reduceEq, Int.reduceLT, Int.reduceLE, ↓avp_condG, ↓tf_arrow, ↓ft_arrow, spC, hp, k_space_May_space_pool_may.down, A_space_pool_may, p_space_pool_may, r_space_pool_may]
  simp only [vP.down, vS.down, vE.down, Nat.reduceEqDiff, Nat.reduceAdd, Nat.reduceSub, Nat.reduceMul, Nat.reduceLeDiff, Nat.reduceLT, Int.reduceToNat, reduceIte, reduceCtorEq, Int.reduceEq, Int.reduceLT, Int.reduceLE, ↓avp_condG, ↓tf_arrow, ↓ft_arrow, vT.down]
noncomputable def c_space_May : Con := fnScal A_space_May p_space_May r_space_May
theorem ok_space_May : COk Try.prog 16 c_space_May := fn_sok sys_space_May mixed Try.func16 (by kernel_rfl) geq_space_May Try.ntmps16 (by rw [Try.results16]) (fun x => by unfold r_space_May; simp [AV.scal]) fun x hx => ⟨Nat.le_of_ble_eq_true rfl, body_space_May x hx⟩
def foldF (n : Int) (s : TSpace) : Nat → List TRun
  | 0 => [⟨14, 14 + n⟩]
  | i + 1 => whereL .less (foldF n s i) (at4 s i)
theorem foldF_len {n : Int} {s : TSpace} (h : lenS s) : ∀ i, i ≤ 4 → (foldF n s i).length ≤ 100000 := by
  have l := fun i => at4_len h (i := i)
  have w := fun i => where_len .less (foldF n s i) (at4 s i)
  have f0 : (foldF n s 0).length = 1 := rfl
  have f1 : (foldF n s 1).length ≤ 3000 := by have := w 0; have := l 0; show (whereL .less (foldF n s 0) (at4 s 0)).length ≤ _; omega
  have f2 : (foldF n s 2).length ≤ 9000 := by have := w 1; have := l 1; show (whereL .less (foldF n s 1) (at4 s 1)).length ≤ _; omega
  have f3 : (foldF n s 3).length ≤ 30000 := by have := w 2; have := l 2; show (whereL .less (foldF n s 2) (at4 s 2)).length ≤ _; omega
  have f4 : (foldF n s 4).length ≤ 90000 := by have := w 3; have := l 3; show (whereL .less (foldF n s 3) (at4 s 3)).length ≤ _; omega
  intro i hi
  rcases (by omega : i = 0 ∨ i = 1 ∨ i = 2 ∨ i = 3 ∨ i = 4) with rfl | rfl | rfl | rfl | rfl <;> omega
theorem foldF_free {n : Int} {s : TSpace} (h : okSp n s = true) : foldF n s 4 = freeM n s := by
  rw [freeM, if_pos h]; exact less_four
theorem okSp_data {n : Int} {s : TSpace} (h : okSp n s = true) : dataOk n = true := by
  rw [okSp, Bool.and_eq_true] at h; exact h.1
def G_space_Free : GCode := .seq (.region [⟨(some 3), none, .box 26 (.tmp 1)⟩, ⟨(some 4), none, .assign (.const (.slice none 0 0))⟩]) (.seq (.seq .weak (.region [⟨(some 9), none, .load 26 (.tmp 3)⟩, ⟨(some 10), none, .build 55 #[(0, .tmp 9)]⟩, ⟨(some 11), none, .move (.tmp 0)⟩, ⟨(some 12), none, .build 57 #[(0, .tmp 10), (1, .tmp 11)]⟩, ⟨(some 5), none, .alloc 57⟩, ⟨none, none, .store 57 (.tmp 5) (.tmp 12)⟩])) (.seq (.seq (.seq .weak (.region [⟨(some 13), none, .load 57 (.tmp 5)⟩, ⟨(some 14), none, .call ⟨.value (.func 36), #[.tmp 13], #[57]⟩⟩, ⟨(some 15), none, .unOp .not 4 (.tmp 14)⟩])) (.cond (.tmp 15) (.seq (.region [⟨(some 4), none, .assign (.const (.slice none 0 0))⟩]) (.ret)) (.skip))) (.seq (.seq .weak (.region [⟨(some 16), none, .load 57 (.tmp 5)⟩, ⟨(some 17), none, .call ⟨.value (.func 39), #[.tmp 16], #[57]⟩⟩, ⟨(some 6), none, .assign (.tmp 17)⟩])) (.seq (.seq (.seq .weak (.region [⟨(some 18), none, .fieldAddr 57 (.tmp 5) 0⟩, ⟨(some 19), none, .load 55 (.tmp 18)⟩, ⟨(some 20), none, .call ⟨.value (.func 40), #[.tmp 19], #[55]⟩⟩, ⟨(some 21), none, .move (.const (.int .i64 0))⟩])) (.block 0 (.loop (.seq .weak (.seq (.region [⟨(some 22), none, .binOp .lss 3 (.tmp 21) (.const (.int .i64 4)) 3⟩]) (.seq (.cond (.tmp 22) (.skip) (.exit 0)) (.seq (.block 1 (.seq (.region [⟨(some 23), none, .index 61 (.tmp 20) (.tmp 21)⟩, ⟨(some 8), none, .assign (.tmp 23)⟩]) (.seq .weak (.region [⟨(some 24), none, .move (.tmp 6)⟩, ⟨(some 25), none, .move (.tmp 8)⟩, ⟨(some 26), none, .call ⟨.value (.func 35), #[.tmp 24, .tmp 25], #[23, 23]⟩⟩, ⟨(some 6), none, .assign (.tmp 26)⟩])))) (.region [⟨(some 27), none, .binOp .add 3 (.tmp 21) (.const (.int .i64 1)) 3⟩, ⟨(some 21), none, .move (.tmp 27)⟩])))))))) (.seq (.region [⟨(some 28), none, .move (.tmp 6)⟩, ⟨(some 4), none, .assign (.tmp 28)⟩]) (.ret))))))
noncomputable def l_space_Free : List (Nat × Con) := [(36, c_space_pool_may), (39, c_space_pool_whole), (40, c_space_taken_all), (35, c_span_Less)]
noncomputable abbrev K_space_Free : Ctx := ctx (cl l_space_Free)
theorem geq_space_Free : gof K_space_Free Try.f19 = some G_space_Free.strip := by kernel_rfl
theorem sys_space_Free : Go.Eng.Sys Try.prog K_space_Free := sys_of' ⟨ok_space_pool_may, ok_space_pool_whole, ok_space_taken_all, ok_span_Less, trivial⟩
theorem hm_space_Free : ConMono K_space_Free := conMono_of sys_space_Free.con
noncomputable def k_space_Free_space_pool_may := PLift.up (call_scal (C := K_space_Free) (f := 36) (A := A_space_pool_may) (p := p_space_pool_may) (r := r_space_pool_may) rfl)
noncomputable def k_space_Free_space_pool_whole := PLift.up (call_fn (C := K_space_Free) (f := 39) (A := A_space_pool_whole) (p := p_space_pool_whole) (r := r_space_pool_whole) rfl)
noncomputable def k_space_Free_space_taken_all := PLift.up (call_fn (C := K_space_Free) (f := 40) (A := A_space_taken_all) (p := p_space_taken_all) (r := r_space_taken_all) rfl)
noncomputable def k_space_Free_span_Less := PLift.up (call_fn (C := K_space_Free) (f := 35) (A := A_span_Less) (p := p_span_Less) (r := r_span_Less) rfl)
def A_space_Free := Arms.cons (argT Int) (Arms.cons (argA TSpace) Arms.nil)
def p_space_Free (x : Int × TSpace × Unit) : Prop := lenS x.2.1
def r_space_Free (x : Int × TSpace × Unit) : AV := .t (sl (freeM x.1 x.2.1))
set_option maxHeartbeats 2000000 in
theorem body_space_Free (x : Int × TSpace × Unit) (hp : p_space_Free x) : avp K_space_Free G_space_Free (Ret K_space_Free [.tmp 4] fun v s' => Frz s' v (r_space_Free x)) (entry (A_space_Free.enc x) .empty) := by
  obtain ⟨n, s, ⟨⟩⟩ := x
  change lenS s at hp
  change avp _ _ (Ret _ _ fun v s' => Frz1 s' v (sl (freeM n s))) (entry [.t (.int .i64 n), .agg ((spC s).map .t)] .empty)
  unfold G_space_Free
  simp only [vP.down, vS.down, vE.down, Nat.reduceEqDiff, Nat.reduceAdd, Nat.reduceSub, Nat.reduceMul, Nat.reduceLeDiff, Nat.reduceLT, Int.reduceToNat, reduceIte, reduceCtorEq, Int.reduceEq, Int.reduceLT, Int.reduceLE, ↓avp_condG, ↓tf_arrow, ↓ft_arrow, spC]
  intro g hg
  refine weak_at [(0, .t (.int .i64 n)), (3, .imm (spC s))] .empty fewer_empty (by
    simp only [vP.down, vS.down, vE.down, Nat.reduceEqDiff, Nat.reduceAdd, Nat.reduceSub, Nat.reduceMul, Nat.reduceLeDiff, Nat.reduceLT, Int.reduceToNat, reduceIte, reduceCtorEq, Int.reduceEq, Int.reduceLT, Int.reduceLE, ↓avp_condG, ↓tf_arrow, ↓ft_arrow, wP.down]
    exact w2_imm (l := spC s) (Store.set_same _ _ _) rfl) ?_
  simp only [vP.down, vS.down, vE.down, Nat.reduceEqDiff, Nat.reduceAdd, Nat.reduceSub, Nat.reduceMul, Nat.reduceLeDiff, Nat.reduceLT, Int.reduceToNat, reduceIte, reduceCtorEq, Int.reduceEq, Int.reduceLT, Int.reduceLE, ↓avp_condG, ↓tf_arrow, ↓ft_arrow, spC]
  intro g2 hg2
  refine weak_at [(5, .imm (plC ⟨⟨s⟩, n⟩))] .empty fewer_empty (by
    simp only [vP.down, vS.down, vE.down, Nat.reduceEqDiff, Nat.reduceAdd, Nat.reduceSub, Nat.reduceMul, Nat.reduceLeDiff, Nat.reduceLT, Int.reduceToNat, reduceIte, reduceCtorEq, Int.reduceEq, Int.reduceLT, Int.reduceLE, ↓avp_condG, ↓tf_arrow, ↓ft_arrow, wP.down]
    exact w2_imm (l := plC ⟨⟨s⟩, n⟩) (Store.set_same _ _ _) rfl) ?_
  cases hok : okSp n s with
  | false =>
    have e : freeM n s = [] := by rw [freeM, hok]; rfl
    simp only [vP.down, vS.down, vE.down, Nat.reduceEqDiff, Nat.reduceAdd, Nat.reduceSub, Nat.reduceMul, Nat.reduceLeDiff, Nat.reduceLT, Int.reduceToNat, reduceIte, reduceCtorEq, Int.reduceEq, Int.reduceLT, Int.reduceLE, ↓avp_condG, ↓tf_arrow, ↓ft_arrow, plC, hp, hok, k_space_Free_space_pool_may.down, A_space_pool_may, p_space_pool_may, r_space_pool_may]
    simp only [vP.down, vS.down, vE.down, Nat.reduceEqDiff, Nat.reduceAdd, Nat.reduceSub, Nat.reduceMul, Nat.reduceLeDiff, Nat.reduceLT, Int.reduceToNat, reduceIte, reduceCtorEq, Int.reduceEq, Int.reduceLT, Int.reduceLE, ↓avp_condG, ↓tf_arrow, ↓ft_arrow, vT.down]
    simp only [e, frz1_nilS]
  | true =>
  have hd := okSp_data hok
  simp only [vP.down, vS.down, vE.down, Nat.reduceEqDiff, Nat.reduceAdd, Nat.reduceSub, Nat.reduceMul, Nat.reduceLeDiff, Nat.reduceLT, Int.reduceToNat, reduceIte, reduceCtorEq, Int.reduceEq, Int.reduceLT, Int.reduceLE, ↓avp_condG, ↓tf_arrow, ↓ft_arrow, plC, hp, hok, k_space_Free_space_pool_may.down, A_space_pool_may, p_space_pool_may, r_space_pool_may]
  refine weak_at [(5, .imm (plC ⟨⟨s⟩, n⟩))] .empty fewer_refl (by simp only [vP.down, vS.down, vE.down, Nat.reduceEqDiff, Nat.reduceAdd, Nat.reduceSub, Nat.reduceMul, Nat.reduceLeDiff, Nat.reduceLT, Int.reduceToNat, reduceIte, reduceCtorEq, Int.reduceEq, Int.reduceLT, Int.reduceLE, ↓avp_condG, ↓tf_arrow, ↓ft_arrow, wP.down, plC]) ?_
  simp only [vP.down, vS.down, vE.down, Nat.reduceEqDiff, Nat.reduceAdd, Nat.reduceSub, Nat.reduceMul, Nat.reduceLeDiff, Nat.reduceLT, Int.reduceToNat, reduceIte, reduceCtorEq, Int.reduceEq, Int.reduceLT, Int.reduceLE, ↓avp_condG, ↓tf_arrow, ↓ft_arrow, plC, hd, k_space_Free_space_pool_whole.down, A_space_pool_whole, p_space_pool_whole, r_space_pool_whole]
  refine weak_at [(5, .imm (plC ⟨⟨s⟩, n⟩)), (6, .t (sl (foldF n s 0)))] .empty fewer_refl (by simp only [vP.down, vS.down, vE.down, Nat.reduceEqDiff, Nat.reduceAdd, Nat.reduceSub, Nat.reduceMul, Nat.reduceLeDiff, Nat.reduceLT, Int.reduceToNat, reduceIte, reduceCtorEq, Int.reduceEq, Int.reduceLT, Int.reduceLE, ↓avp_condG, ↓tf_arrow, ↓ft_arrow, wP.down, plC, foldF]) ?_
  simp only [vP.down, vS.down, vE.down, Nat.reduceEqDiff, Nat.reduceAdd, Nat.reduceSub, Nat.reduceMul, Nat.reduceLeDiff, Nat.reduceLT, Int.reduceToNat, reduceIte, reduceCtorEq, Int.reduceEq, Int.reduceLT, Int.reduceLE, ↓avp_condG, ↓tf_arrow, ↓ft_arrow, plC, k_space_Free_space_taken_all.down, A_space_taken_all, p_space_taken_all, r_space_taken_all]
  refine loop_weak hm_space_Free (fun k σ => ∃ i : Nat, k = 4 - i ∧ i ≤ 4 ∧ σ = mkS [(6, .t (sl (foldF n s i))), (20, .agg ((spC s).map .t)), (21, .t (.int .i64 (i : Nat)))] .empty)
    ⟨0, rfl, by omega, rfl⟩ (wk_to fewer_refl (by simp only [vP.down, vS.down, vE.down, Nat.reduceEqDiff, Nat.reduceAdd, Nat.reduceSub, Nat.reduceMul, Nat.reduceLeDiff, Nat.reduceLT, Int.reduceToNat, reduceIte, reduceCtorEq, Int.reduceEq, Int.reduceLT, Int.reduceLE, ↓avp_condG, ↓tf_arrow, ↓ft_arrow, wP.down, spC, Int.natCast_zero])) ?_
  rintro k _ ⟨i, rfl, hi, rfl⟩
  have hi1 : IntKind.i64.wrap ((i : Int) + 1) = ((i + 1 : Nat) : Int) := by rw [IntWalk.i64_in _ (by omega)]; rfl
  by_cases hlt : i < 4
  case neg =>
    obtain rfl : i = 4 := by omega
    have hge : ¬ ((4 : Int) < 4) := by omega
    simp only [vP.down, vS.down, vE.down, Nat.reduceEqDiff, Nat.reduceAdd, Nat.reduceSub, Nat.reduceMul, Nat.reduceLeDiff, Nat.reduceLT, Int.reduceToNat, reduceIte, reduceCtorEq, Int.reduceEq, Int.reduceLT, Int.reduceLE, ↓avp_condG, ↓tf_arrow, ↓ft_arrow, hge, show ((4 : Nat) : Int) = 4 from rfl]
    simp only [vP.down, vS.down, vE.down, Nat.reduceEqDiff, Nat.reduceAdd, Nat.reduceSub, Nat.reduceMul, Nat.reduceLeDiff, Nat.reduceLT, Int.reduceToNat, reduceIte, reduceCtorEq, Int.reduceEq, Int.reduceLT, Int.reduceLE, ↓avp_condG, ↓tf_arrow, ↓ft_arrow, vT.down]
    rw [foldF_free hok]
    exact .inl rfl
  have hlt' : (i : Int) < 4 := by omega
  have h40 : (0 : Int) ≤ (i : Int) := by omega
  have hdr := drop_sp (s := s) hlt
  have p1 : (foldF n s i).length + (at4 s i).length ≤ 1099511627 := by
    have := foldF_len (n := n) hp i hi
    have := at4_len hp (i := i)
    omega
  simp only [vP.down, vS.down, vE.down, Nat.reduceEqDiff, Nat.reduceAdd, Nat.reduceSub, Nat.reduceMul, Nat.reduceLeDiff, Nat.reduceLT, Int.reduceToNat, reduceIte, reduceCtorEq, Int.reduceEq, Int.reduceLT, Int.reduceLE, ↓avp_condG, ↓tf_arrow, ↓ft_arrow, hlt', h40, hdr, Nat.mul_one, Int.toNat_natCast]
  refine weak_at [(6, .t (sl (foldF n s i))), (8, .t (sl (at4 s i))), (20, .agg ((spC s).map .t)), (21, .t (.int .i64 (i : Nat)))] .empty fewer_refl (by simp only [vP.down, vS.down, vE.down, Nat.reduceEqDiff, Nat.reduceAdd, Nat.reduceSub, Nat.reduceMul, Nat.reduceLeDiff, Nat.reduceLT, Int.reduceToNat, reduceIte, reduceCtorEq, Int.reduceEq, Int.reduceLT, Int.reduceLE, ↓avp_condG, ↓tf_arrow, ↓ft_arrow, wP.down, spC]) ?_
  simp only [vP.down, vS.down, vE.down, Nat.reduceEqDiff, Nat.reduceAdd, Nat.reduceSub, Nat.reduceMul, Nat.reduceLeDiff, Nat.reduceLT, Int.reduceToNat, reduceIte, reduceCtorEq, Int.reduceEq, Int.reduceLT, Int.reduceLE, ↓avp_condG, ↓tf_arrow, ↓ft_arrow, p1, k_space_Free_span_Less.down, A_span_Less, p_span_Less, r_span_Less]
  exact round_to (4 - (i + 1)) [(6, .t (sl (foldF n s (i + 1)))), (20, .agg ((spC s).map .t)), (21, .t (.int .i64 (i + 1 : Nat)))] .empty (by omega) fewer_refl (by simp only [vP.down, vS.down, vE.down, Nat.reduceEqDiff, Nat.reduceAdd, Nat.reduceSub, Nat.reduceMul, Nat.reduceLeDiff, Nat.reduceLT, Int.reduceToNat, reduceIte, reduceCtorEq, Int.reduceEq, Int.reduceLT, Int.reduceLE, ↓avp_condG, ↓tf_arrow, ↓ft_arrow, wP.down, hi1, foldF, spC]) ⟨i + 1, rfl, by omega, rfl⟩
noncomputable def c_space_Free : Con := fnCon A_space_Free p_space_Free r_space_Free
theorem ok_space_Free : COk Try.prog 19 c_space_Free := fn_ok sys_space_Free mixed Try.func19 (by kernel_rfl) geq_space_Free Try.ntmps19 (by rw [Try.results19]) fun x hx => ⟨Nat.le_of_ble_eq_true rfl, body_space_Free x hx⟩
def G_ref8_Free : GCode := .seq (.region [⟨(some 3), none, .box 26 (.tmp 1)⟩, ⟨(some 4), none, .assign (.const (.slice none 0 0))⟩]) (.seq (.seq (.seq .weak (.region [⟨(some 6), none, .move (.tmp 0)⟩, ⟨(some 7), none, .load 26 (.tmp 3)⟩, ⟨(some 8), none, .call ⟨.value (.func 17), #[.tmp 6, .tmp 7], #[3, 26]⟩⟩, ⟨(some 9), none, .unOp .not 4 (.tmp 8)⟩])) (.cond (.tmp 9) (.seq (.region [⟨(some 4), none, .assign (.const (.slice none 0 0))⟩]) (.ret)) (.skip))) (.seq (.seq .weak (.region [⟨(some 10), none, .move (.tmp 0)⟩, ⟨(some 11), none, .binOp .add 3 (.const (.int .i64 14)) (.tmp 10) 3⟩, ⟨(some 12), none, .build 48 #[(0, .const (.int .i64 14)), (1, .tmp 11)]⟩, ⟨(some 13), none, .buildSlice 23 1 #[(0, .tmp 12)]⟩, ⟨(some 5), none, .assign (.tmp 13)⟩])) (.seq (.seq .weak (.region [⟨(some 14), none, .move (.tmp 5)⟩, ⟨(some 15), none, .fieldAddr 26 (.tmp 3) 0⟩, ⟨(some 16), none, .load 23 (.tmp 15)⟩, ⟨(some 17), none, .fieldAddr 26 (.tmp 3) 1⟩, ⟨(some 18), none, .load 23 (.tmp 17)⟩, ⟨(some 19), none, .call ⟨.value (.func 30), #[.tmp 16, .tmp 18], #[23, 23]⟩⟩, ⟨(some 20), none, .fieldAddr 26 (.tmp 3) 2⟩, ⟨(some 21), none, .load 23 (.tmp 20)⟩, ⟨(some 22), none, .fieldAddr 26 (.tmp 3) 3⟩, ⟨(some 23), none, .load 23 (.tmp 22)⟩, ⟨(some 24), none, .call ⟨.value (.func 30), #[.tmp 21, .tmp 23], #[23, 23]⟩⟩, ⟨(some 25), none, .call ⟨.value (.func 30), #[.tmp 19, .tmp 24], #[23, 23]⟩⟩, ⟨(some 26), none, .call ⟨.value (.func 31), #[.tmp 14, .tmp 25], #[23, 23]⟩⟩, ⟨(some 4), none, .assign (.tmp 26)⟩])) (.ret))))
noncomputable def l_ref8_Free : List (Nat × Con) := [(17, c_ref8_MaySpace), (30, c_ref8_Add), (31, c_ref8_Less)]
noncomputable abbrev K_ref8_Free : Ctx := ctx (cl l_ref8_Free)
theorem geq_ref8_Free : gof K_ref8_Free Try.f20 = some G_ref8_Free.strip := by kernel_rfl
theorem sys_ref8_Free : Go.Eng.Sys Try.prog K_ref8_Free := sys_of' ⟨ok_ref8_MaySpace, ok_ref8_Add, ok_ref8_Less, trivial⟩
theorem hm_ref8_Free : ConMono K_ref8_Free := conMono_of sys_ref8_Free.con
noncomputable def k_ref8_Free_ref8_MaySpace := PLift.up (call_scal (C := K_ref8_Free) (f := 17) (A := A_ref8_MaySpace) (p := p_ref8_MaySpace) (r := r_ref8_MaySpace) rfl)
noncomputable def k_ref8_Free_ref8_Add := PLift.up (call_fn (C := K_ref8_Free) (f := 30) (A := A_ref8_Add) (p := p_ref8_Add) (r := r_ref8_Add) rfl)
noncomputable def k_ref8_Free_ref8_Less := PLift.up (call_fn (C := K_ref8_Free) (f := 31) (A := A_ref8_Less) (p := p_ref8_Less) (r := r_ref8_Less) rfl)
def A_ref8_Free := Arms.cons (argT Int) (Arms.cons (argA TSpace) Arms.nil)
def p_ref8_Free (x : Int × TSpace × Unit) : Prop := lenS x.2.1
def r_ref8_Free (x : Int × TSpace × Unit) : AV := .t (sl (freeM x.1 x.2.1))
set_option maxHeartbeats 2000000 in
theorem body_ref8_Free (x : Int × TSpace × Unit) (hp : p_ref8_Free x) : avp K_ref8_Free G_ref8_Free (Ret K_ref8_Free [.tmp 4] fun v s' => Frz s' v (r_ref8_Free x)) (entry (A_ref8_Free.enc x) .empty) := by
  obtain ⟨n, s, ⟨⟩⟩ := x
  change lenS s at hp
  change avp _ _ (Ret _ _ fun v s' => Frz1 s' v (sl (freeM n s))) (entry [.t (.int .i64 n), .agg ((spC s).map .t)] .empty)
  unfold G_ref8_Free
  simp only [vP.down, vS.down, vE.down, Nat.reduceEqDiff, Nat.reduceAdd, Nat.reduceSub, Nat.reduceMul, Nat.reduceLeDiff, Nat.reduceLT, Int.reduceToNat, reduceIte, reduceCtorEq, Int.reduceEq, Int.reduceLT, Int.reduceLE, ↓avp_condG, ↓tf_arrow, ↓ft_arrow, spC]
  intro g hg
  refine weak_at [(0, .t (.int .i64 n)), (3, .imm (spC s))] .empty fewer_empty (by
    simp only [vP.down, vS.down, vE.down, Nat.reduceEqDiff, Nat.reduceAdd, Nat.reduceSub, Nat.reduceMul, Nat.reduceLeDiff, Nat.reduceLT, Int.reduceToNat, reduceIte, reduceCtorEq, Int.reduceEq, Int.reduceLT, Int.reduceLE, ↓avp_condG, ↓tf_arrow, ↓ft_arrow, wP.down]
    exact w2_imm (l := spC s) (Store.set_same _ _ _) rfl) ?_
  cases hok : okSp n s with
  | false =>
    have e : freeM n s = [] := by rw [freeM, hok]; rfl
    simp only [vP.down, vS.down, vE.down, Nat.reduceEqDiff, Nat.reduceAdd, Nat.reduceSub, Nat.reduceMul, Nat.reduceLeDiff, Nat.reduceLT, Int.reduceToNat, reduceIte, reduceCtorEq, Int.reduceEq, Int.reduceLT, Int.reduceLE, ↓avp_condG, ↓tf_arrow, ↓ft_arrow, spC, hp, hok, k_ref8_Free_ref8_MaySpace.down, A_ref8_MaySpace, p_ref8_MaySpace, r_ref8_MaySpace]
    simp only [vP.down, vS.down, vE.down, Nat.reduceEqDiff, Nat.reduceAdd, Nat.reduceSub, Nat.reduceMul, Nat.reduceLeDiff, Nat.reduceLT, Int.reduceToNat, reduceIte, reduceCtorEq, Int.reduceEq, Int.reduceLT, Int.reduceLE, ↓avp_condG, ↓tf_arrow, ↓ft_arrow, vT.down]
    simp only [e, frz1_nilS]
  | true =>
  have hd := dataOk_iff.1 (okSp_data hok)
  have w1 : IntKind.i64.wrap (14 + n) = 14 + n := IntWalk.i64_in _ (by omega)
  simp only [vP.down, vS.down, vE.down, Nat.reduceEqDiff, Nat.reduceAdd, Nat.reduceSub, Nat.reduceMul, Nat.reduceLeDiff, Nat.reduceLT, Int.reduceToNat, reduceIte, reduceCtorEq, Int.reduceEq, Int.reduceLT, Int.reduceLE, ↓avp_condG, ↓tf_arrow, ↓ft_arrow, spC, hp, hok, k_ref8_Free_ref8_MaySpace.down, A_ref8_MaySpace, p_ref8_MaySpace, r_ref8_MaySpace]
  refine weak_at [(0, .t (.int .i64 n)), (3, .imm (spC s))] .empty fewer_refl (by simp only [vP.down, vS.down, vE.down, Nat.reduceEqDiff, Nat.reduceAdd, Nat.reduceSub, Nat.reduceMul, Nat.reduceLeDiff, Nat.reduceLT, Int.reduceToNat, reduceIte, reduceCtorEq, Int.reduceEq, Int.reduceLT, Int.reduceLE, ↓avp_condG, ↓tf_arrow, ↓ft_arrow, wP.down, spC]) ?_
  simp only [vP.down, vS.down, vE.down, Nat.reduceEqDiff, Nat.reduceAdd, Nat.reduceSub, Nat.reduceMul, Nat.reduceLeDiff, Nat.reduceLT, Int.reduceToNat, reduceIte, reduceCtorEq, Int.reduceEq, Int.reduceLT, Int.reduceLE, ↓avp_condG, ↓tf_arrow, ↓ft_arrow, w1]
  intro g3 hg3
  refine weak_at [(3, .imm (spC s)), (5, .t (sl [(⟨14, 14 + n⟩ : TRun)]))] .empty fewer_empty (by
    simp only [vP.down, vS.down, vE.down, Nat.reduceEqDiff, Nat.reduceAdd, Nat.reduceSub, Nat.reduceMul, Nat.reduceLeDiff, Nat.reduceLT, Int.reduceToNat, reduceIte, reduceCtorEq, Int.reduceEq, Int.reduceLT, Int.reduceLE, ↓avp_condG, ↓tf_arrow, ↓ft_arrow, wP.down]
    exact (lv_at (α := TRun) (l := [⟨14, 14 + n⟩]) (ro := false) rfl (Store.set_same _ _ _)).w2 fun _ _ => rfl) ?_
  obtain ⟨l1, l2, l3, l4⟩ := hp
  have a1 := where_len .add s.Held s.One
  have a2 := where_len .add s.Two s.Kept
  have a3 := where_len .add (whereL .add s.Held s.One) (whereL .add s.Two s.Kept)
  have p1 : s.Held.length + s.One.length ≤ 1099511627 := by omega
  have p2 : s.Two.length + s.Kept.length ≤ 1099511627 := by omega
  have p3 : (whereL .add s.Held s.One).length + (whereL .add s.Two s.Kept).length ≤ 1099511627 := by omega
  have p4 : [(⟨14, 14 + n⟩ : TRun)].length + (whereL .add (whereL .add s.Held s.One) (whereL .add s.Two s.Kept)).length ≤ 1099511627 := by
    show 1 + _ ≤ _
    omega
  simp only [vP.down, vS.down, vE.down, Nat.reduceEqDiff, Nat.reduceAdd, Nat.reduceSub, Nat.reduceMul, Nat.reduceLeDiff, Nat.reduceLT, Int.reduceToNat, reduceIte, reduceCtorEq, Int.reduceEq, Int.reduceLT, Int.reduceLE, ↓avp_condG, ↓tf_arrow, ↓ft_arrow, spC, p1, p2, p3, p4, k_ref8_Free_ref8_Add.down, A_ref8_Add, p_ref8_Add, r_ref8_Add, k_ref8_Free_ref8_Less.down, A_ref8_Less, p_ref8_Less, r_ref8_Less]
  simp only [vP.down, vS.down, vE.down, Nat.reduceEqDiff, Nat.reduceAdd, Nat.reduceSub, Nat.reduceMul, Nat.reduceLeDiff, Nat.reduceLT, Int.reduceToNat, reduceIte, reduceCtorEq, Int.reduceEq, Int.reduceLT, Int.reduceLE, ↓avp_condG, ↓tf_arrow, ↓ft_arrow, vT.down]
  refine ⟨by omega, ?_⟩
  rw [freeM, if_pos hok]
  exact .inl rfl
noncomputable def c_ref8_Free : Con := fnCon A_ref8_Free p_ref8_Free r_ref8_Free
theorem ok_ref8_Free : COk Try.prog 20 c_ref8_Free := fn_ok sys_ref8_Free mixed Try.func20 (by kernel_rfl) geq_ref8_Free Try.ntmps20 (by rw [Try.results20]) fun x hx => ⟨Nat.le_of_ble_eq_true rfl, body_ref8_Free x hx⟩
theorem sp_ext {s t : TSpace} : s = t ↔ ∀ i, i < 4 → at4 s i = at4 t i := by
  constructor
  · rintro rfl _ _; rfl
  · intro h
    have h0 := h 0 (by omega)
    have h1 := h 1 (by omega)
    have h2 := h 2 (by omega)
    have h3 := h 3 (by omega)
    obtain ⟨a, b, c, d⟩ := s
    obtain ⟨a', b', c', d'⟩ := t
    have e0 : a = a' := h0
    have e1 : b = b' := h1
    have e2 : c = c' := h2
    have e3 : d = d' := h3
    rw [e0, e1, e2, e3]
def G_ref8_SameSpace : GCode := .seq (.region [⟨(some 2), none, .box 26 (.tmp 0)⟩, ⟨(some 3), none, .box 26 (.tmp 1)⟩, ⟨(some 4), none, .assign (.const (.bool false))⟩]) (.seq (.seq .weak (.region [⟨(some 5), none, .fieldAddr 26 (.tmp 2) 0⟩, ⟨(some 6), none, .load 23 (.tmp 5)⟩, ⟨(some 7), none, .fieldAddr 26 (.tmp 3) 0⟩, ⟨(some 8), none, .load 23 (.tmp 7)⟩, ⟨(some 9), none, .call ⟨.value (.func 18), #[.tmp 6, .tmp 8], #[23, 23]⟩⟩, ⟨(some 10), none, .move (.tmp 9)⟩, ⟨(some 11), (some (10, true)), .fieldAddr 26 (.tmp 2) 1⟩, ⟨(some 12), (some (10, true)), .load 23 (.tmp 11)⟩, ⟨(some 13), (some (10, true)), .fieldAddr 26 (.tmp 3) 1⟩, ⟨(some 14), (some (10, true)), .load 23 (.tmp 13)⟩, ⟨(some 15), (some (10, true)), .call ⟨.value (.func 18), #[.tmp 12, .tmp 14], #[23, 23]⟩⟩, ⟨(some 16), none, .pick (.tmp 10) (.tmp 15) (.const (.bool false))⟩, ⟨(some 17), none, .move (.tmp 16)⟩, ⟨(some 18), (some (17, true)), .fieldAddr 26 (.tmp 2) 2⟩, ⟨(some 19), (some (17, true)), .load 23 (.tmp 18)⟩, ⟨(some 20), (some (17, true)), .fieldAddr 26 (.tmp 3) 2⟩, ⟨(some 21), (some (17, true)), .load 23 (.tmp 20)⟩, ⟨(some 22), (some (17, true)), .call ⟨.value (.func 18), #[.tmp 19, .tmp 21], #[23, 23]⟩⟩, ⟨(some 23), none, .pick (.tmp 17) (.tmp 22) (.const (.bool false))⟩, ⟨(some 24), none, .move (.tmp 23)⟩, ⟨(some 25), (some (24, true)), .fieldAddr 26 (.tmp 2) 3⟩, ⟨(some 26), (some (24, true)), .load 23 (.tmp 25)⟩, ⟨(some 27), (some (24, true)), .fieldAddr 26 (.tmp 3) 3⟩, ⟨(some 28), (some (24, true)), .load 23 (.tmp 27)⟩, ⟨(some 29), (some (24, true)), .call ⟨.value (.func 18), #[.tmp 26, .tmp 28], #[23, 23]⟩⟩, ⟨(some 30), none, .pick (.tmp 24) (.tmp 29) (.const (.bool false))⟩, ⟨(some 4), none, .assign (.tmp 30)⟩])) (.ret))
noncomputable def l_ref8_SameSpace : List (Nat × Con) := [(18, c_ref8_Same)]
noncomputable abbrev K_ref8_SameSpace : Ctx := ctx (cl l_ref8_SameSpace)
theorem geq_ref8_SameSpace : gof K_ref8_SameSpace Try.f21 = some G_ref8_SameSpace.strip := by kernel_rfl
theorem sys_ref8_SameSpace : Go.Eng.Sys Try.prog K_ref8_SameSpace := sys_of' ⟨ok_ref8_Same, trivial⟩
theorem hm_ref8_SameSpace : ConMono K_ref8_SameSpace := conMono_of sys_ref8_SameSpace.con
noncomputable def k_ref8_SameSpace_ref8_Same := PLift.up (call_scal (C := K_ref8_SameSpace) (f := 18) (A := A_ref8_Same) (p := p_ref8_Same) (r := r_ref8_Same) rfl)
def A_ref8_SameSpace := Arms.cons (argA TSpace) (Arms.cons (argA TSpace) Arms.nil)
def p_ref8_SameSpace (x : TSpace × TSpace × Unit) : Prop := lenS x.1
def r_ref8_SameSpace (x : TSpace × TSpace × Unit) : AV := .t (.bool (decide (x.1 = x.2.1)))
set_option maxHeartbeats 4000000 in
theorem body_ref8_SameSpace (x : TSpace × TSpace × Unit) (hp : p_ref8_SameSpace x) : avp K_ref8_SameSpace G_ref8_SameSpace (Ret K_ref8_SameSpace [.tmp 4] fun v _ => v = r_ref8_SameSpace x) (entry (A_ref8_SameSpace.enc x) .empty) := by
  obtain ⟨s, t, ⟨⟩⟩ := x
  obtain ⟨l1, l2, l3, l4⟩ : lenS s := hp
  change avp _ _ (Ret _ _ fun v s' => v = .t (.bool (decide (s = t)))) (entry [.agg ((spC s).map .t), .agg ((spC t).map .t)] .empty)
  unfold G_ref8_SameSpace
  simp only [vP.down, vS.down, vE.down, Nat.reduceEqDiff, Nat.reduceAdd, Nat.reduceSub, Nat.reduceMul, Nat.reduceLeDiff, Nat.reduceLT, Int.reduceToNat, reduceIte, reduceCtorEq, Int.reduceEq, Int.reduceLT, Int.reduceLE, ↓avp_condG, ↓tf_arrow, ↓ft_arrow, spC]
  intro g hg g2 hg2
  have n2 := Store.ne_new hg2
  refine weak_at [(2, .imm (spC s)), (3, .imm (spC t))] .empty fewer_empty (by
    simp only [vP.down, vS.down, vE.down, Nat.reduceEqDiff, Nat.reduceAdd, Nat.reduceSub, Nat.reduceMul, Nat.reduceLeDiff, Nat.reduceLT, Int.reduceToNat, reduceIte, reduceCtorEq, Int.reduceEq, Int.reduceLT, Int.reduceLE, ↓avp_condG, ↓tf_arrow, ↓ft_arrow, wP.down]
    exact ⟨w2_imm (l := spC s) (ro := false) ((Store.set_other _ _ n2.symm).trans (Store.set_same _ _ _)) rfl, w2_imm (l := spC t) (ro := false) (Store.set_same _ _ _) rfl⟩) ?_
  have q1 : s.Held.length < 4611686018427387904 := by omega
  have q2 : s.One.length < 4611686018427387904 := by omega
  have q3 : s.Two.length < 4611686018427387904 := by omega
  have q4 : s.Kept.length < 4611686018427387904 := by omega
  have e : decide (s = t) = (decide (s.Held = t.Held) && (decide (s.One = t.One) && (decide (s.Two = t.Two) && decide (s.Kept = t.Kept)))) := by
    obtain ⟨a, b, c, d⟩ := s
    obtain ⟨a', b', c', d'⟩ := t
    rw [Bool.eq_iff_iff]
    simp
  rw [e]
  cases h1 : decide (s.Held = t.Held) with
  | false =>
    simp only [vP.down, vS.down, vE.down, Nat.reduceEqDiff, Nat.reduceAdd, Nat.reduceSub, Nat.reduceMul, Nat.reduceLeDiff, Nat.reduceLT, Int.reduceToNat, reduceIte, reduceCtorEq, Int.reduceEq, Int.reduceLT, Int.reduceLE, ↓avp_condG, ↓tf_arrow, ↓ft_arrow, spC, h1, q1, q2, q3, q4, pick_of, pick_ot, false_implies, k_ref8_SameSpace_ref8_Same.down, A_ref8_Same, p_ref8_Same, r_ref8_Same]
    simp only [vP.down, vS.down, vE.down, Nat.reduceEqDiff, Nat.reduceAdd, Nat.reduceSub, Nat.reduceMul, Nat.reduceLeDiff, Nat.reduceLT, Int.reduceToNat, reduceIte, reduceCtorEq, Int.reduceEq, Int.reduceLT, Int.reduceLE, ↓avp_condG, ↓tf_arrow, ↓ft_arrow, vT.down]
  | true =>
  cases h2 : decide (s.One = t.One) with
  | false =>
    simp only [vP.down, vS.down, vE.down, Nat.reduceEqDiff, Nat.reduceAdd, Nat.reduceSub, Nat.reduceMul, Nat.reduceLeDiff, Nat.reduceLT, Int.reduceToNat, reduceIte, reduceCtorEq, Int.reduceEq, Int.reduceLT, Int.reduceLE, ↓avp_condG, ↓tf_arrow, ↓ft_arrow, spC, h1, h2, q1, q2, q3, q4, pick_of, pick_ot, false_implies, k_ref8_SameSpace_ref8_Same.down, A_ref8_Same, p_ref8_Same, r_ref8_Same]
    simp only [vP.down, vS.down, vE.down, Nat.reduceEqDiff, Nat.reduceAdd, Nat.reduceSub, Nat.reduceMul, Nat.reduceLeDiff, Nat.reduceLT, Int.reduceToNat, reduceIte, reduceCtorEq, Int.reduceEq, Int.reduceLT, Int.reduceLE, ↓avp_condG, ↓tf_arrow, ↓ft_arrow, vT.down]
  | true =>
  cases h3 : decide (s.Two = t.Two) with
  | false =>
    simp only [vP.down, vS.down, vE.down, Nat.reduceEqDiff, Nat.reduceAdd, Nat.reduceSub, Nat.reduceMul, Nat.reduceLeDiff, Nat.reduceLT, Int.reduceToNat, reduceIte, reduceCtorEq, Int.reduceEq, Int.reduceLT, Int.reduceLE, ↓avp_condG, ↓tf_arrow, ↓ft_arrow, spC, h1, h2, h3, q1, q2, q3, q4, pick_of, pick_ot, false_implies, k_ref8_SameSpace_ref8_Same.down, A_ref8_Same, p_ref8_Same, r_ref8_Same]
    simp only [vP.down, vS.down, vE.down, Nat.reduceEqDiff, Nat.reduceAdd, Nat.reduceSub, Nat.reduceMul, Nat.reduceLeDiff, Nat.reduceLT, Int.reduceToNat, reduceIte, reduceCtorEq, Int.reduceEq, Int.reduceLT, Int.reduceLE, ↓avp_condG, ↓tf_arrow, ↓ft_arrow, vT.down]
  | true =>
  simp only [vP.down, vS.down, vE.down, Nat.reduceEqDiff, Nat.reduceAdd, Nat.reduceSub, Nat.reduceMul, Nat.reduceLeDiff, Nat.reduceLT, Int.reduceToNat, reduceIte, reduceCtorEq, Int.reduceEq, Int.reduceLT, Int.reduceLE, ↓avp_condG, ↓tf_arrow, ↓ft_arrow, spC, h1, h2, h3, q1, q2, q3, q4, pick_of, pick_ot, false_implies, k_ref8_SameSpace_ref8_Same.down, A_ref8_Same, p_ref8_Same, r_ref8_Same]
  simp only [vP.down, vS.down, vE.down, Nat.reduceEqDiff, Nat.reduceAdd, Nat.reduceSub, Nat.reduceMul, Nat.reduceLeDiff, Nat.reduceLT, Int.reduceToNat, reduceIte, reduceCtorEq, Int.reduceEq, Int.reduceLT, Int.reduceLE, ↓avp_condG, ↓tf_arrow, ↓ft_arrow, vT.down]
noncomputable def c_ref8_SameSpace : Con := fnScal A_ref8_SameSpace p_ref8_SameSpace r_ref8_SameSpace
theorem ok_ref8_SameSpace : COk Try.prog 21 c_ref8_SameSpace := fn_sok sys_ref8_SameSpace mixed Try.func21 (by kernel_rfl) geq_ref8_SameSpace Try.ntmps21 (by rw [Try.results21]) (fun x => by unfold r_ref8_SameSpace; simp [AV.scal]) fun x hx => ⟨Nat.le_of_ble_eq_true rfl, body_ref8_SameSpace x hx⟩
def G_space_Same : GCode := .seq (.region [⟨(some 2), none, .box 26 (.tmp 0)⟩, ⟨(some 3), none, .box 26 (.tmp 1)⟩, ⟨(some 4), none, .assign (.const (.bool false))⟩]) (.seq (.seq .weak (.region [⟨(some 8), none, .load 26 (.tmp 2)⟩, ⟨(some 9), none, .build 55 #[(0, .tmp 8)]⟩, ⟨(some 10), none, .call ⟨.value (.func 40), #[.tmp 9], #[55]⟩⟩, ⟨(some 11), none, .load 26 (.tmp 3)⟩, ⟨(some 12), none, .build 55 #[(0, .tmp 11)]⟩, ⟨(some 13), none, .call ⟨.value (.func 40), #[.tmp 12], #[55]⟩⟩, ⟨(some 5), none, .alloc 61⟩, ⟨(some 6), none, .alloc 61⟩, ⟨none, none, .store 61 (.tmp 5) (.tmp 10)⟩, ⟨none, none, .store 61 (.tmp 6) (.tmp 13)⟩])) (.seq (.seq (.seq .weak (.region [⟨(some 14), none, .move (.const (.int .i64 0))⟩])) (.block 0 (.loop (.seq .weak (.seq (.region [⟨(some 15), none, .binOp .lss 3 (.tmp 14) (.const (.int .i64 4)) 3⟩]) (.seq (.cond (.tmp 15) (.skip) (.exit 0)) (.seq (.block 1 (.seq (.region [⟨(some 16), none, .move (.tmp 14)⟩, ⟨(some 7), none, .assign (.tmp 16)⟩]) (.seq (.seq .weak (.region [⟨(some 17), none, .move (.tmp 7)⟩, ⟨(some 18), none, .indexAddr 61 (.tmp 5) (.tmp 17)⟩, ⟨(some 19), none, .load 23 (.tmp 18)⟩, ⟨(some 20), none, .move (.tmp 7)⟩, ⟨(some 21), none, .indexAddr 61 (.tmp 6) (.tmp 20)⟩, ⟨(some 22), none, .load 23 (.tmp 21)⟩, ⟨(some 23), none, .call ⟨.value (.func 41), #[.tmp 19, .tmp 22], #[23, 23]⟩⟩, ⟨(some 24), none, .unOp .not 4 (.tmp 23)⟩])) (.cond (.tmp 24) (.seq (.region [⟨(some 4), none, .assign (.const (.bool false))⟩]) (.ret)) (.skip))))) (.region [⟨(some 25), none, .binOp .add 3 (.tmp 14) (.const (.int .i64 1)) 3⟩, ⟨(some 14), none, .move (.tmp 25)⟩])))))))) (.seq (.region [⟨(some 4), none, .assign (.const (.bool true))⟩]) (.ret))))
noncomputable def l_space_Same : List (Nat × Con) := [(40, c_space_taken_all), (41, c_span_Same)]
noncomputable abbrev K_space_Same : Ctx := ctx (cl l_space_Same)
theorem geq_space_Same : gof K_space_Same Try.f26 = some G_space_Same.strip := by kernel_rfl
theorem sys_space_Same : Go.Eng.Sys Try.prog K_space_Same := sys_of' ⟨ok_space_taken_all, ok_span_Same, trivial⟩
theorem hm_space_Same : ConMono K_space_Same := conMono_of sys_space_Same.con
noncomputable def k_space_Same_space_taken_all := PLift.up (call_fn (C := K_space_Same) (f := 40) (A := A_space_taken_all) (p := p_space_taken_all) (r := r_space_taken_all) rfl)
noncomputable def k_space_Same_span_Same := PLift.up (call_scal (C := K_space_Same) (f := 41) (A := A_span_Same) (p := p_span_Same) (r := r_span_Same) rfl)
def A_space_Same := Arms.cons (argA TSpace) (Arms.cons (argA TSpace) Arms.nil)
def p_space_Same (x : TSpace × TSpace × Unit) : Prop := lenS x.1
def r_space_Same (x : TSpace × TSpace × Unit) : AV := .t (.bool (decide (x.1 = x.2.1)))
theorem drop_spi {s : TSpace} {i : Nat} (h : i < 4) : (spC s).drop i = sl (at4 s i) :: (spC s).drop (i + 1) := by
  rcases (by omega : i = 0 ∨ i = 1 ∨ i = 2 ∨ i = 3) with rfl | rfl | rfl | rfl <;> rfl
set_option maxHeartbeats 4000000 in
theorem body_space_Same (x : TSpace × TSpace × Unit) (hp : p_space_Same x) : avp K_space_Same G_space_Same (Ret K_space_Same [.tmp 4] fun v _ => v = r_space_Same x) (entry (A_space_Same.enc x) .empty) := by
  obtain ⟨s, t, ⟨⟩⟩ := x
  change lenS s at hp
  change avp _ _ (Ret _ _ fun v s' => v = .t (.bool (decide (s = t)))) (entry [.agg ((spC s).map .t), .agg ((spC t).map .t)] .empty)
  unfold G_space_Same
  simp only [vP.down, vS.down, vE.down, Nat.reduceEqDiff, Nat.reduceAdd, Nat.reduceSub, Nat.reduceMul, Nat.reduceLeDiff, Nat.reduceLT, Int.reduceToNat, reduceIte, reduceCtorEq, Int.reduceEq, Int.reduceLT, Int.reduceLE, ↓avp_condG, ↓tf_arrow, ↓ft_arrow, spC]
  intro g hg g2 hg2
  have n2 := Store.ne_new hg2
  refine weak_at [(2, .imm (spC s)), (3, .imm (spC t))] .empty fewer_empty (by
    simp only [vP.down, vS.down, vE.down, Nat.reduceEqDiff, Nat.reduceAdd, Nat.reduceSub, Nat.reduceMul, Nat.reduceLeDiff, Nat.reduceLT, Int.reduceToNat, reduceIte, reduceCtorEq, Int.reduceEq, Int.reduceLT, Int.reduceLE, ↓avp_condG, ↓tf_arrow, ↓ft_arrow, wP.down]
    exact ⟨w2_imm (l := spC s) (ro := false) ((Store.set_other _ _ n2.symm).trans (Store.set_same _ _ _)) rfl, w2_imm (l := spC t) (ro := false) (Store.set_same _ _ _) rfl⟩) ?_
  simp only [vP.down, vS.down, vE.down, Nat.reduceEqDiff, Nat.reduceAdd, Nat.reduceSub, Nat.reduceMul, Nat.reduceLeDiff, Nat.reduceLT, Int.reduceToNat, reduceIte, reduceCtorEq, Int.reduceEq, Int.reduceLT, Int.reduceLE, ↓avp_condG, ↓tf_arrow, ↓ft_arrow, spC, k_space_Same_space_taken_all.down, A_space_taken_all, p_space_taken_all, r_space_taken_all]
  intro g5 hg5 g6 hg6
  have n6 := Store.ne_new hg6
  simp only [vP.down, vS.down, vE.down, Nat.reduceEqDiff, Nat.reduceAdd, Nat.reduceSub, Nat.reduceMul, Nat.reduceLeDiff, Nat.reduceLT, Int.reduceToNat, reduceIte, reduceCtorEq, Int.reduceEq, Int.reduceLT, Int.reduceLE, ↓avp_condG, ↓tf_arrow, ↓ft_arrow, Store.set_same, n6, n6.symm, set_f, if_true, if_false]
  refine weak_at [(5, .imm (spC s)), (6, .imm (spC t))] .empty fewer_empty (by
    simp only [vP.down, vS.down, vE.down, Nat.reduceEqDiff, Nat.reduceAdd, Nat.reduceSub, Nat.reduceMul, Nat.reduceLeDiff, Nat.reduceLT, Int.reduceToNat, reduceIte, reduceCtorEq, Int.reduceEq, Int.reduceLT, Int.reduceLE, ↓avp_condG, ↓tf_arrow, ↓ft_arrow, wP.down]
    exact ⟨w2_imm (l := spC s) (ro := false) (by simp only [set_f, n6, n6.symm, if_true, if_false]; rfl) rfl, w2_imm (l := spC t) (ro := false) (by simp only [set_f, n6, n6.symm, if_true, if_false]; rfl) rfl⟩) ?_
  simp only [vP.down, vS.down, vE.down, Nat.reduceEqDiff, Nat.reduceAdd, Nat.reduceSub, Nat.reduceMul, Nat.reduceLeDiff, Nat.reduceLT, Int.reduceToNat, reduceIte, reduceCtorEq, Int.reduceEq, Int.reduceLT, Int.reduceLE, ↓avp_condG, ↓tf_arrow, ↓ft_arrow]
  refine loop_weak hm_space_Same (fun k σ => ∃ i : Nat, k = 4 - i ∧ i ≤ 4 ∧ (∀ j, j < i → at4 s j = at4 t j) ∧ σ = mkS [(5, .imm (spC s)), (6, .imm (spC t)), (14, .t (.int .i64 (i : Nat)))] .empty)
    ⟨0, rfl, by omega, by omega, rfl⟩ (wk_to fewer_refl (by simp only [vP.down, vS.down, vE.down, Nat.reduceEqDiff, Nat.reduceAdd, Nat.reduceSub, Nat.reduceMul, Nat.reduceLeDiff, Nat.reduceLT, Int.reduceToNat, reduceIte, reduceCtorEq, Int.reduceEq, Int.reduceLT, Int.reduceLE, ↓avp_condG, ↓tf_arrow, ↓ft_arrow, wP.down, Int.natCast_zero])) ?_
  rintro k _ ⟨i, rfl, hi, hlo, rfl⟩
  have hi1 : IntKind.i64.wrap ((i : Int) + 1) = ((i + 1 : Nat) : Int) := by rw [IntWalk.i64_in _ (by omega)]; rfl
  by_cases hlt : i < 4
  case neg =>
    obtain rfl : i = 4 := by omega
    have hge : ¬ ((4 : Int) < 4) := by omega
    have e : decide (s = t) = true := decide_eq_true (sp_ext.2 hlo)
    simp only [vP.down, vS.down, vE.down, Nat.reduceEqDiff, Nat.reduceAdd, Nat.reduceSub, Nat.reduceMul, Nat.reduceLeDiff, Nat.reduceLT, Int.reduceToNat, reduceIte, reduceCtorEq, Int.reduceEq, Int.reduceLT, Int.reduceLE, ↓avp_condG, ↓tf_arrow, ↓ft_arrow, hge, show ((4 : Nat) : Int) = 4 from rfl]
    simp only [vP.down, vS.down, vE.down, Nat.reduceEqDiff, Nat.reduceAdd, Nat.reduceSub, Nat.reduceMul, Nat.reduceLeDiff, Nat.reduceLT, Int.reduceToNat, reduceIte, reduceCtorEq, Int.reduceEq, Int.reduceLT, Int.reduceLE, ↓avp_condG, ↓tf_arrow, ↓ft_arrow, vT.down, e]
  have hlt' : (i : Int) < 4 := by omega
  have h40 : (0 : Int) ≤ (i : Int) := by omega
  have hdr := drop_spi (s := s) hlt
  have hdt := drop_spi (s := t) hlt
  have p1 : (at4 s i).length < 4611686018427387904 := by have := at4_len hp (i := i); omega
  simp only [vP.down, vS.down, vE.down, Nat.reduceEqDiff, Nat.reduceAdd, Nat.reduceSub, Nat.reduceMul, Nat.reduceLeDiff, Nat.reduceLT, Int.reduceToNat, reduceIte, reduceCtorEq, Int.reduceEq, Int.reduceLT, Int.reduceLE, ↓avp_condG, ↓tf_arrow, ↓ft_arrow, hlt']
  refine weak_at [(5, .imm (spC s)), (6, .imm (spC t)), (7, .t (.int .i64 (i : Nat))), (14, .t (.int .i64 (i : Nat)))] .empty fewer_refl (by simp only [vP.down, vS.down, vE.down, Nat.reduceEqDiff, Nat.reduceAdd, Nat.reduceSub, Nat.reduceMul, Nat.reduceLeDiff, Nat.reduceLT, Int.reduceToNat, reduceIte, reduceCtorEq, Int.reduceEq, Int.reduceLT, Int.reduceLE, ↓avp_condG, ↓tf_arrow, ↓ft_arrow, wP.down]) ?_
  cases he : decide (at4 s i = at4 t i) with
  | false =>
    have e : decide (s = t) = false := decide_eq_false fun h => absurd (h ▸ rfl : at4 s i = at4 t i) (of_decide_eq_false he)
    simp only [vP.down, vS.down, vE.down, Nat.reduceEqDiff, Nat.reduceAdd, Nat.reduceSub, Nat.reduceMul, Nat.reduceLeDiff, Nat.reduceLT, Int.reduceToNat, reduceIte, reduceCtorEq, Int.reduceEq, Int.reduceLT, Int.reduceLE, ↓avp_condG, ↓tf_arrow, ↓ft_arrow, hlt', h40, hdr, hdt, p1, he, Nat.mul_one, Nat.zero_add, Int.toNat_natCast, k_space_Same_span_Same.down, A_span_Same, p_span_Same, r_span_Same]
    simp only [vP.down, vS.down, vE.down, Nat.reduceEqDiff, Nat.reduceAdd, Nat.reduceSub, Nat.reduceMul, Nat.reduceLeDiff, Nat.reduceLT, Int.reduceToNat, reduceIte, reduceCtorEq, Int.reduceEq, Int.reduceLT, Int.reduceLE, ↓avp_condG, ↓tf_arrow, ↓ft_arrow, vT.down, e]
  | true =>
    simp only [vP.down, vS.down, vE.down, Nat.reduceEqDiff, Nat.reduceAdd, Nat.reduceSub, Nat.reduceMul, Nat.reduceLeDiff, Nat.reduceLT, Int.reduceToNat, reduceIte, reduceCtorEq, Int.reduceEq, Int.reduceLT, Int.reduceLE, ↓avp_condG, ↓tf_arrow, ↓ft_arrow, hlt', h40, hdr, hdt, p1, he, Nat.mul_one, Nat.zero_add, Int.toNat_natCast, k_space_Same_span_Same.down, A_span_Same, p_span_Same, r_span_Same]
    exact round_to (4 - (i + 1)) [(5, .imm (spC s)), (6, .imm (spC t)), (14, .t (.int .i64 (i + 1 : Nat)))] .empty (by omega) fewer_refl (by simp only [vP.down, vS.down, vE.down, Nat.reduceEqDiff, Nat.reduceAdd, Nat.reduceSub, Nat.reduceMul, Nat.reduceLeDiff, Nat.reduceLT, Int.reduceToNat, reduceIte, reduceCtorEq, Int.reduceEq, Int.reduceLT, Int.reduceLE, ↓avp_condG, ↓tf_arrow, ↓ft_arrow, wP.down, hi1]) ⟨i + 1, rfl, by omega, fun j hj => (by
      by_cases hji : j = i
      · rw [hji]; exact of_decide_eq_true he
      · exact hlo j (by omega)), rfl⟩
noncomputable def c_space_Same : Con := fnScal A_space_Same p_space_Same r_space_Same
theorem ok_space_Same : COk Try.prog 26 c_space_Same := fn_sok sys_space_Same mixed Try.func26 (by kernel_rfl) geq_space_Same Try.ntmps26 (by rw [Try.results26]) (fun x => by unfold r_space_Same; simp [AV.scal]) fun x hx => ⟨Nat.le_of_ble_eq_true rfl, body_space_Same x hx⟩
end Go.Proofs.Ytgdaibdfjhchbaa


namespace Go.Proofs.Ytgdaibdfjhchbaa
open Go Go.Eng
set_option maxRecDepth 100000
theorem wn_nil {a : Int} {k : Nat} : Wn a k [] := fun _ h => by cases h
theorem Wn.wide {l : List TRun} {n : Nat} (h : Wn 14 40 l) (hn : 40 ≤ n) : Wn 14 n l := h.mono (by omega) (by omega)
theorem wit_of {n : Nat} {l : List TRun} (hl : Nf l) (hw : Wn 14 n l) (hn : n ≤ 1000) : wit n l = true := by
  rw [wit_eq (by omega) (may_of hl hw (by omega) (by omega))]
  refine decide_eq_true (where_nil.2 fun i => ?_)
  rw [all_has]
  cases hi : hasR l i with
  | false => rfl
  | true =>
    have := hw i hi
    rw [decide_eq_true (by omega : (14 : Int) ≤ i), decide_eq_true (by omega : i < 14 + (n : Int))]; rfl
/-- What may be taken of the smallest device. -/
structure Sp (s : TSpace) : Prop where
  nh : Nf s.Held
  no : Nf s.One
  nt : Nf s.Two
  nk : Nf s.Kept
  wh : Wn 14 40 s.Held
  wo : Wn 14 40 s.One
  wt : Wn 14 40 s.Two
  wk : Wn 14 40 s.Kept
  d1 : ∀ i, (hasR s.Held i && hasR s.One i) = false
  d2 : ∀ i, (hasR s.Held i && hasR s.Two i) = false
  d3 : ∀ i, (hasR s.One i && hasR s.Two i) = false
theorem Sp.ok {s : TSpace} (h : Sp s) {n : Nat} (hd : dataOk n = true) : okSp n s = true := by
  have hb := dataOk_iff.1 hd
  have hn : 40 ≤ n ∧ n ≤ 240 := by omega
  rw [okSp, hd, wit_of h.nh (h.wh.wide hn.1) (by omega), wit_of h.no (h.wo.wide hn.1) (by omega), wit_of h.nt (h.wt.wide hn.1) (by omega), wit_of h.nk (h.wk.wide hn.1) (by omega),
    decide_eq_true ((where_nil (h := .both)).2 h.d1), decide_eq_true ((where_nil (h := .both)).2 h.d2), decide_eq_true ((where_nil (h := .both)).2 h.d3)]; rfl
def inS (s : TSpace) (i : Int) : Bool := hasR s.Held i || (hasR s.One i || (hasR s.Two i || hasR s.Kept i))
theorem Sp.free {s : TSpace} (h : Sp s) {n : Nat} (hd : dataOk n = true) (i : Int) : hasR (freeM n s) i = (decide (14 ≤ i) && decide (i < 14 + (n : Int)) && !inS s i) := by
  rw [freeM, if_pos (h.ok hd), where_has, all_has, where_has, where_has, where_has]
  simp only [How.op, inS]
  cases hasR s.Held i <;> cases hasR s.One i <;> cases hasR s.Two i <;> cases hasR s.Kept i <;> rfl
theorem free_nf {n : Int} {s : TSpace} : Nf (freeM n s) := by
  rw [freeM]
  split
  · exact where_nf
  · exact .nil
theorem Sp.fwn {s : TSpace} (h : Sp s) {n : Nat} (hd : dataOk n = true) : Wn 14 n (freeM n s) := fun i hi => by
  rw [h.free hd, Bool.and_eq_true, Bool.and_eq_true, decide_eq_true_eq, decide_eq_true_eq] at hi
  exact hi.1
theorem less_wn {l m : List TRun} {a : Int} {k : Nat} (h : Wn a k l) : Wn a k (whereL .less l m) := fun i hi => by
  rw [where_has] at hi
  simp only [How.op, Bool.and_eq_true] at hi
  exact h i hi.1
theorem add_nil {l : List TRun} (h : Nf l) : whereL .add l [] = l := nf_ext where_nf h fun i => by
  rw [where_has]
  show (hasR l i || false) = _
  rw [Bool.or_false]
theorem less_nil' {l : List TRun} (h : Nf l) : whereL .less l [] = l := nf_ext where_nf h fun i => by
  rw [where_has]
  show (hasR l i && !false) = _
  rw [Bool.not_false, Bool.and_true]
def madeM (x y z w : List TRun) : TSpace := ⟨x, whereL .less y x, whereL .less (whereL .less z x) (whereL .less y x), w⟩
theorem made_sp {x y z w : List TRun} (hx : Sm 8 x) (hy : Sm 8 y) (hz : Sm 8 z) (hw : Sm 8 w) : Sp (madeM x y z w) where
  nh := hx.nf
  no := where_nf
  nt := where_nf
  nk := hw.nf
  wh := hx.wn
  wo := less_wn hy.wn
  wt := less_wn (less_wn hz.wn)
  wk := hw.wn
  d1 i := by
    simp only [madeM, where_has, How.op]
    cases hasR x i <;> simp
  d2 i := by
    simp only [madeM, where_has, How.op]
    cases hasR x i <;> simp
  d3 i := by
    simp only [madeM, where_has, How.op]
    cases hasR x i <;> cases hasR y i <;> simp
theorem turn_d {A B C l : List TRun} : (∀ i, (hasR l i && hasR (whereL .less A l) i) = false) ∧ (∀ i, (hasR l i && hasR (whereL .less (whereL .less B l) C) i) = false) ∧ ∀ i, (hasR (whereL .less A l) i && hasR (whereL .less (whereL .less B l) (whereL .less A l)) i) = false := by
  refine ⟨fun i => ?_, fun i => ?_, fun i => ?_⟩
  · simp only [where_has, How.op]
    cases hasR l i <;> simp
  · simp only [where_has, How.op]
    cases hasR l i <;> simp
  · simp only [where_has, How.op]
    cases hasR l i <;> cases hasR A i <;> simp
theorem Sp.mk' {a b c d : List TRun} (nh : Nf a) (no : Nf b) (nt : Nf c) (nk : Nf d) (wh : Wn 14 40 a) (wo : Wn 14 40 b) (wt : Wn 14 40 c) (wk : Wn 14 40 d) (d1 : ∀ i, (hasR a i && hasR b i) = false) (d2 : ∀ i, (hasR a i && hasR c i) = false) (d3 : ∀ i, (hasR b i && hasR c i) = false) : Sp ⟨a, b, c, d⟩ := ⟨nh, no, nt, nk, wh, wo, wt, wk, d1, d2, d3⟩
theorem Sp.turn {s : TSpace} (h : Sp s) {l : List TRun} (hl : Nf l) (hw : Wn 14 40 l) : Sp (turnM s l) := by
  obtain ⟨d1, d2, d3⟩ := turn_d (A := s.Held) (B := s.One) (C := whereL .less s.Held l) (l := l)
  unfold turnM
  exact Sp.mk' hl where_nf where_nf h.nk hw (less_wn h.wh) (less_wn (less_wn h.wo)) h.wk d1 d2 d3
theorem Sp.keep {s : TSpace} (h : Sp s) : Sp (keepM s) := ⟨h.nh, h.no, h.nt, h.nh, h.wh, h.wo, h.wt, h.wh, h.d1, h.d2, h.d3⟩
theorem Sp.fold {s : TSpace} (h : Sp s) : Sp (foldM s) where
  nh := where_nf
  no := where_nf
  nt := where_nf
  nk := .nil
  wh := where_wn h.wh h.wk
  wo := less_wn h.wo
  wt := less_wn h.wt
  wk := wn_nil
  d1 i := by
    have := h.d1 i
    revert this
    simp only [foldM, where_has, How.op]
    cases hasR s.Held i <;> cases hasR s.One i <;> cases hasR s.Kept i <;> simp
  d2 i := by
    have := h.d2 i
    revert this
    simp only [foldM, where_has, How.op]
    cases hasR s.Held i <;> cases hasR s.Two i <;> cases hasR s.Kept i <;> simp
  d3 i := by
    have := h.d3 i
    revert this
    simp only [foldM, where_has, How.op]
    cases hasR s.One i <;> cases hasR s.Two i <;> cases hasR s.Kept i <;> simp
theorem turn_eq {s : TSpace} {l : List TRun} (hl : Nf l) (hk : Nf s.Kept) : turnR s l = turnM s l := by
  rw [turnR, turnM, add_nil hl, add_nil hk]
theorem turn_in {s : TSpace} {l : List TRun} {i : Int} : inS (turnM s l) i = (hasR l i || (hasR s.Held i || (hasR s.One i || hasR s.Kept i))) := by
  simp only [inS, turnM, where_has, How.op]
  cases hasR l i <;> cases hasR s.Held i <;> cases hasR s.One i <;> cases hasR s.Kept i <;> rfl
theorem Sm.len8 {x : List TRun} (h : Sm 8 x) : x.length ≤ 8 := by have := h.len; omega
end Go.Proofs.Ytgdaibdfjhchbaa


namespace Go.Proofs.Ytgdaibdfjhchbaa
open Go Go.Eng
set_option maxRecDepth 100000
theorem box_w1 {α : Type} [Cell α] {s s' : Store} {v : AV} {l : List α} (h : LV s v l) (hd : ∀ g, ¬ Not v g → s'.f g = none) : W1 s s' v (.t (sl l)) := by
  rcases h with ⟨rfl, rfl⟩ | ⟨g, rfl, ro, h⟩
  · exact .inr (.inl ⟨_, rfl, .inl rfl⟩)
  · refine .inr (.inr ⟨sl l, [g], ?_, .inl rfl, fun k hk => ?_⟩)
    · simp only [Store.borrow1, h, sl]
      simp
      rw [List.take_of_length_le (by simp)]
    · obtain rfl : k = g := by simpa using hk
      exact hd _ fun hn => hn _ _ _ rfl
/-- A space whose last set is the call's own becomes one to be read only. -/
theorem sp_freeze {S : Store} {g : Nat} {a b c : TV} {v : AV} {w : List TRun} (h : S.f g = some (.box [.t a, .t b, .t c, v] false)) (hv : LV S v w) : Fewer S (Store.empty.set g (some (.box [.t a, .t b, .t c, .t (sl w)] false))) := fun k e' hk => by
  have hvg := hv.notbox h
  by_cases hkg : k = g
  · subst hkg
    rw [Store.set_same] at hk
    cases hk
    refine ⟨_, h, .inr ⟨_, _, false, rfl, rfl, ⟨.inl rfl, .inl rfl, .inl rfl, box_w1 hv fun x hx => ?_, trivial⟩, rfl⟩⟩
    exact Store.set_other _ _ fun hh => hx (hh ▸ hvg)
  · rw [Store.set_other _ _ hkg] at hk; cases hk
/-- A list is lent: a box stays what it is. -/
theorem lv_lend {α : Type} [Cell α] {S : Store} {v : AV} {l : List α} (hv : LV S v l) {g : Nat} {cs : List AV} (hg : S.f g = some (.box cs false)) : ∃ y ros, S.borrow v = some (.t y, ros) ∧ (argT (List α)).dec (.t y) = some l ∧ (S.marks ros).f g = some (.box cs false) := by
  have hvg := hv.notbox hg
  rcases hv with ⟨rfl, rfl⟩ | ⟨k, rfl, ro, h⟩
  · exact ⟨.nilS, [], rfl, rfl, hg⟩
  · refine ⟨sl l, [k], ?_, argT_sl, ?_⟩
    · simp only [Store.borrow, Store.borrow1, h, sl]
      simp
      rw [List.take_of_length_le (by simp)]
    · have hkg : k ≠ g := fun e => hvg _ _ _ (by rw [e])
      rw [marks_one]
      unfold Store.mark
      rw [Store.set_other _ _ hkg.symm]; exact hg
theorem only_box {S : Store} {g : Nat} {e : Entry} (h : S.f g = some e) : Fewer S (Store.empty.set g (some e)) := fewer_sub fun k e' hk => by
  by_cases hkg : k = g
  · subst hkg; rw [Store.set_same] at hk; rw [← hk]; exact h
  · rw [Store.set_other _ _ hkg] at hk; cases hk
theorem off_box {α : Type} [Cell α] {S : Store} {v : AV} {l : List α} (hv : LV S v l) {g : Nat} {cs : List AV} {ro : Bool} {e : Entry} (hg : S.f g = some (.box cs ro)) : ∀ k, ¬ Not v k → (Store.empty.set g (some e)).f k = none := fun k hk => Store.set_other _ _ fun hh => hk (hh ▸ hv.notbox hg)
def G_law10_made : GCode := .seq (.region [⟨(some 8), none, .alloc 26⟩]) (.seq (.region [⟨(some 12), none, .move (.tmp 0)⟩, ⟨(some 13), none, .call ⟨.value (.func 12), #[.tmp 12], #[22]⟩⟩, ⟨(some 14), none, .call ⟨.value (.func 13), #[.tmp 13, .const (.int .i64 8)], #[28, 3]⟩⟩, ⟨(some 9), none, .assign (.tmp 14)⟩]) (.seq (.seq .weak (.region [⟨(some 15), none, .move (.tmp 1)⟩, ⟨(some 16), none, .call ⟨.value (.func 12), #[.tmp 15], #[22]⟩⟩, ⟨(some 17), none, .call ⟨.value (.func 13), #[.tmp 16, .const (.int .i64 8)], #[28, 3]⟩⟩, ⟨(some 18), none, .move (.tmp 9)⟩, ⟨(some 19), none, .call ⟨.value (.func 31), #[.tmp 17, .tmp 18], #[23, 23]⟩⟩, ⟨(some 10), none, .assign (.tmp 19)⟩])) (.seq (.seq .weak (.region [⟨(some 20), none, .move (.tmp 2)⟩, ⟨(some 21), none, .call ⟨.value (.func 12), #[.tmp 20], #[22]⟩⟩, ⟨(some 22), none, .call ⟨.value (.func 13), #[.tmp 21, .const (.int .i64 8)], #[28, 3]⟩⟩, ⟨(some 23), none, .move (.tmp 9)⟩, ⟨(some 24), none, .call ⟨.value (.func 31), #[.tmp 22, .tmp 23], #[23, 23]⟩⟩, ⟨(some 25), none, .move (.tmp 10)⟩, ⟨(some 26), none, .call ⟨.value (.func 31), #[.tmp 24, .tmp 25], #[23, 23]⟩⟩, ⟨(some 11), none, .assign (.tmp 26)⟩])) (.seq (.seq .weak (.region [⟨(some 27), none, .move (.tmp 9)⟩, ⟨(some 28), none, .move (.tmp 10)⟩, ⟨(some 29), none, .move (.tmp 11)⟩, ⟨(some 30), none, .move (.tmp 3)⟩, ⟨(some 31), none, .call ⟨.value (.func 12), #[.tmp 30], #[22]⟩⟩, ⟨(some 32), none, .call ⟨.value (.func 13), #[.tmp 31, .const (.int .i64 8)], #[28, 3]⟩⟩, ⟨(some 33), none, .build 26 #[(0, .tmp 27), (1, .tmp 28), (2, .tmp 29), (3, .tmp 32)]⟩, ⟨none, none, .store 26 (.tmp 8) (.tmp 33)⟩])) (.ret)))))
noncomputable def l_law10_made : List (Nat × Con) := [(12, c_made_Made), (13, c_made_Picks_Runs), (31, c_ref8_Less)]
noncomputable abbrev K_law10_made : Ctx := ctx (cl l_law10_made)
theorem geq_law10_made : gof K_law10_made Try.f11 = some G_law10_made.strip := by kernel_rfl
theorem sys_law10_made : Go.Eng.Sys Try.prog K_law10_made := sys_of' ⟨ok_made_Made, ok_made_Picks_Runs, ok_ref8_Less, trivial⟩
theorem hm_law10_made : ConMono K_law10_made := conMono_of sys_law10_made.con
noncomputable def k_law10_made_made_Made := PLift.up (call_new (C := K_law10_made) (f := 12) (c := q_made_Made) (e := e_made_Made) (mk := mk_made_Made) rfl)
noncomputable def k_law10_made_made_Picks_Runs := PLift.up (call_gen (C := K_law10_made) (f := 13) (modes := m_made_Picks_Runs) (F := F_made_Picks_Runs) rfl)
noncomputable def k_law10_made_ref8_Less := PLift.up (call_fn (C := K_law10_made) (f := 31) (A := A_ref8_Less) (p := p_ref8_Less) (r := r_ref8_Less) rfl)
def m_law10_made : List Bool := [false, false, false, false]
def F_law10_made (xs : List AV) (s : Store) (Q : AV → Store → Prop) : Prop := ∃ a b c d : List Byt, xs = [.t (sl a), .t (sl b), .t (sl c), .t (sl d)] ∧ (a.length ≤ 1000 ∧ b.length ≤ 1000 ∧ c.length ≤ 1000 ∧ d.length ≤ 1000) ∧
  ∀ v S x y z w, LV S v w → Sm 8 x → Sm 8 y → Sm 8 z → Sm 8 w → Q (.agg [.t (sl x), .t (sl (whereL .less y x)), .t (sl (whereL .less (whereL .less z x) (whereL .less y x))), v]) S
theorem mono_law10_made (xs : List AV) (s : Store) (Q Q' : AV → Store → Prop) (hq : ∀ r t, Q r t → Q' r t) : F_law10_made xs s Q → F_law10_made xs s Q' := fun ⟨a, b, c, d, e, f, h⟩ => ⟨a, b, c, d, e, f, fun v S x y z w h1 h2 h3 h4 h5 => hq _ _ (h v S x y z w h1 h2 h3 h4 h5)⟩
theorem ex_law10_made (xs : List AV) (s : Store) (Q : AV → Store → Prop) : F_law10_made xs s Q → ∃ r t, Q r t := fun ⟨_, _, _, _, _, _, h⟩ => ⟨_, _, h (.t .nilS) s [] [] [] [] lv_nil (.nil (by omega)) (.nil (by omega)) (.nil (by omega)) (.nil (by omega))⟩
set_option maxHeartbeats 4000000 in
theorem body_law10_made (xs : List AV) (s : Store) (Q : AV → Store → Prop) (h : F_law10_made xs s Q) : xs.length ≤ 34 ∧ avp K_law10_made G_law10_made (Ret K_law10_made [.cell 8 26] fun r s' => ∃ s'', Sub s'' s' ∧ Q r s'') (entry xs s) := by
  obtain ⟨a, b, c, d, rfl, ⟨la, lb, lc, ld⟩, hq⟩ := h
  refine ⟨by simp, ?_⟩
  unfold G_law10_made
  simp only [vP.down, vS.down, vE.down, Nat.reduceEqDiff, Nat.reduceAdd, Nat.reduceSub, Nat.reduceMul, Nat.reduceLeDiff, Nat.reduceLT, Int.reduceToNat, reduceIte, reduceCtorEq, Int.reduceEq, Int.reduceLT, Int.reduceLE, ↓avp_condG, ↓tf_arrow, ↓ft_arrow, k_law10_made_made_Made.down, q_made_Made, e_made_Made, mk_made_Made, k_law10_made_made_Picks_Runs.down, m_made_Picks_Runs]
  intro g8 hg8
  refine ⟨⟨a, rfl⟩, fun g1 hg1 => ?_⟩
  refine runs_any (pk_new hg1 (by omega)) (by omega) (by omega) fun v1 S1 x hv1 hx H1 _ => ?_
  have n1 := Store.ne_new hg1
  have f1 : S1.f g8 = some (.box [.t .nilS, .t .nilS, .t .nilS, .t .nilS] false) := H1.keep ((Store.set_other _ _ n1.symm).trans (Store.set_same _ _ _)) n1.symm
  refine weak_at [(1, .t (sl b)), (2, .t (sl c)), (3, .t (sl d)), (8, .ptr g8 0), (9, .t (sl x))] (Store.empty.set g8 (some (.box [.t .nilS, .t .nilS, .t .nilS, .t .nilS] false))) (only_box f1) (by
    simp only [vP.down, vS.down, vE.down, Nat.reduceEqDiff, Nat.reduceAdd, Nat.reduceSub, Nat.reduceMul, Nat.reduceLeDiff, Nat.reduceLT, Int.reduceToNat, reduceIte, reduceCtorEq, Int.reduceEq, Int.reduceLT, Int.reduceLE, ↓avp_condG, ↓tf_arrow, ↓ft_arrow, wP.down]
    exact hv1.w2 (off_box hv1 f1)) ?_
  clear H1 hv1 f1 n1 hg1 hg8
  simp only [vP.down, vS.down, vE.down, Nat.reduceEqDiff, Nat.reduceAdd, Nat.reduceSub, Nat.reduceMul, Nat.reduceLeDiff, Nat.reduceLT, Int.reduceToNat, reduceIte, reduceCtorEq, Int.reduceEq, Int.reduceLT, Int.reduceLE, ↓avp_condG, ↓tf_arrow, ↓ft_arrow, k_law10_made_made_Made.down, q_made_Made, e_made_Made, mk_made_Made, k_law10_made_made_Picks_Runs.down, m_made_Picks_Runs]
  refine ⟨⟨b, rfl⟩, fun g1 hg1 => ?_⟩
  refine runs_any (pk_new hg1 (by omega)) (by omega) (by omega) fun v1 S1 y hv1 hy H1 _ => ?_
  have n1 := Store.ne_new hg1
  have f1 : S1.f g8 = some (.box [.t .nilS, .t .nilS, .t .nilS, .t .nilS] false) := H1.keep ((Store.set_other _ _ n1.symm).trans (Store.set_same _ _ _)) n1.symm
  obtain ⟨u, ros, hb, hdc, fm⟩ := lv_lend hv1 f1
  have lx := hx.len8
  have ly := hy.len8
  have p1 : y.length + x.length ≤ 1099511627 := by omega
  simp only [vP.down, vS.down, vE.down, Nat.reduceEqDiff, Nat.reduceAdd, Nat.reduceSub, Nat.reduceMul, Nat.reduceLeDiff, Nat.reduceLT, Int.reduceToNat, reduceIte, reduceCtorEq, Int.reduceEq, Int.reduceLT, Int.reduceLE, ↓avp_condG, ↓tf_arrow, ↓ft_arrow, hb, hdc, p1, k_law10_made_ref8_Less.down, A_ref8_Less, p_ref8_Less, r_ref8_Less]
  refine weak_at [(2, .t (sl c)), (3, .t (sl d)), (8, .ptr g8 0), (9, .t (sl x)), (10, .t (sl (whereL .less y x)))] (Store.empty.set g8 (some (.box [.t .nilS, .t .nilS, .t .nilS, .t .nilS] false))) (only_box fm) (by simp only [vP.down, vS.down, vE.down, Nat.reduceEqDiff, Nat.reduceAdd, Nat.reduceSub, Nat.reduceMul, Nat.reduceLeDiff, Nat.reduceLT, Int.reduceToNat, reduceIte, reduceCtorEq, Int.reduceEq, Int.reduceLT, Int.reduceLE, ↓avp_condG, ↓tf_arrow, ↓ft_arrow, wP.down]) ?_
  clear H1 hv1 f1 n1 hg1 hb hdc fm
  obtain ⟨one, hone⟩ : ∃ o, o = whereL .less y x := ⟨_, rfl⟩
  have w1 := where_len .less y x
  rw [← hone] at w1 ⊢
  simp only [vP.down, vS.down, vE.down, Nat.reduceEqDiff, Nat.reduceAdd, Nat.reduceSub, Nat.reduceMul, Nat.reduceLeDiff, Nat.reduceLT, Int.reduceToNat, reduceIte, reduceCtorEq, Int.reduceEq, Int.reduceLT, Int.reduceLE, ↓avp_condG, ↓tf_arrow, ↓ft_arrow, k_law10_made_made_Made.down, q_made_Made, e_made_Made, mk_made_Made, k_law10_made_made_Picks_Runs.down, m_made_Picks_Runs]
  refine ⟨⟨c, rfl⟩, fun g1 hg1 => ?_⟩
  refine runs_any (pk_new hg1 (by omega)) (by omega) (by omega) fun v1 S1 z hv1 hz H1 _ => ?_
  have n1 := Store.ne_new hg1
  have f1 : S1.f g8 = some (.box [.t .nilS, .t .nilS, .t .nilS, .t .nilS] false) := H1.keep ((Store.set_other _ _ n1.symm).trans (Store.set_same _ _ _)) n1.symm
  obtain ⟨u, ros, hb, hdc, fm⟩ := lv_lend hv1 f1
  have lz := hz.len8
  have w2 := where_len .less z x
  have p2 : z.length + x.length ≤ 1099511627 := by omega
  have p3 : (whereL .less z x).length + one.length ≤ 1099511627 := by omega
  simp only [vP.down, vS.down, vE.down, Nat.reduceEqDiff, Nat.reduceAdd, Nat.reduceSub, Nat.reduceMul, Nat.reduceLeDiff, Nat.reduceLT, Int.reduceToNat, reduceIte, reduceCtorEq, Int.reduceEq, Int.reduceLT, Int.reduceLE, ↓avp_condG, ↓tf_arrow, ↓ft_arrow, hb, hdc, p2, p3, k_law10_made_ref8_Less.down, A_ref8_Less, p_ref8_Less, r_ref8_Less]
  refine weak_at [(3, .t (sl d)), (8, .ptr g8 0), (9, .t (sl x)), (10, .t (sl one)), (11, .t (sl (whereL .less (whereL .less z x) one)))] (Store.empty.set g8 (some (.box [.t .nilS, .t .nilS, .t .nilS, .t .nilS] false))) (only_box fm) (by simp only [vP.down, vS.down, vE.down, Nat.reduceEqDiff, Nat.reduceAdd, Nat.reduceSub, Nat.reduceMul, Nat.reduceLeDiff, Nat.reduceLT, Int.reduceToNat, reduceIte, reduceCtorEq, Int.reduceEq, Int.reduceLT, Int.reduceLE, ↓avp_condG, ↓tf_arrow, ↓ft_arrow, wP.down]) ?_
  clear H1 hv1 f1 n1 hg1 hb hdc fm
  simp only [vP.down, vS.down, vE.down, Nat.reduceEqDiff, Nat.reduceAdd, Nat.reduceSub, Nat.reduceMul, Nat.reduceLeDiff, Nat.reduceLT, Int.reduceToNat, reduceIte, reduceCtorEq, Int.reduceEq, Int.reduceLT, Int.reduceLE, ↓avp_condG, ↓tf_arrow, ↓ft_arrow, k_law10_made_made_Made.down, q_made_Made, e_made_Made, mk_made_Made, k_law10_made_made_Picks_Runs.down, m_made_Picks_Runs]
  refine ⟨⟨d, rfl⟩, fun g1 hg1 => ?_⟩
  refine runs_any (pk_new hg1 (by omega)) (by omega) (by omega) fun v1 S1 w hv1 hw H1 _ => ?_
  have n1 := Store.ne_new hg1
  have f1 : S1.f g8 = some (.box [.t .nilS, .t .nilS, .t .nilS, .t .nilS] false) := H1.keep ((Store.set_other _ _ n1.symm).trans (Store.set_same _ _ _)) n1.symm
  have hvg := hv1.notbox f1
  have hv2 : LV (S1.set g8 (some (.box [.t (sl x), .t (sl one), .t (sl (whereL .less (whereL .less z x) one)), v1] false))) v1 w := hv1.set hvg
  simp only [vP.down, vS.down, vE.down, Nat.reduceEqDiff, Nat.reduceAdd, Nat.reduceSub, Nat.reduceMul, Nat.reduceLeDiff, Nat.reduceLT, Int.reduceToNat, reduceIte, reduceCtorEq, Int.reduceEq, Int.reduceLT, Int.reduceLE, ↓avp_condG, ↓tf_arrow, ↓ft_arrow, f1, hv1.cells, hv1.one]
  simp only [vP.down, vS.down, vE.down, Nat.reduceEqDiff, Nat.reduceAdd, Nat.reduceSub, Nat.reduceMul, Nat.reduceLeDiff, Nat.reduceLT, Int.reduceToNat, reduceIte, reduceCtorEq, Int.reduceEq, Int.reduceLT, Int.reduceLE, ↓avp_condG, ↓tf_arrow, ↓ft_arrow, vT.down, Store.set_same]
  subst hone
  exact ⟨_, fun _ _ h => h, hq _ _ x y z w hv2 hx hy hz hw⟩
noncomputable def c_law10_made : Con := .gen m_law10_made F_law10_made
theorem ok_law10_made : COk Try.prog 11 c_law10_made := fn_gok sys_law10_made mixed Try.func11 (by kernel_rfl) geq_law10_made Try.ntmps11 (by rw [Try.results11]) mono_law10_made ex_law10_made body_law10_made
end Go.Proofs.Ytgdaibdfjhchbaa


namespace Go.Proofs.Ytgdaibdfjhchbaa
open Go Go.Eng
set_option maxRecDepth 100000
def gH : List TRun := [⟨20, 22⟩]
def g0S : TSpace := ⟨[], [], [], []⟩
def g1S : TSpace := ⟨gH, [], [], []⟩
def g2S : TSpace := ⟨[], gH, [], []⟩
def g3S : TSpace := ⟨[], [], gH, []⟩
def gF : List TRun := [⟨14, 20⟩, ⟨22, 54⟩]
theorem gb1 : turnM ⟨[], [], [], []⟩ gH = g1S := by decide +kernel
theorem gb2 : turnM g1S [] = g2S := by decide +kernel
theorem gb3 : turnM g2S [] = g3S := by decide +kernel
theorem gb4 : turnM g3S [] = g0S := by decide +kernel
theorem gb5 : freeM 40 g1S = gF := by decide +kernel
theorem gb6 : okSp 40 g1S = true := by decide +kernel
theorem gb7 : okSp 39 g1S = false := by decide +kernel
theorem gb8 : (keepM g1S).Kept = gH := by decide +kernel
theorem gb9 : (foldM (keepM g1S)).Kept = [] := by decide +kernel
theorem gl0 : lenS ⟨[], [], [], []⟩ := by unfold lenS; decide
theorem gl1 : lenS g1S := by unfold lenS; decide
theorem gl2 : lenS g2S := by unfold lenS; decide
theorem gl3 : lenS g3S := by unfold lenS; decide
theorem glk : lenS (keepM g1S) := by unfold lenS; decide
def G_law10_begun : GCode := .seq (.region [⟨(some 0), none, .assign (.const (.bool false))⟩]) (.seq (.region [⟨(some 7), none, .build 48 #[(0, .const (.int .i64 20)), (1, .const (.int .i64 22))]⟩, ⟨(some 8), none, .buildSlice 23 1 #[(0, .tmp 7)]⟩, ⟨(some 1), none, .assign (.tmp 8)⟩]) (.seq (.seq .weak (.region [⟨(some 9), none, .build 26 #[]⟩, ⟨(some 10), none, .move (.tmp 1)⟩, ⟨(some 11), none, .call ⟨.value (.func 22), #[.tmp 9, .tmp 10], #[26, 23]⟩⟩, ⟨(some 2), none, .alloc 26⟩, ⟨none, none, .store 26 (.tmp 2) (.tmp 11)⟩])) (.seq (.seq .weak (.region [⟨(some 12), none, .load 26 (.tmp 2)⟩, ⟨(some 13), none, .call ⟨.value (.func 22), #[.tmp 12, .const (.slice none 0 0)], #[26, 23]⟩⟩, ⟨(some 3), none, .alloc 26⟩, ⟨none, none, .store 26 (.tmp 3) (.tmp 13)⟩])) (.seq (.seq .weak (.region [⟨(some 14), none, .load 26 (.tmp 3)⟩, ⟨(some 15), none, .call ⟨.value (.func 22), #[.tmp 14, .const (.slice none 0 0)], #[26, 23]⟩⟩, ⟨(some 4), none, .alloc 26⟩, ⟨none, none, .store 26 (.tmp 4) (.tmp 15)⟩])) (.seq (.seq .weak (.region [⟨(some 16), none, .load 26 (.tmp 4)⟩, ⟨(some 17), none, .call ⟨.value (.func 22), #[.tmp 16, .const (.slice none 0 0)], #[26, 23]⟩⟩, ⟨(some 5), none, .alloc 26⟩, ⟨none, none, .store 26 (.tmp 5) (.tmp 17)⟩])) (.seq (.seq .weak (.region [⟨(some 18), none, .load 26 (.tmp 2)⟩, ⟨(some 19), none, .call ⟨.value (.func 19), #[.const (.int .i64 40), .tmp 18], #[3, 26]⟩⟩, ⟨(some 6), none, .assign (.tmp 19)⟩])) (.seq (.seq .weak (.region [⟨(some 20), none, .fieldAddr 26 (.tmp 2) 0⟩, ⟨(some 21), none, .load 23 (.tmp 20)⟩, ⟨(some 22), none, .move (.tmp 1)⟩, ⟨(some 23), none, .call ⟨.value (.func 18), #[.tmp 21, .tmp 22], #[23, 23]⟩⟩, ⟨(some 24), none, .move (.tmp 23)⟩, ⟨(some 25), (some (24, true)), .fieldAddr 26 (.tmp 3) 1⟩, ⟨(some 26), (some (24, true)), .load 23 (.tmp 25)⟩, ⟨(some 27), (some (24, true)), .move (.tmp 1)⟩, ⟨(some 28), (some (24, true)), .call ⟨.value (.func 18), #[.tmp 26, .tmp 27], #[23, 23]⟩⟩, ⟨(some 29), none, .pick (.tmp 24) (.tmp 28) (.const (.bool false))⟩, ⟨(some 30), none, .move (.tmp 29)⟩, ⟨(some 31), (some (30, true)), .fieldAddr 26 (.tmp 4) 2⟩, ⟨(some 32), (some (30, true)), .load 23 (.tmp 31)⟩, ⟨(some 33), (some (30, true)), .move (.tmp 1)⟩, ⟨(some 34), (some (30, true)), .call ⟨.value (.func 18), #[.tmp 32, .tmp 33], #[23, 23]⟩⟩, ⟨(some 35), none, .pick (.tmp 30) (.tmp 34) (.const (.bool false))⟩, ⟨(some 36), none, .move (.tmp 35)⟩, ⟨(some 37), (some (36, true)), .load 26 (.tmp 5)⟩, ⟨(some 38), (some (36, true)), .build 26 #[]⟩, ⟨(some 39), (some (36, true)), .call ⟨.value (.func 26), #[.tmp 37, .tmp 38], #[26, 26]⟩⟩, ⟨(some 40), none, .pick (.tmp 36) (.tmp 39) (.const (.bool false))⟩, ⟨(some 41), none, .move (.tmp 40)⟩, ⟨(some 42), (some (41, true)), .move (.tmp 6)⟩, ⟨(some 43), (some (41, true)), .call ⟨.builtin .len, #[.tmp 42], #[23]⟩⟩, ⟨(some 44), (some (41, true)), .binOp .eql 3 (.tmp 43) (.const (.int .i64 2)) 3⟩, ⟨(some 45), none, .pick (.tmp 41) (.tmp 44) (.const (.bool false))⟩, ⟨(some 46), none, .move (.tmp 45)⟩, ⟨(some 47), (some (46, true)), .move (.tmp 6)⟩, ⟨(some 48), (some (46, true)), .indexAddr 23 (.tmp 47) (.const (.int .i64 1))⟩, ⟨(some 49), (some (46, true)), .fieldAddr 48 (.tmp 48) 0⟩, ⟨(some 50), (some (46, true)), .load 3 (.tmp 49)⟩, ⟨(some 51), (some (46, true)), .binOp .eql 3 (.tmp 50) (.const (.int .i64 22)) 3⟩, ⟨(some 52), none, .pick (.tmp 46) (.tmp 51) (.const (.bool false))⟩, ⟨(some 53), none, .move (.tmp 52)⟩, ⟨(some 54), (some (53, true)), .load 26 (.tmp 2)⟩, ⟨(some 55), (some (53, true)), .call ⟨.value (.func 16), #[.const (.int .i64 40), .tmp 54], #[3, 26]⟩⟩, ⟨(some 56), none, .pick (.tmp 53) (.tmp 55) (.const (.bool false))⟩, ⟨(some 57), none, .move (.tmp 56)⟩, ⟨(some 58), (some (57, true)), .load 26 (.tmp 2)⟩, ⟨(some 59), (some (57, true)), .call ⟨.value (.func 16), #[.const (.int .i64 39), .tmp 58], #[3, 26]⟩⟩, ⟨(some 60), (some (57, true)), .unOp .not 4 (.tmp 59)⟩, ⟨(some 61), none, .pick (.tmp 57) (.tmp 60) (.const (.bool false))⟩, ⟨(some 62), none, .move (.tmp 61)⟩, ⟨(some 63), (some (62, true)), .load 26 (.tmp 2)⟩, ⟨(some 64), (some (62, true)), .call ⟨.value (.func 14), #[.tmp 63], #[26]⟩⟩, ⟨(some 65), (some (62, true)), .field 26 (.tmp 64) 3⟩, ⟨(some 66), (some (62, true)), .move (.tmp 1)⟩, ⟨(some 67), (some (62, true)), .call ⟨.value (.func 18), #[.tmp 65, .tmp 66], #[23, 23]⟩⟩, ⟨(some 68), none, .pick (.tmp 62) (.tmp 67) (.const (.bool false))⟩, ⟨(some 69), none, .move (.tmp 68)⟩, ⟨(some 70), (some (69, true)), .load 26 (.tmp 2)⟩, ⟨(some 71), (some (69, true)), .call ⟨.value (.func 14), #[.tmp 70], #[26]⟩⟩, ⟨(some 72), (some (69, true)), .call ⟨.value (.func 15), #[.tmp 71], #[26]⟩⟩, ⟨(some 73), (some (69, true)), .field 26 (.tmp 72) 3⟩, ⟨(some 74), (some (69, true)), .call ⟨.builtin .len, #[.tmp 73], #[23]⟩⟩, ⟨(some 75), (some (69, true)), .binOp .eql 3 (.tmp 74) (.const (.int .i64 0)) 3⟩, ⟨(some 76), none, .pick (.tmp 69) (.tmp 75) (.const (.bool false))⟩, ⟨(some 0), none, .assign (.tmp 76)⟩])) (.ret))))))))
noncomputable def l_law10_begun : List (Nat × Con) := [(22, c_space_Turn), (19, c_space_Free), (18, c_ref8_Same), (26, c_space_Same), (16, c_space_May), (14, c_space_Keep), (15, c_space_Fold)]
noncomputable abbrev K_law10_begun : Ctx := ctx (cl l_law10_begun)
theorem geq_law10_begun : gof K_law10_begun Try.f10 = some G_law10_begun.strip := by kernel_rfl
theorem sys_law10_begun : Go.Eng.Sys Try.prog K_law10_begun := sys_of' ⟨ok_space_Turn, ok_space_Free, ok_ref8_Same, ok_space_Same, ok_space_May, ok_space_Keep, ok_space_Fold, trivial⟩
theorem hm_law10_begun : ConMono K_law10_begun := conMono_of sys_law10_begun.con
noncomputable def k_law10_begun_space_Turn := PLift.up (call_fn (C := K_law10_begun) (f := 22) (A := A_space_Turn) (p := p_space_Turn) (r := r_space_Turn) rfl)
noncomputable def k_law10_begun_space_Free := PLift.up (call_fn (C := K_law10_begun) (f := 19) (A := A_space_Free) (p := p_space_Free) (r := r_space_Free) rfl)
noncomputable def k_law10_begun_ref8_Same := PLift.up (call_scal (C := K_law10_begun) (f := 18) (A := A_ref8_Same) (p := p_ref8_Same) (r := r_ref8_Same) rfl)
noncomputable def k_law10_begun_space_Same := PLift.up (call_scal (C := K_law10_begun) (f := 26) (A := A_space_Same) (p := p_space_Same) (r := r_space_Same) rfl)
noncomputable def k_law10_begun_space_May := PLift.up (call_scal (C := K_law10_begun) (f := 16) (A := A_space_May) (p := p_space_May) (r := r_space_May) rfl)
noncomputable def k_law10_begun_space_Keep := PLift.up (call_fn (C := K_law10_begun) (f := 14) (A := A_space_Keep) (p := p_space_Keep) (r := r_space_Keep) rfl)
noncomputable def k_law10_begun_space_Fold := PLift.up (call_fn (C := K_law10_begun) (f := 15) (A := A_space_Fold) (p := p_space_Fold) (r := r_space_Fold) rfl)
def A_law10_begun := Arms.nil
def p_law10_begun (_ : Unit) : Prop := True
def r_law10_begun (_ : Unit) : AV := .t (.bool true)
set_option maxHeartbeats 4000000 in
theorem body_law10_begun (x : Unit) (_ : p_law10_begun x) : avp K_law10_begun G_law10_begun (Ret K_law10_begun [.tmp 0] fun v _ => v = r_law10_begun x) (entry (A_law10_begun.enc x) .empty) := by
  unfold G_law10_begun
  simp only [vP.down, vS.down, vE.down, Nat.reduceEqDiff, Nat.reduceAdd, Nat.reduceSub, Nat.reduceMul, Nat.reduceLeDiff, Nat.reduceLT, Int.reduceToNat, reduceIte, reduceCtorEq, Int.reduceEq, Int.reduceLT, Int.reduceLE, ↓avp_condG, ↓tf_arrow, ↓ft_arrow]
  intro g hg
  refine weak_at [(1, .t (sl gH))] .empty fewer_empty (by
    simp only [vP.down, vS.down, vE.down, Nat.reduceEqDiff, Nat.reduceAdd, Nat.reduceSub, Nat.reduceMul, Nat.reduceLeDiff, Nat.reduceLT, Int.reduceToNat, reduceIte, reduceCtorEq, Int.reduceEq, Int.reduceLT, Int.reduceLE, ↓avp_condG, ↓tf_arrow, ↓ft_arrow, wP.down]
    exact (lv_at (α := TRun) (l := gH) (ro := false) rfl (Store.set_same _ _ _)).w2 fun _ _ => rfl) ?_
  have hH : gH.length ≤ 1000 := by decide
  simp only [vP.down, vS.down, vE.down, Nat.reduceEqDiff, Nat.reduceAdd, Nat.reduceSub, Nat.reduceMul, Nat.reduceLeDiff, Nat.reduceLT, Int.reduceToNat, reduceIte, reduceCtorEq, Int.reduceEq, Int.reduceLT, Int.reduceLE, ↓avp_condG, ↓tf_arrow, ↓ft_arrow, gl0, gb1, hH, spC, k_law10_begun_space_Turn.down, A_space_Turn, p_space_Turn, r_space_Turn]
  intro g2 hg2
  refine weak_at [(1, .t (sl gH)), (2, .imm (spC g1S))] .empty fewer_empty (by
    simp only [vP.down, vS.down, vE.down, Nat.reduceEqDiff, Nat.reduceAdd, Nat.reduceSub, Nat.reduceMul, Nat.reduceLeDiff, Nat.reduceLT, Int.reduceToNat, reduceIte, reduceCtorEq, Int.reduceEq, Int.reduceLT, Int.reduceLE, ↓avp_condG, ↓tf_arrow, ↓ft_arrow, wP.down]
    exact w2_imm (l := spC g1S) (ro := false) (Store.set_same _ _ _) rfl) ?_
  have h0 : ([] : List TRun).length ≤ 1000 := by decide
  simp only [vP.down, vS.down, vE.down, Nat.reduceEqDiff, Nat.reduceAdd, Nat.reduceSub, Nat.reduceMul, Nat.reduceLeDiff, Nat.reduceLT, Int.reduceToNat, reduceIte, reduceCtorEq, Int.reduceEq, Int.reduceLT, Int.reduceLE, ↓avp_condG, ↓tf_arrow, ↓ft_arrow, gl1, gb2, h0, spC, k_law10_begun_space_Turn.down, A_space_Turn, p_space_Turn, r_space_Turn]
  intro g3 hg3
  refine weak_at [(1, .t (sl gH)), (2, .imm (spC g1S)), (3, .imm (spC g2S))] .empty fewer_empty (by
    simp only [vP.down, vS.down, vE.down, Nat.reduceEqDiff, Nat.reduceAdd, Nat.reduceSub, Nat.reduceMul, Nat.reduceLeDiff, Nat.reduceLT, Int.reduceToNat, reduceIte, reduceCtorEq, Int.reduceEq, Int.reduceLT, Int.reduceLE, ↓avp_condG, ↓tf_arrow, ↓ft_arrow, wP.down, spC]
    exact w2_imm (l := spC g2S) (ro := false) (Store.set_same _ _ _) rfl) ?_
  simp only [vP.down, vS.down, vE.down, Nat.reduceEqDiff, Nat.reduceAdd, Nat.reduceSub, Nat.reduceMul, Nat.reduceLeDiff, Nat.reduceLT, Int.reduceToNat, reduceIte, reduceCtorEq, Int.reduceEq, Int.reduceLT, Int.reduceLE, ↓avp_condG, ↓tf_arrow, ↓ft_arrow, gl2, gb3, h0, spC, k_law10_begun_space_Turn.down, A_space_Turn, p_space_Turn, r_space_Turn]
  intro g4 hg4
  refine weak_at [(1, .t (sl gH)), (2, .imm (spC g1S)), (3, .imm (spC g2S)), (4, .imm (spC g3S))] .empty fewer_empty (by
    simp only [vP.down, vS.down, vE.down, Nat.reduceEqDiff, Nat.reduceAdd, Nat.reduceSub, Nat.reduceMul, Nat.reduceLeDiff, Nat.reduceLT, Int.reduceToNat, reduceIte, reduceCtorEq, Int.reduceEq, Int.reduceLT, Int.reduceLE, ↓avp_condG, ↓tf_arrow, ↓ft_arrow, wP.down, spC]
    exact w2_imm (l := spC g3S) (ro := false) (Store.set_same _ _ _) rfl) ?_
  simp only [vP.down, vS.down, vE.down, Nat.reduceEqDiff, Nat.reduceAdd, Nat.reduceSub, Nat.reduceMul, Nat.reduceLeDiff, Nat.reduceLT, Int.reduceToNat, reduceIte, reduceCtorEq, Int.reduceEq, Int.reduceLT, Int.reduceLE, ↓avp_condG, ↓tf_arrow, ↓ft_arrow, gl3, gb4, h0, spC, k_law10_begun_space_Turn.down, A_space_Turn, p_space_Turn, r_space_Turn]
  intro g5 hg5
  refine weak_at [(1, .t (sl gH)), (2, .imm (spC g1S)), (3, .imm (spC g2S)), (4, .imm (spC g3S)), (5, .imm (spC g0S))] .empty fewer_empty (by
    simp only [vP.down, vS.down, vE.down, Nat.reduceEqDiff, Nat.reduceAdd, Nat.reduceSub, Nat.reduceMul, Nat.reduceLeDiff, Nat.reduceLT, Int.reduceToNat, reduceIte, reduceCtorEq, Int.reduceEq, Int.reduceLT, Int.reduceLE, ↓avp_condG, ↓tf_arrow, ↓ft_arrow, wP.down, spC]
    exact w2_imm (l := spC g0S) (ro := false) (Store.set_same _ _ _) rfl) ?_
  simp only [vP.down, vS.down, vE.down, Nat.reduceEqDiff, Nat.reduceAdd, Nat.reduceSub, Nat.reduceMul, Nat.reduceLeDiff, Nat.reduceLT, Int.reduceToNat, reduceIte, reduceCtorEq, Int.reduceEq, Int.reduceLT, Int.reduceLE, ↓avp_condG, ↓tf_arrow, ↓ft_arrow, gl1, gb5, spC, k_law10_begun_space_Free.down, A_space_Free, p_space_Free, r_space_Free]
  refine weak_at [(1, .t (sl gH)), (2, .imm (spC g1S)), (3, .imm (spC g2S)), (4, .imm (spC g3S)), (5, .imm (spC g0S)), (6, .t (sl gF))] .empty fewer_refl (by simp only [vP.down, vS.down, vE.down, Nat.reduceEqDiff, Nat.reduceAdd, Nat.reduceSub, Nat.reduceMul, Nat.reduceLeDiff, Nat.reduceLT, Int.reduceToNat, reduceIte, reduceCtorEq, Int.reduceEq, Int.reduceLT, Int.reduceLE, ↓avp_condG, ↓tf_arrow, ↓ft_arrow, wP.down, spC]) ?_
  have x0 : idxB K_law10_begun 23 (.t (sl gF)) (.t (.int .i64 1)) = .val True (.imm [.int .i64 22, .int .i64 54]) := idx_at (l := gF) (i := 1) ty_Lapi_Run ty_api_Run rfl (by decide) .i64
  have e1 : decide (g1S.Held = gH) = true := by decide
  have e2 : decide (g2S.One = gH) = true := by decide
  have e3 : decide (g3S.Two = gH) = true := by decide
  have e4 : decide (g0S = ⟨[], [], [], []⟩) = true := by decide
  have e5 : gF.length = 2 := rfl
  have e6 : decide ((keepM g1S).Kept = gH) = true := by decide
  have e7 : (foldM (keepM g1S)).Kept.length = 0 := by rw [gb9]; rfl
  have l1 : g1S.Held.length < 4611686018427387904 := by decide
  have l2 : g2S.One.length < 4611686018427387904 := by decide
  have l3 : g3S.Two.length < 4611686018427387904 := by decide
  have l4 : (keepM g1S).Kept.length < 4611686018427387904 := by decide
  have l0 : lenS g0S := gl0
  simp only [vP.down, vS.down, vE.down, Nat.reduceEqDiff, Nat.reduceAdd, Nat.reduceSub, Nat.reduceMul, Nat.reduceLeDiff, Nat.reduceLT, Int.reduceToNat, reduceIte, reduceCtorEq, Int.reduceEq, Int.reduceLT, Int.reduceLE, ↓avp_condG, ↓tf_arrow, ↓ft_arrow, e1, e2, e3, e4, e5, e6, e7, x0, l0, l1, l2, l3, l4, glk, gb6, gb7, gl1, spC, pick_of, pick_ot, k_law10_begun_ref8_Same.down, A_ref8_Same, p_ref8_Same, r_ref8_Same, k_law10_begun_space_Same.down, A_space_Same, p_space_Same, r_space_Same, k_law10_begun_space_May.down, A_space_May, p_space_May, r_space_May, k_law10_begun_space_Keep.down, A_space_Keep, p_space_Keep, r_space_Keep, k_law10_begun_space_Fold.down, A_space_Fold, p_space_Fold, r_space_Fold]
  simp only [vP.down, vS.down, vE.down, Nat.reduceEqDiff, Nat.reduceAdd, Nat.reduceSub, Nat.reduceMul, Nat.reduceLeDiff, Nat.reduceLT, Int.reduceToNat, reduceIte, reduceCtorEq, Int.reduceEq, Int.reduceLT, Int.reduceLE, ↓avp_condG, ↓tf_arrow, ↓ft_arrow, vT.down]
  rfl
noncomputable def c_law10_begun : Con := fnScal A_law10_begun p_law10_begun r_law10_begun
theorem ok_law10_begun : COk Try.prog 10 c_law10_begun := fn_sok sys_law10_begun mixed Try.func10 (by kernel_rfl) geq_law10_begun Try.ntmps10 (by rw [Try.results10]) (fun x => by unfold r_law10_begun; simp [AV.scal]) fun x hx => ⟨Nat.le_of_ble_eq_true rfl, body_law10_begun x hx⟩
end Go.Proofs.Ytgdaibdfjhchbaa


namespace Go.Proofs.Ytgdaibdfjhchbaa
open Go Go.Eng
set_option maxRecDepth 100000
theorem madeM_eq {x y z w : List TRun} : (⟨x, whereL .less y x, whereL .less (whereL .less z x) (whereL .less y x), w⟩ : TSpace) = madeM x y z w := rfl
theorem spC_made {x y z w : List TRun} : spC (madeM x y z w) = [sl x, sl (whereL .less y x), sl (whereL .less (whereL .less z x) (whereL .less y x)), sl w] := rfl
theorem made_len {x y z w : List TRun} (hx : Sm 8 x) (hy : Sm 8 y) (hz : Sm 8 z) (hw : Sm 8 w) : lenS (madeM x y z w) := by
  have l1 := hx.len8
  have l2 := hy.len8
  have l3 := hz.len8
  have l4 := hw.len8
  have w1 := where_len .less y x
  have w2 := where_len .less z x
  have w3 := where_len .less (whereL .less z x) (whereL .less y x)
  have e1 : x.length ≤ 1000 := by omega
  have e2 : (whereL .less y x).length ≤ 1000 := by omega
  have e3 : (whereL .less (whereL .less z x) (whereL .less y x)).length ≤ 1000 := by omega
  have e4 : w.length ≤ 1000 := by omega
  exact ⟨e1, e2, e3, e4⟩
theorem free_len {n : Int} {s : TSpace} (h : lenS s) : (freeM n s).length ≤ 1000000 := by
  obtain ⟨l1, l2, l3, l4⟩ := h
  rw [freeM]
  split
  · have a1 := where_len .add s.Held s.One
    have a2 := where_len .add s.Two s.Kept
    have a3 := where_len .add (whereL .add s.Held s.One) (whereL .add s.Two s.Kept)
    have a4 := where_len .less [(⟨14, 14 + n⟩ : TRun)] (whereL .add (whereL .add s.Held s.One) (whereL .add s.Two s.Kept))
    have a5 : [(⟨14, 14 + n⟩ : TRun)].length = 1 := rfl
    omega
  · exact Nat.zero_le _
end Go.Proofs.Ytgdaibdfjhchbaa

