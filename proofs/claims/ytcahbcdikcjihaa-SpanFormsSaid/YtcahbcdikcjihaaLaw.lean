/-
  SpanForms.
-/
import Derived.Test.YtcahbcdikcjihaaFnsC
set_option linter.unusedSimpArgs false
set_option linter.unusedVariables false
namespace Go.Proofs.Ytcahbcdikcjihaa
open Go Go.Eng
def badR : List (List TRun) := [[⟨-1, 2⟩], [⟨2, 2⟩], [⟨3, 2⟩], [⟨0, 1073741825⟩], [⟨0, 2⟩, ⟨2, 3⟩], [⟨4, 5⟩, ⟨0, 1⟩], [⟨0, 5⟩, ⟨3, 9⟩]]
def of9 : List TRun := [⟨5, 6⟩, ⟨1073741823, 1073741824⟩]
theorem ff1 : ∀ i, i < 7 → mayR (-1) (badR.getD i default) = false ∧ (badR.getD i default).length ≤ 2 := by decide +kernel
theorem ff2 : ofL [-1, 1073741824, 1073741823, 5, 5] = of9 := by decide +kernel
theorem ff3 : ofL [] = [] := by decide +kernel
theorem ff4 : firstA [] (-1) = .tup [.t (sl ([] : List Int)), .t (.bool false)] := by rw [firstA, if_pos (by decide)]
theorem ff5 : firstA [] 0 = .tup [.t (sl ([] : List Int)), .t (.bool true)] := by rw [firstA, if_neg (by decide)]; rfl
theorem ff6 : firstA [⟨1, 3⟩] 3 = .tup [.t (sl ([] : List Int)), .t (.bool false)] := by rw [firstA, if_pos (by decide)]
theorem ff7 : mayR (-1) [] = true := rfl
theorem ff8 : mayR (-1) [⟨0, 1073741824⟩] = true := by decide +kernel
theorem ff9 : cntR [] = 0 := rfl
theorem ff10 {i : Int} : hasR [] i = false := rfl
def G_law8_SpanForms_9 : GCode := .seq (.seq .weak (.region [⟨(some 42), none, .call ⟨.value (.func 29), #[.const (.slice none 0 0), .const (.int .i64 (-1))], #[23, 3]⟩⟩, ⟨(some 41), none, .move (.tmp 42)⟩, ⟨(some 43), none, .extract (.tmp 41) 0⟩, ⟨(some 44), none, .extract (.tmp 41) 1⟩, ⟨(some 3), none, .assign (.tmp 43)⟩, ⟨(some 4), none, .assign (.tmp 44)⟩])) (.seq (.seq .weak (.region [⟨(some 46), none, .call ⟨.value (.func 29), #[.const (.slice none 0 0), .const (.int .i64 0)], #[23, 3]⟩⟩, ⟨(some 45), none, .move (.tmp 46)⟩, ⟨(some 47), none, .extract (.tmp 45) 0⟩, ⟨(some 48), none, .extract (.tmp 45) 1⟩, ⟨(some 5), none, .assign (.tmp 47)⟩, ⟨(some 6), none, .assign (.tmp 48)⟩])) (.seq (.seq .weak (.region [⟨(some 50), none, .build 31 #[(0, .const (.int .i64 1)), (1, .const (.int .i64 3))]⟩, ⟨(some 51), none, .buildSlice 23 1 #[(0, .tmp 50)]⟩, ⟨(some 52), none, .call ⟨.value (.func 29), #[.tmp 51, .const (.int .i64 3)], #[23, 3]⟩⟩, ⟨(some 49), none, .move (.tmp 52)⟩, ⟨(some 53), none, .extract (.tmp 49) 0⟩, ⟨(some 54), none, .extract (.tmp 49) 1⟩, ⟨(some 7), none, .assign (.tmp 53)⟩, ⟨(some 8), none, .assign (.tmp 54)⟩])) (.seq (.seq .weak (.region [⟨(some 55), none, .buildSlice 24 5 #[(0, .const (.int .i64 (-1))), (1, .const (.int .i64 1073741824)), (2, .const (.int .i64 1073741823)), (3, .const (.int .i64 5)), (4, .const (.int .i64 5))]⟩, ⟨(some 56), none, .call ⟨.value (.func 27), #[.tmp 55], #[24]⟩⟩, ⟨(some 9), none, .assign (.tmp 56)⟩])) (.seq (.seq (.seq .weak (.region [⟨(some 57), none, .move (.tmp 9)⟩, ⟨(some 58), none, .call ⟨.builtin .len, #[.tmp 57], #[23]⟩⟩, ⟨(some 59), none, .binOp .neq 3 (.tmp 58) (.const (.int .i64 2)) 3⟩])) (.cond (.tmp 59) (.seq (.region [⟨(some 0), none, .assign (.const (.bool false))⟩]) (.ret)) (.skip))) (.seq (.seq .weak (.region [⟨(some 60), none, .call ⟨.value (.func 13), #[.const (.slice none 0 0)], #[23]⟩⟩, ⟨(some 61), none, .move (.tmp 60)⟩, ⟨(some 62), (some (61, true)), .build 31 #[(0, .const (.int .i64 0)), (1, .const (.int .i64 1073741824))]⟩, ⟨(some 63), (some (61, true)), .buildSlice 23 1 #[(0, .tmp 62)]⟩, ⟨(some 64), (some (61, true)), .call ⟨.value (.func 13), #[.tmp 63], #[23]⟩⟩, ⟨(some 65), none, .pick (.tmp 61) (.tmp 64) (.const (.bool false))⟩, ⟨(some 66), none, .move (.tmp 65)⟩, ⟨(some 67), (some (66, true)), .move (.tmp 4)⟩, ⟨(some 68), (some (66, true)), .unOp .not 4 (.tmp 67)⟩, ⟨(some 69), none, .pick (.tmp 66) (.tmp 68) (.const (.bool false))⟩, ⟨(some 70), none, .move (.tmp 69)⟩, ⟨(some 71), (some (70, true)), .move (.tmp 6)⟩, ⟨(some 72), none, .pick (.tmp 70) (.tmp 71) (.const (.bool false))⟩, ⟨(some 73), none, .move (.tmp 72)⟩, ⟨(some 74), (some (73, true)), .move (.tmp 5)⟩, ⟨(some 75), (some (73, true)), .call ⟨.builtin .len, #[.tmp 74], #[24]⟩⟩, ⟨(some 76), (some (73, true)), .binOp .eql 3 (.tmp 75) (.const (.int .i64 0)) 3⟩, ⟨(some 77), none, .pick (.tmp 73) (.tmp 76) (.const (.bool false))⟩, ⟨(some 78), none, .move (.tmp 77)⟩, ⟨(some 79), (some (78, true)), .move (.tmp 8)⟩, ⟨(some 80), (some (78, true)), .unOp .not 4 (.tmp 79)⟩, ⟨(some 81), none, .pick (.tmp 78) (.tmp 80) (.const (.bool false))⟩, ⟨(some 82), none, .move (.tmp 81)⟩, ⟨(some 83), (some (82, true)), .move (.tmp 9)⟩, ⟨(some 84), (some (82, true)), .indexAddr 23 (.tmp 83) (.const (.int .i64 0))⟩, ⟨(some 85), (some (82, true)), .load 31 (.tmp 84)⟩, ⟨(some 86), (some (82, true)), .build 31 #[(0, .const (.int .i64 5)), (1, .const (.int .i64 6))]⟩, ⟨(some 87), (some (82, true)), .binOp .eql 31 (.tmp 85) (.tmp 86) 31⟩, ⟨(some 88), none, .pick (.tmp 82) (.tmp 87) (.const (.bool false))⟩, ⟨(some 89), none, .move (.tmp 88)⟩, ⟨(some 90), (some (89, true)), .move (.tmp 9)⟩, ⟨(some 91), (some (89, true)), .indexAddr 23 (.tmp 90) (.const (.int .i64 1))⟩, ⟨(some 92), (some (89, true)), .load 31 (.tmp 91)⟩, ⟨(some 93), (some (89, true)), .build 31 #[(0, .const (.int .i64 1073741823)), (1, .const (.int .i64 1073741824))]⟩, ⟨(some 94), (some (89, true)), .binOp .eql 31 (.tmp 92) (.tmp 93) 31⟩, ⟨(some 95), none, .pick (.tmp 89) (.tmp 94) (.const (.bool false))⟩, ⟨(some 96), none, .move (.tmp 95)⟩, ⟨(some 97), (some (96, true)), .call ⟨.value (.func 27), #[.const (.slice none 0 0)], #[24]⟩⟩, ⟨(some 98), (some (96, true)), .call ⟨.builtin .len, #[.tmp 97], #[23]⟩⟩, ⟨(some 99), (some (96, true)), .binOp .eql 3 (.tmp 98) (.const (.int .i64 0)) 3⟩, ⟨(some 100), none, .pick (.tmp 96) (.tmp 99) (.const (.bool false))⟩, ⟨(some 101), none, .move (.tmp 100)⟩, ⟨(some 102), (some (101, true)), .buildSlice 23 0 #[]⟩, ⟨(some 103), (some (101, true)), .call ⟨.value (.func 15), #[.const (.slice none 0 0), .tmp 102], #[23, 23]⟩⟩, ⟨(some 104), none, .pick (.tmp 101) (.tmp 103) (.const (.bool false))⟩, ⟨(some 105), none, .move (.tmp 104)⟩, ⟨(some 106), (some (105, true)), .call ⟨.value (.func 22), #[.const (.slice none 0 0)], #[23]⟩⟩, ⟨(some 107), (some (105, true)), .binOp .eql 3 (.tmp 106) (.const (.int .i64 0)) 3⟩, ⟨(some 108), none, .pick (.tmp 105) (.tmp 107) (.const (.bool false))⟩, ⟨(some 109), none, .move (.tmp 108)⟩, ⟨(some 110), (some (109, true)), .call ⟨.value (.func 25), #[.const (.slice none 0 0), .const (.int .i64 0)], #[23, 3]⟩⟩, ⟨(some 111), (some (109, true)), .unOp .not 4 (.tmp 110)⟩, ⟨(some 112), none, .pick (.tmp 109) (.tmp 111) (.const (.bool false))⟩, ⟨(some 0), none, .assign (.tmp 112)⟩])) (.ret))))))
def G_law8_SpanForms : GCode := .seq (.region [⟨(some 0), none, .assign (.const (.bool false))⟩]) (.seq (.seq (.region [⟨(some 10), none, .call ⟨.value (.func 10), #[], #[]⟩⟩, ⟨(some 11), none, .unOp .not 4 (.tmp 10)⟩]) (.cond (.tmp 11) (.seq (.region [⟨(some 0), none, .assign (.const (.bool false))⟩]) (.ret)) (.skip))) (.seq (.region [⟨(some 12), none, .build 31 #[(0, .const (.int .i64 (-1))), (1, .const (.int .i64 2))]⟩, ⟨(some 13), none, .buildSlice 23 1 #[(0, .tmp 12)]⟩, ⟨(some 14), none, .build 31 #[(0, .const (.int .i64 2)), (1, .const (.int .i64 2))]⟩, ⟨(some 15), none, .buildSlice 23 1 #[(0, .tmp 14)]⟩, ⟨(some 16), none, .build 31 #[(0, .const (.int .i64 3)), (1, .const (.int .i64 2))]⟩, ⟨(some 17), none, .buildSlice 23 1 #[(0, .tmp 16)]⟩, ⟨(some 18), none, .build 31 #[(0, .const (.int .i64 0)), (1, .const (.int .i64 1073741825))]⟩, ⟨(some 19), none, .buildSlice 23 1 #[(0, .tmp 18)]⟩, ⟨(some 20), none, .build 31 #[(0, .const (.int .i64 0)), (1, .const (.int .i64 2))]⟩, ⟨(some 21), none, .build 31 #[(0, .const (.int .i64 2)), (1, .const (.int .i64 3))]⟩, ⟨(some 22), none, .buildSlice 23 2 #[(0, .tmp 20), (1, .tmp 21)]⟩, ⟨(some 23), none, .build 31 #[(0, .const (.int .i64 4)), (1, .const (.int .i64 5))]⟩, ⟨(some 24), none, .build 31 #[(0, .const (.int .i64 0)), (1, .const (.int .i64 1))]⟩, ⟨(some 25), none, .buildSlice 23 2 #[(0, .tmp 23), (1, .tmp 24)]⟩, ⟨(some 26), none, .build 31 #[(0, .const (.int .i64 0)), (1, .const (.int .i64 5))]⟩, ⟨(some 27), none, .build 31 #[(0, .const (.int .i64 3)), (1, .const (.int .i64 9))]⟩, ⟨(some 28), none, .buildSlice 23 2 #[(0, .tmp 26), (1, .tmp 27)]⟩, ⟨(some 29), none, .buildSlice 48 7 #[(0, .tmp 13), (1, .tmp 15), (2, .tmp 17), (3, .tmp 19), (4, .tmp 22), (5, .tmp 25), (6, .tmp 28)]⟩, ⟨(some 1), none, .assign (.tmp 29)⟩]) (.seq (.seq (.region [⟨(some 2), none, .assign (.const (.int .i64 0))⟩]) (.block 0 (.loop (.seq .weak (.seq (.seq (.region [⟨(some 30), none, .move (.tmp 2)⟩, ⟨(some 31), none, .move (.tmp 1)⟩, ⟨(some 32), none, .call ⟨.builtin .len, #[.tmp 31], #[48]⟩⟩, ⟨(some 33), none, .binOp .lss 3 (.tmp 30) (.tmp 32) 3⟩]) (.cond (.tmp 33) (.skip) (.exit 0))) (.seq (.block 1 (.seq (.region [⟨(some 36), none, .move (.tmp 1)⟩, ⟨(some 37), none, .move (.tmp 2)⟩, ⟨(some 38), none, .indexAddr 48 (.tmp 36) (.tmp 37)⟩, ⟨(some 39), none, .load 23 (.tmp 38)⟩, ⟨(some 40), none, .call ⟨.value (.func 13), #[.tmp 39], #[23]⟩⟩]) (.cond (.tmp 40) (.seq (.region [⟨(some 0), none, .assign (.const (.bool false))⟩]) (.ret)) (.skip)))) (.region [⟨(some 34), none, .move (.tmp 2)⟩, ⟨(some 35), none, .binOp .add 3 (.tmp 34) (.const (.int .i64 1)) 3⟩, ⟨(some 2), none, .assign (.tmp 35)⟩]))))))) (G_law8_SpanForms_9))))
noncomputable def l_law8_SpanForms : List (Nat × Con) := [(10, c_law8_begun), (13, c_span_May), (29, c_span_First), (27, c_span_Of), (15, c_span_Same), (22, c_span_Count), (25, c_span_Has)]
noncomputable abbrev K_law8_SpanForms : Ctx := ctx (cl l_law8_SpanForms)
theorem geq_law8_SpanForms : gof K_law8_SpanForms Try.f9 = some G_law8_SpanForms.strip := by kernel_rfl
theorem sys_law8_SpanForms : Go.Eng.Sys Try.prog K_law8_SpanForms := sys_of' ⟨ok_law8_begun, ok_span_May, ok_span_First, ok_span_Of, ok_span_Same, ok_span_Count, ok_span_Has, trivial⟩
theorem hm_law8_SpanForms : ConMono K_law8_SpanForms := conMono_of sys_law8_SpanForms.con
noncomputable def k_law8_SpanForms_law8_begun := PLift.up (call_scal (C := K_law8_SpanForms) (f := 10) (A := A_law8_begun) (p := p_law8_begun) (r := r_law8_begun) rfl)
noncomputable def k_law8_SpanForms_span_May := PLift.up (call_scal (C := K_law8_SpanForms) (f := 13) (A := A_span_May) (p := p_span_May) (r := r_span_May) rfl)
noncomputable def k_law8_SpanForms_span_First := PLift.up (call_fn (C := K_law8_SpanForms) (f := 29) (A := A_span_First) (p := p_span_First) (r := r_span_First) rfl)
noncomputable def k_law8_SpanForms_span_Of := PLift.up (call_fn (C := K_law8_SpanForms) (f := 27) (A := A_span_Of) (p := p_span_Of) (r := r_span_Of) rfl)
noncomputable def k_law8_SpanForms_span_Same := PLift.up (call_scal (C := K_law8_SpanForms) (f := 15) (A := A_span_Same) (p := p_span_Same) (r := r_span_Same) rfl)
noncomputable def k_law8_SpanForms_span_Count := PLift.up (call_scal (C := K_law8_SpanForms) (f := 22) (A := A_span_Count) (p := p_span_Count) (r := r_span_Count) rfl)
noncomputable def k_law8_SpanForms_span_Has := PLift.up (call_scal (C := K_law8_SpanForms) (f := 25) (A := A_span_Has) (p := p_span_Has) (r := r_span_Has) rfl)
noncomputable def A_law8_SpanForms : Arms (Unit) := Arms.nil
def p_law8_SpanForms (x : Unit) : Prop := goodAny (x)
abbrev r_law8_SpanForms (x : Unit) : AV := rTrue x
theorem rd_law8_SpanForms : ReadsA Try.prog [] A_law8_SpanForms p_law8_SpanForms := readsA_nil
set_option maxRecDepth 100000 in
set_option maxHeartbeats 4000000 in
theorem forms_9 {σ : St} (hσ : Wk σ (mkS [] .empty)) : avp K_law8_SpanForms G_law8_SpanForms_9 (Ret K_law8_SpanForms [.tmp 0] fun v _ => v = .t (.bool true)) σ := by
  unfold G_law8_SpanForms_9
  simp only [avp_seq]
  refine ⟨_, hσ, ?_⟩
  have hdn : (argT (List TRun)).dec (.t .nilS) = some [] := rfl
  have hdi : (argT (List Int)).dec (.t .nilS) = some [] := rfl
  have o0 : okB [] := fun _ h => by cases h
  have d1 : (argT (List TRun)).dec (.t (.seq 2 [[.int .i64 1, .int .i64 3]])) = some [⟨1, 3⟩] := argT_sl (l := [(⟨1, 3⟩ : TRun)])
  have o1 : okB [⟨1, 3⟩] := fun r hr => by rw [List.mem_singleton.1 hr]; decide
  simp only [vP.down, vS.down, vE.down, Nat.reduceEqDiff, Nat.reduceAdd, Nat.reduceSub, Nat.reduceMul, Nat.reduceLeDiff, Nat.reduceLT, Int.reduceToNat, reduceIte, reduceCtorEq, Int.reduceEq, Int.reduceLT, Int.reduceLE, ↓avp_condG, ↓tf_arrow, ↓ft_arrow, hdn, o0, ff4, k_law8_SpanForms_span_First.down, A_span_First, p_span_First, r_span_First]
  ((repeat' with_reducible refine And.intro ?_ ?_) <;> try (first | omega | (simp only [List.length_take, List.length_drop, List.length_append, List.length_map, List.length_replicate] <;> omega)))
  refine weak_at [(4, .t (.bool false))] .empty fewer_refl (by simp only [vP.down, vS.down, vE.down, Nat.reduceEqDiff, Nat.reduceAdd, Nat.reduceSub, Nat.reduceMul, Nat.reduceLeDiff, Nat.reduceLT, Int.reduceToNat, reduceIte, reduceCtorEq, Int.reduceEq, Int.reduceLT, Int.reduceLE, ↓avp_condG, ↓tf_arrow, ↓ft_arrow, wP.down]) ?_
  simp only [vP.down, vS.down, vE.down, Nat.reduceEqDiff, Nat.reduceAdd, Nat.reduceSub, Nat.reduceMul, Nat.reduceLeDiff, Nat.reduceLT, Int.reduceToNat, reduceIte, reduceCtorEq, Int.reduceEq, Int.reduceLT, Int.reduceLE, ↓avp_condG, ↓tf_arrow, ↓ft_arrow, hdn, o0, ff5, k_law8_SpanForms_span_First.down, A_span_First, p_span_First, r_span_First]
  ((repeat' with_reducible refine And.intro ?_ ?_) <;> try (first | omega | (simp only [List.length_take, List.length_drop, List.length_append, List.length_map, List.length_replicate] <;> omega)))
  refine weak_at [(4, .t (.bool false)), (5, .t (sl ([] : List Int))), (6, .t (.bool true))] .empty fewer_refl (by simp only [vP.down, vS.down, vE.down, Nat.reduceEqDiff, Nat.reduceAdd, Nat.reduceSub, Nat.reduceMul, Nat.reduceLeDiff, Nat.reduceLT, Int.reduceToNat, reduceIte, reduceCtorEq, Int.reduceEq, Int.reduceLT, Int.reduceLE, ↓avp_condG, ↓tf_arrow, ↓ft_arrow, wP.down]) ?_
  simp only [vP.down, vS.down, vE.down, Nat.reduceEqDiff, Nat.reduceAdd, Nat.reduceSub, Nat.reduceMul, Nat.reduceLeDiff, Nat.reduceLT, Int.reduceToNat, reduceIte, reduceCtorEq, Int.reduceEq, Int.reduceLT, Int.reduceLE, ↓avp_condG, ↓tf_arrow, ↓ft_arrow, d1, o1, ff6, k_law8_SpanForms_span_First.down, A_span_First, p_span_First, r_span_First]
  intro g1 hg1
  ((repeat' with_reducible refine And.intro ?_ ?_) <;> try (first | omega | (simp only [List.length_take, List.length_drop, List.length_append, List.length_map, List.length_replicate] <;> omega)))
  refine weak_at [(4, .t (.bool false)), (5, .t (sl ([] : List Int))), (6, .t (.bool true)), (8, .t (.bool false))] .empty fewer_empty (by simp only [vP.down, vS.down, vE.down, Nat.reduceEqDiff, Nat.reduceAdd, Nat.reduceSub, Nat.reduceMul, Nat.reduceLeDiff, Nat.reduceLT, Int.reduceToNat, reduceIte, reduceCtorEq, Int.reduceEq, Int.reduceLT, Int.reduceLE, ↓avp_condG, ↓tf_arrow, ↓ft_arrow, wP.down]) ?_
  have d2 : (argT (List Int)).dec (.t (.seq 1 [[.int .i64 (-1)], [.int .i64 1073741824], [.int .i64 1073741823], [.int .i64 5], [.int .i64 5]])) = some [-1, 1073741824, 1073741823, 5, 5] := argT_sl (l := [-1, 1073741824, 1073741823, 5, 5])
  simp only [vP.down, vS.down, vE.down, Nat.reduceEqDiff, Nat.reduceAdd, Nat.reduceSub, Nat.reduceMul, Nat.reduceLeDiff, Nat.reduceLT, Int.reduceToNat, reduceIte, reduceCtorEq, Int.reduceEq, Int.reduceLT, Int.reduceLE, ↓avp_condG, ↓tf_arrow, ↓ft_arrow, d2, ff2, k_law8_SpanForms_span_Of.down, A_span_Of, p_span_Of, r_span_Of]
  intro g2 hg2
  refine weak_at [(4, .t (.bool false)), (5, .t (sl ([] : List Int))), (6, .t (.bool true)), (8, .t (.bool false)), (9, .t (sl of9))] .empty fewer_empty (by simp only [vP.down, vS.down, vE.down, Nat.reduceEqDiff, Nat.reduceAdd, Nat.reduceSub, Nat.reduceMul, Nat.reduceLeDiff, Nat.reduceLT, Int.reduceToNat, reduceIte, reduceCtorEq, Int.reduceEq, Int.reduceLT, Int.reduceLE, ↓avp_condG, ↓tf_arrow, ↓ft_arrow, wP.down]) ?_
  have l9 : of9.length = 2 := rfl
  have x0 : idxB K_law8_SpanForms 23 (.t (sl of9)) (.t (.int .i64 0)) = .val True (.imm [.int .i64 5, .int .i64 6]) := idx_at (l := of9) (i := 0) ty_Lapi_Run ty_api_Run rfl (by decide) .i64
  have x1 : idxB K_law8_SpanForms 23 (.t (sl of9)) (.t (.int .i64 1)) = .val True (.imm [.int .i64 1073741823, .int .i64 1073741824]) := idx_at (l := of9) (i := 1) ty_Lapi_Run ty_api_Run rfl (by decide) .i64
  have d3 : (argT (List TRun)).dec (.t (.seq 2 [[.int .i64 0, .int .i64 1073741824]])) = some [⟨0, 1073741824⟩] := argT_sl (l := [(⟨0, 1073741824⟩ : TRun)])
  have d4 : (argT (List TRun)).dec (.t (.seq 2 [])) = some [] := rfl
  simp only [vP.down, vS.down, vE.down, Nat.reduceEqDiff, Nat.reduceAdd, Nat.reduceSub, Nat.reduceMul, Nat.reduceLeDiff, Nat.reduceLT, Int.reduceToNat, reduceIte, reduceCtorEq, Int.reduceEq, Int.reduceLT, Int.reduceLE, ↓avp_condG, ↓tf_arrow, ↓ft_arrow, l9]
  refine weak_at [(4, .t (.bool false)), (5, .t (sl ([] : List Int))), (6, .t (.bool true)), (8, .t (.bool false)), (9, .t (sl of9))] .empty fewer_refl (by simp only [vP.down, vS.down, vE.down, Nat.reduceEqDiff, Nat.reduceAdd, Nat.reduceSub, Nat.reduceMul, Nat.reduceLeDiff, Nat.reduceLT, Int.reduceToNat, reduceIte, reduceCtorEq, Int.reduceEq, Int.reduceLT, Int.reduceLE, ↓avp_condG, ↓tf_arrow, ↓ft_arrow, wP.down]) ?_
  simp only [vP.down, vS.down, vE.down, Nat.reduceEqDiff, Nat.reduceAdd, Nat.reduceSub, Nat.reduceMul, Nat.reduceLeDiff, Nat.reduceLT, Int.reduceToNat, reduceIte, reduceCtorEq, Int.reduceEq, Int.reduceLT, Int.reduceLE, ↓avp_condG, ↓tf_arrow, ↓ft_arrow, l9, x0, x1, d3, d4, hdn, hdi, o0, ff3, ff7, ff8, ff9, ff10, pick_ot, k_law8_SpanForms_span_May.down, A_span_May, p_span_May, r_span_May, k_law8_SpanForms_span_Of.down, A_span_Of, p_span_Of, r_span_Of, k_law8_SpanForms_span_Same.down, A_span_Same, p_span_Same, r_span_Same, k_law8_SpanForms_span_Count.down, A_span_Count, p_span_Count, r_span_Count, k_law8_SpanForms_span_Has.down, A_span_Has, p_span_Has, r_span_Has]
  ((repeat' with_reducible refine And.intro ?_ ?_) <;> try (first | omega | (simp only [List.length_take, List.length_drop, List.length_append, List.length_map, List.length_replicate] <;> omega)))
  simp only [vP.down, vS.down, vE.down, Nat.reduceEqDiff, Nat.reduceAdd, Nat.reduceSub, Nat.reduceMul, Nat.reduceLeDiff, Nat.reduceLT, Int.reduceToNat, reduceIte, reduceCtorEq, Int.reduceEq, Int.reduceLT, Int.reduceLE, ↓avp_condG, ↓tf_arrow, ↓ft_arrow, vT.down]
set_option maxRecDepth 100000 in
set_option maxHeartbeats 4000000 in
theorem body_law8_SpanForms (x) (hx : p_law8_SpanForms x) : avp K_law8_SpanForms G_law8_SpanForms (Ret K_law8_SpanForms [.tmp 0] fun v _ => v = r_law8_SpanForms x) (entry (A_law8_SpanForms.enc x) .empty) := by
  change avp _ _ (Ret _ _ fun v _ => v = .t (.bool true)) (entry [] .empty)
  unfold G_law8_SpanForms
  simp only [vP.down, vS.down, vE.down, Nat.reduceEqDiff, Nat.reduceAdd, Nat.reduceSub, Nat.reduceMul, Nat.reduceLeDiff, Nat.reduceLT, Int.reduceToNat, reduceIte, reduceCtorEq, Int.reduceEq, Int.reduceLT, Int.reduceLE, ↓avp_condG, ↓tf_arrow, ↓ft_arrow, k_law8_SpanForms_law8_begun.down, A_law8_begun, p_law8_begun, r_law8_begun]
  intro g1 hg1 g2 hg2 g3 hg3 g4 hg4 g5 hg5 g6 hg6 g7 hg7
  have hb : ∀ (S : Store) (g n : Nat) (rows : List (List TV)), n = rows.length → S.f g = some (.row 2 rows false) → S.borrow1 (.tok g 2 0 n) = some (.seq 2 rows, [g]) := fun S g n rows hn h => by
    subst hn
    simp only [Store.borrow1, h]
    rw [if_pos ⟨trivial, by omega⟩, List.drop_zero, List.take_length]
  obtain ⟨S1, hS1⟩ : ∃ S, S = (Store.empty).set g1 (some (.row 2 [[.int .i64 (-1), .int .i64 2]] false)) := ⟨_, rfl⟩
  obtain ⟨S2, hS2⟩ : ∃ S, S = (S1).set g2 (some (.row 2 [[.int .i64 2, .int .i64 2]] false)) := ⟨_, rfl⟩
  obtain ⟨S3, hS3⟩ : ∃ S, S = (S2).set g3 (some (.row 2 [[.int .i64 3, .int .i64 2]] false)) := ⟨_, rfl⟩
  obtain ⟨S4, hS4⟩ : ∃ S, S = (S3).set g4 (some (.row 2 [[.int .i64 0, .int .i64 1073741825]] false)) := ⟨_, rfl⟩
  obtain ⟨S5, hS5⟩ : ∃ S, S = (S4).set g5 (some (.row 2 [[.int .i64 0, .int .i64 2], [.int .i64 2, .int .i64 3]] false)) := ⟨_, rfl⟩
  obtain ⟨S6, hS6⟩ : ∃ S, S = (S5).set g6 (some (.row 2 [[.int .i64 4, .int .i64 5], [.int .i64 0, .int .i64 1]] false)) := ⟨_, rfl⟩
  obtain ⟨S7, hS7⟩ : ∃ S, S = (S6).set g7 (some (.row 2 [[.int .i64 0, .int .i64 5], [.int .i64 3, .int .i64 9]] false)) := ⟨_, rfl⟩
  have q7 : S7 = ((((((Store.empty.set g1 (some (.row 2 [[.int .i64 (-1), .int .i64 2]] false))).set g2 (some (.row 2 [[.int .i64 2, .int .i64 2]] false))).set g3 (some (.row 2 [[.int .i64 3, .int .i64 2]] false))).set g4 (some (.row 2 [[.int .i64 0, .int .i64 1073741825]] false))).set g5 (some (.row 2 [[.int .i64 0, .int .i64 2], [.int .i64 2, .int .i64 3]] false))).set g6 (some (.row 2 [[.int .i64 4, .int .i64 5], [.int .i64 0, .int .i64 1]] false))).set g7 (some (.row 2 [[.int .i64 0, .int .i64 5], [.int .i64 3, .int .i64 9]] false)) := by rw [hS7, hS6, hS5, hS4, hS3, hS2, hS1]
  rw [← q7]
  rw [← hS1] at hg2
  rw [← hS1, ← hS2] at hg3
  rw [← hS1, ← hS2, ← hS3] at hg4
  rw [← hS1, ← hS2, ← hS3, ← hS4] at hg5
  rw [← hS1, ← hS2, ← hS3, ← hS4, ← hS5] at hg6
  rw [← hS1, ← hS2, ← hS3, ← hS4, ← hS5, ← hS6] at hg7
  have f11 : S1.f g1 = some (.row 2 [[.int .i64 (-1), .int .i64 2]] false) := by rw [hS1]; exact Store.set_same _ _ _
  have f12 : S2.f g1 = some (.row 2 [[.int .i64 (-1), .int .i64 2]] false) := by rw [hS2, Store.set_other _ _ (ne_of f11 hg2)]; exact f11
  have f13 : S3.f g1 = some (.row 2 [[.int .i64 (-1), .int .i64 2]] false) := by rw [hS3, Store.set_other _ _ (ne_of f12 hg3)]; exact f12
  have f14 : S4.f g1 = some (.row 2 [[.int .i64 (-1), .int .i64 2]] false) := by rw [hS4, Store.set_other _ _ (ne_of f13 hg4)]; exact f13
  have f15 : S5.f g1 = some (.row 2 [[.int .i64 (-1), .int .i64 2]] false) := by rw [hS5, Store.set_other _ _ (ne_of f14 hg5)]; exact f14
  have f16 : S6.f g1 = some (.row 2 [[.int .i64 (-1), .int .i64 2]] false) := by rw [hS6, Store.set_other _ _ (ne_of f15 hg6)]; exact f15
  have f17 : S7.f g1 = some (.row 2 [[.int .i64 (-1), .int .i64 2]] false) := by rw [hS7, Store.set_other _ _ (ne_of f16 hg7)]; exact f16
  have f22 : S2.f g2 = some (.row 2 [[.int .i64 2, .int .i64 2]] false) := by rw [hS2]; exact Store.set_same _ _ _
  have f23 : S3.f g2 = some (.row 2 [[.int .i64 2, .int .i64 2]] false) := by rw [hS3, Store.set_other _ _ (ne_of f22 hg3)]; exact f22
  have f24 : S4.f g2 = some (.row 2 [[.int .i64 2, .int .i64 2]] false) := by rw [hS4, Store.set_other _ _ (ne_of f23 hg4)]; exact f23
  have f25 : S5.f g2 = some (.row 2 [[.int .i64 2, .int .i64 2]] false) := by rw [hS5, Store.set_other _ _ (ne_of f24 hg5)]; exact f24
  have f26 : S6.f g2 = some (.row 2 [[.int .i64 2, .int .i64 2]] false) := by rw [hS6, Store.set_other _ _ (ne_of f25 hg6)]; exact f25
  have f27 : S7.f g2 = some (.row 2 [[.int .i64 2, .int .i64 2]] false) := by rw [hS7, Store.set_other _ _ (ne_of f26 hg7)]; exact f26
  have f33 : S3.f g3 = some (.row 2 [[.int .i64 3, .int .i64 2]] false) := by rw [hS3]; exact Store.set_same _ _ _
  have f34 : S4.f g3 = some (.row 2 [[.int .i64 3, .int .i64 2]] false) := by rw [hS4, Store.set_other _ _ (ne_of f33 hg4)]; exact f33
  have f35 : S5.f g3 = some (.row 2 [[.int .i64 3, .int .i64 2]] false) := by rw [hS5, Store.set_other _ _ (ne_of f34 hg5)]; exact f34
  have f36 : S6.f g3 = some (.row 2 [[.int .i64 3, .int .i64 2]] false) := by rw [hS6, Store.set_other _ _ (ne_of f35 hg6)]; exact f35
  have f37 : S7.f g3 = some (.row 2 [[.int .i64 3, .int .i64 2]] false) := by rw [hS7, Store.set_other _ _ (ne_of f36 hg7)]; exact f36
  have f44 : S4.f g4 = some (.row 2 [[.int .i64 0, .int .i64 1073741825]] false) := by rw [hS4]; exact Store.set_same _ _ _
  have f45 : S5.f g4 = some (.row 2 [[.int .i64 0, .int .i64 1073741825]] false) := by rw [hS5, Store.set_other _ _ (ne_of f44 hg5)]; exact f44
  have f46 : S6.f g4 = some (.row 2 [[.int .i64 0, .int .i64 1073741825]] false) := by rw [hS6, Store.set_other _ _ (ne_of f45 hg6)]; exact f45
  have f47 : S7.f g4 = some (.row 2 [[.int .i64 0, .int .i64 1073741825]] false) := by rw [hS7, Store.set_other _ _ (ne_of f46 hg7)]; exact f46
  have f55 : S5.f g5 = some (.row 2 [[.int .i64 0, .int .i64 2], [.int .i64 2, .int .i64 3]] false) := by rw [hS5]; exact Store.set_same _ _ _
  have f56 : S6.f g5 = some (.row 2 [[.int .i64 0, .int .i64 2], [.int .i64 2, .int .i64 3]] false) := by rw [hS6, Store.set_other _ _ (ne_of f55 hg6)]; exact f55
  have f57 : S7.f g5 = some (.row 2 [[.int .i64 0, .int .i64 2], [.int .i64 2, .int .i64 3]] false) := by rw [hS7, Store.set_other _ _ (ne_of f56 hg7)]; exact f56
  have f66 : S6.f g6 = some (.row 2 [[.int .i64 4, .int .i64 5], [.int .i64 0, .int .i64 1]] false) := by rw [hS6]; exact Store.set_same _ _ _
  have f67 : S7.f g6 = some (.row 2 [[.int .i64 4, .int .i64 5], [.int .i64 0, .int .i64 1]] false) := by rw [hS7, Store.set_other _ _ (ne_of f66 hg7)]; exact f66
  have f77 : S7.f g7 = some (.row 2 [[.int .i64 0, .int .i64 5], [.int .i64 3, .int .i64 9]] false) := by rw [hS7]; exact Store.set_same _ _ _
  simp only [vP.down, vS.down, vE.down, Nat.reduceEqDiff, Nat.reduceAdd, Nat.reduceSub, Nat.reduceMul, Nat.reduceLeDiff, Nat.reduceLT, Int.reduceToNat, reduceIte, reduceCtorEq, Int.reduceEq, Int.reduceLT, Int.reduceLE, ↓avp_condG, ↓tf_arrow, ↓ft_arrow, hb S7 g1 1 _ rfl f17, hb S7 g2 1 _ rfl f27, hb S7 g3 1 _ rfl f37, hb S7 g4 1 _ rfl f47, hb S7 g5 2 _ rfl f57, hb S7 g6 2 _ rfl f67, hb S7 g7 2 _ rfl f77]
  intro g8 hg8
  refine loop_weak hm_law8_SpanForms (fun k σ => ∃ i : Nat, k = 7 - i ∧ i ≤ 7 ∧ σ = mkS [(1, .t (sl badR)), (2, .t (.int .i64 (i : Nat)))] .empty) ⟨0, rfl, by omega, rfl⟩ (wk_to fewer_empty (by
    simp only [vP.down, vS.down, vE.down, Nat.reduceEqDiff, Nat.reduceAdd, Nat.reduceSub, Nat.reduceMul, Nat.reduceLeDiff, Nat.reduceLT, Int.reduceToNat, reduceIte, reduceCtorEq, Int.reduceEq, Int.reduceLT, Int.reduceLE, ↓avp_condG, ↓tf_arrow, ↓ft_arrow, wP.down, Int.natCast_zero]
    exact (lv_at (α := List TRun) (l := badR) (ro := false) rfl (Store.set_same _ _ _)).w2 fun _ _ => rfl)) ?_
  rintro k _ ⟨i, rfl, hi, rfl⟩
  have hi1 : IntKind.i64.wrap ((i : Int) + 1) = ((i + 1 : Nat) : Int) := by rw [IntWalk.i64_in _ (by omega)]; rfl
  have lb : badR.length = 7 := rfl
  by_cases hlt : i < 7
  case neg =>
    obtain rfl : i = 7 := by omega
    have hge : ¬ (((7 : Nat) : Int) < ((7 : Nat) : Int)) := by omega
    simp only [vP.down, vS.down, vE.down, Nat.reduceEqDiff, Nat.reduceAdd, Nat.reduceSub, Nat.reduceMul, Nat.reduceLeDiff, Nat.reduceLT, Int.reduceToNat, reduceIte, reduceCtorEq, Int.reduceEq, Int.reduceLT, Int.reduceLE, ↓avp_condG, ↓tf_arrow, ↓ft_arrow, lb, hge]
    exact forms_9 (wk_to fewer_refl (by simp only [vP.down, vS.down, vE.down, Nat.reduceEqDiff, Nat.reduceAdd, Nat.reduceSub, Nat.reduceMul, Nat.reduceLeDiff, Nat.reduceLT, Int.reduceToNat, reduceIte, reduceCtorEq, Int.reduceEq, Int.reduceLT, Int.reduceLE, ↓avp_condG, ↓tf_arrow, ↓ft_arrow, wP.down]))
  have hlt' : (i : Int) < ((7 : Nat) : Int) := by omega
  have hlt2 : (i : Int) < 7 := by omega
  have hix := idx_at (C := K_law8_SpanForms) (l := badR) (i := i) ty_LLapi_Run ty_Lapi_Run rfl hlt .i64
  obtain ⟨e1, e2⟩ := ff1 i hlt
  obtain ⟨b, hb'⟩ : ∃ b, b = badR.getD i default := ⟨_, rfl⟩
  rw [← hb'] at hix e1 e2
  have p1 : b.length < 4611686018427387904 := by omega
  simp only [vP.down, vS.down, vE.down, Nat.reduceEqDiff, Nat.reduceAdd, Nat.reduceSub, Nat.reduceMul, Nat.reduceLeDiff, Nat.reduceLT, Int.reduceToNat, reduceIte, reduceCtorEq, Int.reduceEq, Int.reduceLT, Int.reduceLE, ↓avp_condG, ↓tf_arrow, ↓ft_arrow, lb, hlt', hlt2, hix, e1, p1, k_law8_SpanForms_span_May.down, A_span_May, p_span_May, r_span_May]
  exact round_to (7 - (i + 1)) [(1, .t (sl badR)), (2, .t (.int .i64 (i + 1 : Nat)))] .empty (by omega) fewer_refl (by simp only [vP.down, vS.down, vE.down, Nat.reduceEqDiff, Nat.reduceAdd, Nat.reduceSub, Nat.reduceMul, Nat.reduceLeDiff, Nat.reduceLT, Int.reduceToNat, reduceIte, reduceCtorEq, Int.reduceEq, Int.reduceLT, Int.reduceLE, ↓avp_condG, ↓tf_arrow, ↓ft_arrow, wP.down, hi1]) ⟨i + 1, rfl, by omega, rfl⟩
noncomputable def c_law8_SpanForms : Con := fnScal A_law8_SpanForms p_law8_SpanForms r_law8_SpanForms
theorem ok_law8_SpanForms : COk Try.prog 9 c_law8_SpanForms := fn_sok sys_law8_SpanForms mixed Try.func9 (by kernel_rfl) geq_law8_SpanForms Try.ntmps9 (by rw [Try.results9]) (fun x => by simp [rTrue, AV.scal]) fun x hx => ⟨Nat.le_of_ble_eq_true rfl, body_law8_SpanForms x hx⟩
theorem says_law8_SpanForms : SaysTrue Rows.spanFormsSpec 0 := ⟨rfl, fun H ds h => by
  match ds, h with
  | [], _ => exact ⟨rfl, rfl, rfl⟩⟩
set_option maxRecDepth 100000 in
theorem lifted_law8_SpanForms (os : Os) (started : os.Started) (H : Type) (enc : TypeId × Value → H) :
    ReturnsInHanded {} Try.checked os 9 .any (Rows.spanFormsSpec.pre6 enc Try.prog Try.f9 Rows.spanFormsRow.domain false) (Rows.spanFormsSpec.post enc Try.prog Try.f9 false true false false) := by
  refine returnsInHanded_of_change (C := Try.checked) own started (by kernel_rfl) Try.func9
    (ChangeSpec.witness6 (enc := enc) (C := Try.checked) false ⟨#[], #[], []⟩ 8 (by kernel_rfl) (by kernel_rfl) (by kernel_rfl) (by kernel_rfl)) ?_
  intro W base args ds gs before hval hW _ _
  exact law_contract (ts := []) (tb := 4) ok_law8_SpanForms (by rw [Try.params9]) (by kernel_rfl) Try.underlying4 laid (by kernel_rfl) rd_law8_SpanForms (fun _ h => h) says_law8_SpanForms H enc W base args ds gs before hval hW
theorem over_law8_SpanForms : Rows.spanFormsRow.holds Try.pinned (OpenSpec.ofChange Rows.spanFormsSpec) :=
  OpenClaim.holds_of_wide 9 Try.f9 rfl rfl rfl rfl rfl rfl rfl ⟨rfl, rfl, rfl, rfl, rfl⟩ rfl rfl rfl rfl rfl (by kernel_rfl) Try.func9 (by kernel_rfl)
    (of_decide_eq_true (by kernel_rfl)) (by unfold Func.isWrapper; first | (rw [if_pos (by decide +kernel)]; kernel_rfl) | (rw [if_neg (by decide +kernel)]; exact ⟨rfl, rfl⟩))
    (fun os started H enc _ => lifted_law8_SpanForms os started H enc)
theorem spanForms_holds : Rows.SpanFormsSaid := over_law8_SpanForms
end Go.Proofs.Ytcahbcdikcjihaa

