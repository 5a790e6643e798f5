/-
  OpsBack.
-/
import Derived.Test.YthhgaeeeppipnaaFnsD
set_option linter.unusedSimpArgs false
set_option linter.unusedVariables false
namespace Go.Proofs.Ythhgaeeeppipnaa
open Go Go.Eng
theorem made_any {s : Store} {l : List Byt} {m : Int} {Q : AV → Store → Prop} (hl : l.length ≤ 1099511627776) (h0 : 0 ≤ m) (h1 : m ≤ 1000) (hq : ∀ v S (L : List TStep), LV S v L → L.all good = true → (L.length : Int) ≤ m → (∀ k e, s.f k = some e → S.f k = some e ∧ Not v k) → Q v S) : F_law25_made [.t (sl l), .t (.int .i64 m)] s Q := ⟨l, m, rfl, hl, h0, h1, hq⟩
theorem hd_one {x : TStep} : (argT (List TStep)).dec (.t (.seq 9 [[.int .i64 x.Kind, .int .i64 x.ID, .int .i64 x.N, .int .i64 x.M, .int .i64 x.By, .str x.Path, .str x.To, .str x.Text, sl x.Keep]])) = some [x] := argT_sl (l := [x])
theorem putL_one {x : TStep} (h : good x = true) : putL [x] = putB x := by rw [putL_cons, putOne_good, if_pos h]; exact List.append_nil _
theorem takeS_one {x : TStep} (h : good x = true) : takeS (putB x) = [x] := by
  have := takeS_put h []
  rwa [List.append_nil, takeS_nil] at this
theorem putB_len {x : TStep} (h : good x = true) : (putB x).length ≤ 2000 := by
  have := putOne_len x
  rwa [putOne_good, if_pos h] at this
def G_law25_OpsBack : GCode := .seq (.region [⟨(some 2), none, .assign (.const (.bool false))⟩]) (.seq (.seq (.region [⟨(some 8), none, .call ⟨.value (.func 8), #[], #[]⟩⟩, ⟨(some 9), none, .unOp .not 4 (.tmp 8)⟩]) (.cond (.tmp 9) (.seq (.region [⟨(some 2), none, .assign (.const (.bool false))⟩]) (.ret)) (.skip))) (.seq (.seq (.region [⟨(some 10), none, .move (.tmp 0)⟩, ⟨(some 11), none, .call ⟨.builtin .len, #[.tmp 10], #[25]⟩⟩, ⟨(some 12), none, .binOp .gtr 3 (.tmp 11) (.const (.int .i64 100)) 3⟩]) (.cond (.tmp 12) (.seq (.region [⟨(some 2), none, .assign (.const (.bool true))⟩]) (.ret)) (.skip))) (.seq (.region [⟨(some 13), none, .move (.tmp 0)⟩, ⟨(some 14), none, .call ⟨.value (.func 9), #[.tmp 13, .const (.int .i64 15)], #[25, 3]⟩⟩, ⟨(some 3), none, .assign (.tmp 14)⟩]) (.seq (.seq .weak (.region [⟨(some 4), none, .assign (.const (.string ⟨#[]⟩))⟩])) (.seq (.seq (.region [⟨(some 5), none, .assign (.const (.int .i64 0))⟩]) (.block 0 (.loop (.seq .weak (.seq (.seq (.region [⟨(some 15), none, .move (.tmp 5)⟩, ⟨(some 16), none, .move (.tmp 3)⟩, ⟨(some 17), none, .call ⟨.builtin .len, #[.tmp 16], #[27]⟩⟩, ⟨(some 18), none, .binOp .lss 3 (.tmp 15) (.tmp 17) 3⟩]) (.cond (.tmp 18) (.skip) (.exit 0))) (.seq (.block 1 (.seq (.region [⟨(some 21), none, .move (.tmp 3)⟩, ⟨(some 22), none, .move (.tmp 5)⟩, ⟨(some 23), none, .indexAddr 27 (.tmp 21) (.tmp 22)⟩, ⟨(some 24), none, .load 24 (.tmp 23)⟩, ⟨(some 25), none, .buildSlice 27 1 #[(0, .tmp 24)]⟩, ⟨(some 26), none, .call ⟨.value (.func 10), #[.tmp 25], #[27]⟩⟩, ⟨(some 6), none, .assign (.tmp 26)⟩]) (.seq (.region [⟨(some 27), none, .move (.tmp 6)⟩, ⟨(some 28), none, .call ⟨.value (.func 13), #[.tmp 27], #[9]⟩⟩, ⟨(some 7), none, .assign (.tmp 28)⟩]) (.seq (.seq (.region [⟨(some 29), none, .move (.tmp 7)⟩, ⟨(some 30), none, .call ⟨.builtin .len, #[.tmp 29], #[27]⟩⟩, ⟨(some 31), none, .binOp .neq 3 (.tmp 30) (.const (.int .i64 1)) 3⟩, ⟨(some 32), none, .move (.tmp 31)⟩, ⟨(some 33), (some (32, false)), .move (.tmp 7)⟩, ⟨(some 34), (some (32, false)), .indexAddr 27 (.tmp 33) (.const (.int .i64 0))⟩, ⟨(some 35), (some (32, false)), .load 24 (.tmp 34)⟩, ⟨(some 36), (some (32, false)), .move (.tmp 3)⟩, ⟨(some 37), (some (32, false)), .move (.tmp 5)⟩, ⟨(some 38), (some (32, false)), .indexAddr 27 (.tmp 36) (.tmp 37)⟩, ⟨(some 39), (some (32, false)), .load 24 (.tmp 38)⟩, ⟨(some 40), (some (32, false)), .call ⟨.value (.func 15), #[.tmp 35, .tmp 39], #[24, 24]⟩⟩, ⟨(some 41), (some (32, false)), .unOp .not 4 (.tmp 40)⟩, ⟨(some 42), none, .pick (.tmp 32) (.const (.bool true)) (.tmp 41)⟩]) (.cond (.tmp 42) (.seq (.region [⟨(some 2), none, .assign (.const (.bool false))⟩]) (.ret)) (.skip))) (.region [⟨(some 43), none, .move (.tmp 4)⟩, ⟨(some 44), none, .move (.tmp 6)⟩, ⟨(some 45), none, .binOp .add 9 (.tmp 43) (.tmp 44) 9⟩, ⟨(some 4), none, .assign (.tmp 45)⟩]))))) (.region [⟨(some 19), none, .move (.tmp 5)⟩, ⟨(some 20), none, .binOp .add 3 (.tmp 19) (.const (.int .i64 1)) 3⟩, ⟨(some 5), none, .assign (.tmp 20)⟩]))))))) (.seq (.region [⟨(some 46), none, .move (.tmp 3)⟩, ⟨(some 47), none, .call ⟨.value (.func 10), #[.tmp 46], #[27]⟩⟩, ⟨(some 48), none, .move (.tmp 4)⟩, ⟨(some 49), none, .binOp .eql 9 (.tmp 47) (.tmp 48) 9⟩, ⟨(some 50), none, .move (.tmp 49)⟩, ⟨(some 51), (some (50, true)), .move (.tmp 4)⟩, ⟨(some 52), (some (50, true)), .call ⟨.value (.func 13), #[.tmp 51], #[9]⟩⟩, ⟨(some 53), (some (50, true)), .move (.tmp 3)⟩, ⟨(some 54), (some (50, true)), .call ⟨.value (.func 12), #[.tmp 52, .tmp 53], #[27, 27]⟩⟩, ⟨(some 55), none, .pick (.tmp 50) (.tmp 54) (.const (.bool false))⟩, ⟨(some 2), none, .assign (.tmp 55)⟩]) (.ret)))))))
noncomputable def l_law25_OpsBack : List (Nat × Con) := [(8, c_law25_begun), (9, c_law25_made), (10, c_ops_Put), (13, c_ops_Take), (15, c_ref25_SameStep), (12, c_ref25_SameSteps)]
noncomputable abbrev K_law25_OpsBack : Ctx := ctx (cl l_law25_OpsBack)
theorem geq_law25_OpsBack : gof K_law25_OpsBack Try.f4 = some G_law25_OpsBack.strip := by kernel_rfl
theorem sys_law25_OpsBack : Go.Eng.Sys Try.prog K_law25_OpsBack := sys_of' ⟨ok_law25_begun, ok_law25_made, ok_ops_Put, ok_ops_Take, ok_ref25_SameStep, ok_ref25_SameSteps, trivial⟩
theorem hm_law25_OpsBack : ConMono K_law25_OpsBack := conMono_of sys_law25_OpsBack.con
noncomputable def k_law25_OpsBack_law25_begun := PLift.up (call_scal (C := K_law25_OpsBack) (f := 8) (A := A_law25_begun) (p := p_law25_begun) (r := r_law25_begun) rfl)
noncomputable def k_law25_OpsBack_law25_made := PLift.up (call_gen (C := K_law25_OpsBack) (f := 9) (modes := m_law25_made) (F := F_law25_made) rfl)
noncomputable def k_law25_OpsBack_ops_Put := PLift.up (call_scal (C := K_law25_OpsBack) (f := 10) (A := A_ops_Put) (p := p_ops_Put) (r := r_ops_Put) rfl)
noncomputable def k_law25_OpsBack_ops_Take := PLift.up (call_fn (C := K_law25_OpsBack) (f := 13) (A := A_ops_Take) (p := p_ops_Take) (r := r_ops_Take) rfl)
noncomputable def k_law25_OpsBack_ref25_SameStep := PLift.up (call_scal (C := K_law25_OpsBack) (f := 15) (A := A_ref25_SameStep) (p := p_ref25_SameStep) (r := r_ref25_SameStep) rfl)
noncomputable def k_law25_OpsBack_ref25_SameSteps := PLift.up (call_scal (C := K_law25_OpsBack) (f := 12) (A := A_ref25_SameSteps) (p := p_ref25_SameSteps) (r := r_ref25_SameSteps) rfl)
noncomputable def A_law25_OpsBack : Arms ((List Byt) × Unit) := Arms.cons (argT (List Byt)) (Arms.nil)
def p_law25_OpsBack (x : (List Byt) × Unit) : Prop := (goodList (fun x : Byt => goodAny x) x.1) ∧ goodAny (x.2)
abbrev r_law25_OpsBack (x : (List Byt) × Unit) : AV := rTrue x
theorem rd_law25_OpsBack : ReadsA Try.prog [25] A_law25_OpsBack p_law25_OpsBack := (readsA_T (reads_list Try.underlying25 (reads_u8 Try.underlying5) (by kernel_rfl) (by decide)) (by kernel_rfl) readsA_nil)
set_option maxRecDepth 100000 in
set_option maxHeartbeats 4000000 in
theorem body_law25_OpsBack (x) (hx : p_law25_OpsBack x) : avp K_law25_OpsBack G_law25_OpsBack (Ret K_law25_OpsBack [.tmp 2] fun v _ => v = r_law25_OpsBack x) (entry (A_law25_OpsBack.enc x) .empty) := by
  obtain ⟨p, ⟨⟩⟩ := x
  change avp _ _ (Ret _ _ fun v _ => v = .t (.bool true)) (entry [.t (sl p)] .empty)
  unfold G_law25_OpsBack
  by_cases hl : (100 : Int) < (p.length : Int)
  · simp only [vQ.down, vZ.down, vS.down, vE.down, Nat.reduceEqDiff, Nat.reduceAdd, Nat.reduceSub, Nat.reduceMul, Nat.reduceLeDiff, Nat.reduceLT, ne_eq, not_false_eq_true, not_true_eq_false, Int.reduceToNat, reduceIte, reduceCtorEq, true_and, and_true, implies_true, forall_const, decide_eq_true_eq, decide_eq_false_iff_not, Decidable.not_not, imp_self, and_self, decide_true, decide_false, Int.reduceEq, Int.reduceLT, Int.reduceLE, eq_self, ↓avp_condG, condG_bool, ↓tf_arrow, ↓ft_arrow, k_law25_OpsBack_law25_begun.down, A_law25_begun, p_law25_begun, r_law25_begun, hl, gt_iff_lt]
    simp only [vQ.down, vZ.down, vS.down, vE.down, Nat.reduceEqDiff, Nat.reduceAdd, Nat.reduceSub, Nat.reduceMul, Nat.reduceLeDiff, Nat.reduceLT, ne_eq, not_false_eq_true, not_true_eq_false, Int.reduceToNat, reduceIte, reduceCtorEq, true_and, and_true, implies_true, forall_const, decide_eq_true_eq, decide_eq_false_iff_not, Decidable.not_not, imp_self, and_self, decide_true, decide_false, Int.reduceEq, Int.reduceLT, Int.reduceLE, eq_self, ↓avp_condG, condG_bool, ↓tf_arrow, ↓ft_arrow, vT.down]
  simp only [vQ.down, vZ.down, vS.down, vE.down, Nat.reduceEqDiff, Nat.reduceAdd, Nat.reduceSub, Nat.reduceMul, Nat.reduceLeDiff, Nat.reduceLT, ne_eq, not_false_eq_true, not_true_eq_false, Int.reduceToNat, reduceIte, reduceCtorEq, true_and, and_true, implies_true, forall_const, decide_eq_true_eq, decide_eq_false_iff_not, Decidable.not_not, imp_self, and_self, decide_true, decide_false, Int.reduceEq, Int.reduceLT, Int.reduceLE, eq_self, ↓avp_condG, condG_bool, ↓tf_arrow, ↓ft_arrow, k_law25_OpsBack_law25_begun.down, A_law25_begun, p_law25_begun, r_law25_begun, hl, gt_iff_lt, k_law25_OpsBack_law25_made.down, m_law25_made]
  refine made_any (by omega) (by omega) (by omega) fun v S L hv hg hm _ => ?_
  refine weak_at [(3, .t (sl L))] .empty fewer_empty (by simp only [vQ.down, vZ.down, vS.down, vE.down, Nat.reduceEqDiff, Nat.reduceAdd, Nat.reduceSub, Nat.reduceMul, Nat.reduceLeDiff, Nat.reduceLT, ne_eq, not_false_eq_true, not_true_eq_false, Int.reduceToNat, reduceIte, reduceCtorEq, true_and, and_true, implies_true, forall_const, decide_eq_true_eq, decide_eq_false_iff_not, Decidable.not_not, imp_self, and_self, decide_true, decide_false, Int.reduceEq, Int.reduceLT, Int.reduceLE, eq_self, ↓avp_condG, condG_bool, ↓tf_arrow, ↓ft_arrow, wkAll_cons, wkAll_nil, w2_refl, w2_nil, w2_emp, empty_none]; exact hv.w2 fun _ _ => rfl) ?_
  clear hv
  have hmem : ∀ y ∈ L, good y = true := List.all_eq_true.1 hg
  simp only [vQ.down, vZ.down, vS.down, vE.down, Nat.reduceEqDiff, Nat.reduceAdd, Nat.reduceSub, Nat.reduceMul, Nat.reduceLeDiff, Nat.reduceLT, ne_eq, not_false_eq_true, not_true_eq_false, Int.reduceToNat, reduceIte, reduceCtorEq, true_and, and_true, implies_true, forall_const, decide_eq_true_eq, decide_eq_false_iff_not, Decidable.not_not, imp_self, and_self, decide_true, decide_false, Int.reduceEq, Int.reduceLT, Int.reduceLE, eq_self, ↓avp_condG, condG_bool, ↓tf_arrow, ↓ft_arrow]
  refine loop_weak hm_law25_OpsBack (fun m σ => ∃ i : Nat, m = L.length - i ∧ i ≤ L.length ∧ σ = mkS [(3, .t (sl L)), (4, .t (.str (putL (L.take i)))), (5, .t (.int .i64 (i : Nat)))] .empty)
    ⟨0, rfl, by omega, rfl⟩ (wk_to fewer_refl (by simp only [vQ.down, vZ.down, vS.down, vE.down, Nat.reduceEqDiff, Nat.reduceAdd, Nat.reduceSub, Nat.reduceMul, Nat.reduceLeDiff, Nat.reduceLT, ne_eq, not_false_eq_true, not_true_eq_false, Int.reduceToNat, reduceIte, reduceCtorEq, true_and, and_true, implies_true, forall_const, decide_eq_true_eq, decide_eq_false_iff_not, Decidable.not_not, imp_self, and_self, decide_true, decide_false, Int.reduceEq, Int.reduceLT, Int.reduceLE, eq_self, ↓avp_condG, condG_bool, ↓tf_arrow, ↓ft_arrow, wkAll_cons, wkAll_nil, w2_refl, w2_nil, w2_emp, empty_none, List.take_zero, Int.natCast_zero, show putL [] = [] from rfl])) ?_
  rintro m _ ⟨i, rfl, hi, rfl⟩
  have hi1 : IntKind.i64.wrap ((i : Int) + 1) = ((i + 1 : Nat) : Int) := by rw [IntWalk.i64_in _ (by omega)]; rfl
  have hpl := putL_len (L.take i)
  rw [List.length_take] at hpl
  by_cases hlt : i < L.length
  case neg =>
    obtain rfl : i = L.length := by omega
    have hge : ¬ ((L.length : Int) < (L.length : Int)) := by omega
    have hb := takeS_back hg
    have q1 : (∀ y ∈ L, smallS y) = True := by simp only [eq_iff_iff, iff_true]; exact fun y hy => good_small (hmem y hy)
    have q2 : (∀ y ∈ L, y.Keep.length ≤ 1099511627776) = True := by simp only [eq_iff_iff, iff_true]; exact fun y hy => by have := (good_of (hmem y hy)).2.2.1.2.2.2; omega
    have h1 : (putL L).length ≤ 1099511627776 := by rw [List.take_length] at hpl; omega
    have h2 : L.length ≤ 1048576 := by omega
    have h3 : L.length ≤ 1099511627776 := by omega
    simp only [vQ.down, vZ.down, vS.down, vE.down, Nat.reduceEqDiff, Nat.reduceAdd, Nat.reduceSub, Nat.reduceMul, Nat.reduceLeDiff, Nat.reduceLT, ne_eq, not_false_eq_true, not_true_eq_false, Int.reduceToNat, reduceIte, reduceCtorEq, true_and, and_true, implies_true, forall_const, decide_eq_true_eq, decide_eq_false_iff_not, Decidable.not_not, imp_self, and_self, decide_true, decide_false, Int.reduceEq, Int.reduceLT, Int.reduceLE, eq_self, ↓avp_condG, condG_bool, ↓tf_arrow, ↓ft_arrow, hge, List.take_length, hb, q1, q2, h1, h2, h3, k_law25_OpsBack_ops_Take.down, A_ops_Take, p_ops_Take, r_ops_Take, k_law25_OpsBack_ops_Put.down, A_ops_Put, p_ops_Put, r_ops_Put, k_law25_OpsBack_ref25_SameSteps.down, A_ref25_SameSteps, p_ref25_SameSteps, r_ref25_SameSteps]
    simp only [vQ.down, vZ.down, vS.down, vE.down, Nat.reduceEqDiff, Nat.reduceAdd, Nat.reduceSub, Nat.reduceMul, Nat.reduceLeDiff, Nat.reduceLT, ne_eq, not_false_eq_true, not_true_eq_false, Int.reduceToNat, reduceIte, reduceCtorEq, true_and, and_true, implies_true, forall_const, decide_eq_true_eq, decide_eq_false_iff_not, Decidable.not_not, imp_self, and_self, decide_true, decide_false, Int.reduceEq, Int.reduceLT, Int.reduceLE, eq_self, ↓avp_condG, condG_bool, ↓tf_arrow, ↓ft_arrow, vT.down]
  have hlt' : (i : Int) < (L.length : Int) := by omega
  obtain ⟨x, hx⟩ : ∃ x, x = L.getD i default := ⟨_, rfl⟩
  have hgx : good x = true := hmem x (by rw [hx, List.getD_eq_getElem?_getD, List.getElem?_eq_getElem hlt]; exact List.getElem_mem _)
  have e1 := putL_one hgx
  have e2 := takeS_one hgx
  have e3 := putB_len hgx
  have e4 : (putB x).length ≤ 1099511627776 := by omega
  have e5 : (∀ y ∈ [x], smallS y) = True := by simp only [eq_iff_iff, iff_true]; exact fun y hy => by rw [List.mem_singleton.1 hy]; exact good_small hgx
  have e6 : x.Keep.length ≤ 1099511627776 := by have := (good_of hgx).2.2.1.2.2.2; omega
  have hnx : putL (L.take (i + 1)) = putL (L.take i) ++ putB x := by
    have := take_map_flat putOne hlt
    rw [← hx, putOne_good, if_pos hgx] at this
    exact this
  have hdz : (idxB K_law25_OpsBack 27 (.t (sl [x])) (.t (.int .i64 0))) = .val True (.imm (Cell.enc x)) := idx_at (l := [x]) (i := 0) ty_Lapi_Step ty_api_Step rfl (by simp) .i64
  have hdx := idx_at (C := K_law25_OpsBack) (l := L) ty_Lapi_Step ty_api_Step rfl hlt .i64
  simp only [vQ.down, vZ.down, vS.down, vE.down, Nat.reduceEqDiff, Nat.reduceAdd, Nat.reduceSub, Nat.reduceMul, Nat.reduceLeDiff, Nat.reduceLT, ne_eq, not_false_eq_true, not_true_eq_false, Int.reduceToNat, reduceIte, reduceCtorEq, true_and, and_true, implies_true, forall_const, decide_eq_true_eq, decide_eq_false_iff_not, Decidable.not_not, imp_self, and_self, decide_true, decide_false, Int.reduceEq, Int.reduceLT, Int.reduceLE, eq_self, ↓avp_condG, condG_bool, ↓tf_arrow, ↓ft_arrow, hlt', ← hx]
  ((repeat' with_reducible refine And.intro ?_ ?_) <;> try (first | omega | (simp only [List.length_take, List.length_drop, List.length_append, List.length_map, List.length_replicate] <;> omega)))
  intro g9 hg9
  simp only [vQ.down, vZ.down, vS.down, vE.down, Nat.reduceEqDiff, Nat.reduceAdd, Nat.reduceSub, Nat.reduceMul, Nat.reduceLeDiff, Nat.reduceLT, ne_eq, not_false_eq_true, not_true_eq_false, Int.reduceToNat, reduceIte, reduceCtorEq, true_and, and_true, implies_true, forall_const, decide_eq_true_eq, decide_eq_false_iff_not, Decidable.not_not, imp_self, and_self, decide_true, decide_false, Int.reduceEq, Int.reduceLT, Int.reduceLE, eq_self, ↓avp_condG, condG_bool, ↓tf_arrow, ↓ft_arrow, hd_one, e1, e2, e4, e5, e6, hdz, hdx, ← hx, Int.natCast_one, k_law25_OpsBack_ops_Take.down, A_ops_Take, p_ops_Take, r_ops_Take, k_law25_OpsBack_ops_Put.down, A_ops_Put, p_ops_Put, r_ops_Put, k_law25_OpsBack_ref25_SameStep.down, A_ref25_SameStep, p_ref25_SameStep, r_ref25_SameStep]
  refine ⟨by omega, ?_⟩
  exact round_to (L.length - (i + 1)) [(3, .t (sl L)), (4, .t (.str (putL (L.take (i + 1))))), (5, .t (.int .i64 (i + 1 : Nat)))] .empty (by omega) fewer_empty (by simp only [vQ.down, vZ.down, vS.down, vE.down, Nat.reduceEqDiff, Nat.reduceAdd, Nat.reduceSub, Nat.reduceMul, Nat.reduceLeDiff, Nat.reduceLT, ne_eq, not_false_eq_true, not_true_eq_false, Int.reduceToNat, reduceIte, reduceCtorEq, true_and, and_true, implies_true, forall_const, decide_eq_true_eq, decide_eq_false_iff_not, Decidable.not_not, imp_self, and_self, decide_true, decide_false, Int.reduceEq, Int.reduceLT, Int.reduceLE, eq_self, ↓avp_condG, condG_bool, ↓tf_arrow, ↓ft_arrow, wkAll_cons, wkAll_nil, w2_refl, w2_nil, w2_emp, empty_none, hi1, hnx]) ⟨i + 1, rfl, hlt, rfl⟩
noncomputable def c_law25_OpsBack : Con := fnScal A_law25_OpsBack p_law25_OpsBack r_law25_OpsBack
theorem ok_law25_OpsBack : COk Try.prog 4 c_law25_OpsBack := fn_sok sys_law25_OpsBack mixed Try.func4 (by kernel_rfl) geq_law25_OpsBack Try.ntmps4 (by rw [Try.results4]) (fun x => by simp [rTrue, AV.scal]) fun x hx => ⟨Nat.le_of_ble_eq_true rfl, body_law25_OpsBack x hx⟩
theorem says_law25_OpsBack : SaysTrue Rows.opsBackSpec 1 := ⟨rfl, fun H ds h => by
  match ds, h with
  | [d0], _ => exact ⟨rfl, rfl, rfl⟩⟩
set_option maxRecDepth 100000 in
theorem lifted_law25_OpsBack (os : Os) (started : os.Started) (H : Type) (enc : TypeId × Value → H) :
    ReturnsInHanded {} Try.checked os 4 .any (Rows.opsBackSpec.pre6 enc Try.prog Try.f4 Rows.opsBackRow.domain false) (Rows.opsBackSpec.post enc Try.prog Try.f4 false true false false) := by
  refine returnsInHanded_of_change (C := Try.checked) own started (by kernel_rfl) Try.func4
    (ChangeSpec.witness6 (enc := enc) (C := Try.checked) false ⟨#[], #[.slice none 0 0], []⟩ 8 (by kernel_rfl) (by kernel_rfl) (by kernel_rfl) (by kernel_rfl)) ?_
  intro W base args ds gs before hval hW _ _
  exact law_contract (ts := [25]) (tb := 4) ok_law25_OpsBack (by rw [Try.params4]) (by kernel_rfl) Try.underlying4 laid (by kernel_rfl) rd_law25_OpsBack (fun _ h => h) says_law25_OpsBack H enc W base args ds gs before hval hW
theorem over_law25_OpsBack : Rows.opsBackRow.holds Try.pinned (OpenSpec.ofChange Rows.opsBackSpec) :=
  OpenClaim.holds_of_wide 4 Try.f4 rfl rfl rfl rfl rfl rfl rfl ⟨rfl, rfl, rfl, rfl, rfl⟩ rfl rfl rfl rfl rfl (by kernel_rfl) Try.func4 (by kernel_rfl)
    (of_decide_eq_true (by kernel_rfl)) (by unfold Func.isWrapper; first | (rw [if_pos (by decide +kernel)]; kernel_rfl) | (rw [if_neg (by decide +kernel)]; exact ⟨rfl, rfl⟩))
    (fun os started H enc _ => lifted_law25_OpsBack os started H enc)
theorem opsBack_holds : Rows.OpsBackSaid := over_law25_OpsBack
end Go.Proofs.Ythhgaeeeppipnaa

