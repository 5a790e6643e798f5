/-
  OpsBack.
-/
import Derived.Test.YthhgaeeeppipnaaFnsD
set_option linter.unusedSimpArgs false
set_option linter.unusedVariables false
namespace Go.Proofs.Ythhgaeeeppipnaa
open Go Go.Eng
theorem made_any {s : Store} {l : List Byt} {m : Int} {Q : AV → Store → Prop} (hl : l.length ≤ 1099511627776) (h0 : 0 ≤ m) (h1 : m ≤ 1000) (hq : ∀ v S (L : List TStep), LV S v L → L.all good = true → (L.length : Int) ≤ m → (∀ k e, s.f k = some e → S.f k = some e ∧ Not v k) → Q v S) : F_law25_made [.t (sl l), .t (.int .i64 m)] s Q := ⟨l, m, rfl, hl, h0, h1, hq⟩
theorem hd_one {x : TStep} : (argT (List TStep)).dec (.t (.seq 9 [[.int .i64 x.Kind, .int .i64 x.ID, .int .i64 x.N, .int .i64 x.M, .int .i64 x.By, .str x.Path, .str x.To, .str x.Text, sl x.Keep]])) = some [x] := argT_sl (l := [x])
theorem putL_one {x : TStep} (h : good x = true) : putL [x] = putB x := by rw [putL_cons, putOne_good, if_pos h]; exact List.append_nil _
theorem takeS_one {x : TStep} (h : good x = true) : takeS (putB x) = [x] := by
  have := takeS_put h []
  rwa [List.append_nil, takeS_nil] at this
theorem putB_len {x : TStep} (h : good x = true) : (putB x).length ≤ 2000 := by
  have := putOne_len x
  rwa [putOne_good, if_pos h] at this
def G_law25_OpsBack : GCode := .seq (.region [⟨(some 2), none, .assign (.const (.bool false))⟩]) (.seq (.seq (.region [⟨(some 8), none, .call ⟨.value (.func 8), #[], #[]⟩⟩, ⟨(some 9), none, .unOp .not 4 (.tmp 8)⟩]) (.cond (.tmp 9) (.seq (.region [⟨(some 2), none, .assign (.const (.bool false))⟩]) (.ret)) (.skip))) (.seq (.seq (.region [⟨(some 10), none, .move (.tmp 0)⟩, ⟨(some 11), none, .call ⟨.builtin .len, #[.tmp 10], #[25]⟩⟩, ⟨(some 12), none, .binOp .gtr 3 (.tmp 11) (.const (.int .i64 100)) 3⟩]) (.cond (.tmp 12) (.seq (.region [⟨(some 2), none, .assign (.const (.bool true))⟩]) (.ret)) (.skip))) (.seq (.region [⟨(some 13), none, .move (.tmp 0)⟩, ⟨(some 14), none, .call ⟨.value (.func 9), #[.tmp 13, .const (.int .i64 15)], #[25, 3]⟩⟩, ⟨(some 3), none, .assign (.tmp 14)⟩]) (.seq (.seq .weak (.region [⟨(some 4), none, .assign (.const (.string ⟨#[]⟩))⟩])) (.seq (.seq (.region [⟨(some 5), none, .assign (.const (.int .i64 0))⟩]) (.block 0 (.loop (.seq .weak (.seq (.seq (.region [⟨(some 15), none, .move (.tmp 5)⟩, ⟨(some 16), none, .move (.tmp 3)⟩, ⟨(some 17), none, .call ⟨.builtin .len, #[.tmp 16], #[27]⟩⟩, ⟨(some 18), none, .binOp .lss 3 (.tmp 15) (.tmp 17) 3⟩]) (.cond (.tmp 18) (.skip) (.exit 0))) (.seq (.block 1 (.seq (.region [⟨(some 21), none, .move (.tmp 3)⟩, ⟨(some 22), none, .move (.tmp 5)⟩, ⟨(some 23), none, .indexAddr 27 (.tmp 21) (.tmp 22)⟩, ⟨(some 24), none, .load 24 (.tmp 23)⟩, ⟨(some 25), none, .buildSlice 27 1 #[(0, .tmp 24)]⟩, ⟨(some 26), none, .call ⟨.value (.func 10), #[.tmp 25], #[27]⟩⟩, ⟨(some 6), none, .assign (.tmp 26)⟩]) (.seq (.region [⟨(some 27), none, .move (.tmp 6)⟩, ⟨(some 28), none, .call ⟨.value (.func 13), #[.tmp 27], #[9]⟩⟩, ⟨(some 7), none, .assign (.tmp 28)⟩]) (.seq (.seq (.region [⟨(some 29), none, .move (.tmp 7)⟩, ⟨(some 30), none, .call ⟨.builtin .len, #[.tmp 29], #[27]⟩⟩, ⟨(some 31), none, .binOp .neq 3 (.tmp 30) (.const (.int .i64 1)) 3⟩, ⟨(some 32), none, .move (.tmp 31)⟩, ⟨(some 33), (some (32, false)), .move (.tmp 7)⟩, ⟨(some 34), (some (32, false)), .indexAddr 27 (.tmp 33) (.const (.int .i64 0))⟩, ⟨(some 35), (some (32, false)), .load 24 (.tmp 34)⟩, ⟨(some 36), (some (32, false)), .move (.tmp 3)⟩, ⟨(some 37), (some (32, false)), .move (.tmp 5)⟩, ⟨(some 38), (some (32, false)), .indexAddr 27 (.tmp 36) (.tmp 37)⟩, ⟨(some 39), (some (32, false)), .load 24 (.tmp 38)⟩, ⟨(some 40), (some (32, false)), .call ⟨.value (.func 15), #[.tmp 35, .tmp 39], #[24, 24]⟩⟩, ⟨(some 41), (some (32, false)), .unOp .not 4 (.tmp 40)⟩, ⟨(some 42), none, .pick (.tmp 32) (.const (.bool true)) (.tmp 41)⟩]) (.cond (.tmp 42) (.seq (.region [⟨(some 2), none, .assign (.const (.bool false))⟩]) (.ret)) (.skip))) (.region [⟨(some 43), none, .move (.tmp 4)⟩, ⟨(some 44), none, .move (.tmp 6)⟩, ⟨(some 45), none, .binOp .add 9 (.tmp 43) (.tmp 44) 9⟩, ⟨(some 4), none, .assign (.tmp 45)⟩]))))) (.region [⟨(some 19), none, .move (.tmp 5)⟩, ⟨(some 20), none, .binOp .add 3 (.tmp 19) (.const (.int .i64 1)) 3⟩, ⟨(some 5), none, .assign (.tmp 20)⟩]))))))) (.seq (.region [⟨(some 46), none, .move (.tmp 3)⟩, ⟨(some 47), none, .call ⟨.value (.func 10), #[.tmp 46], #[27]⟩⟩, ⟨(some 48), none, .move (.tmp 4)⟩, ⟨(some 49), none, .binOp .eql 9 (.tmp 47) (.tmp 48) 9⟩, ⟨(some 50), none, .move (.tmp 49)⟩, ⟨(some 51), (some (50, true)), .move (.tmp 4)⟩, ⟨(some 52), (some (50, true)), .call ⟨.value (.func 13), #[.tmp 51], #[9]⟩⟩, ⟨(some 53), (some (50, true)), .move (.tmp 3)⟩, ⟨(some 54), (some (50, true)), .call ⟨.value (.func 12), #[.tmp 52, .tmp 53], #[27, 27]⟩⟩, ⟨(some 55), none, .pick (.tmp 50) (.tmp 54) (.const (.bool false))⟩, ⟨(some 2), none, .assign (.tmp 55)⟩]) (.ret)))))))
noncomputable def l_law25_OpsBack : List (Nat × Con) := [(8, c_law25_begun), (9, c_law25_made), (10, c_ops_Put), (13, c_ops_Take), (15, c_ref25_SameStep), (12, c_ref25_SameSteps)]
noncomputable abbrev K_law25_OpsBack : Ctx := ctx (cl l_law25_OpsBack)
theorem geq_law25_OpsBack : gof K_law25_OpsBack Try.f4 = some G_law25_OpsBack.strip := by kernel_rfl
theorem sys_law25_OpsBack : Go.Eng.Sys Try.prog K_law25_OpsBack := sys_of' ⟨ok_law25_begun, ok_law25_made, ok_ops_Put, ok_ops_Take, ok_ref25_SameStep, ok_ref25_SameSteps, trivial⟩
theorem hm_law25_OpsBack : ConMono K_law25_OpsBack := conMono_of sys_law25_OpsBack.con
noncomputable def k_law25_OpsBack_law25_begun := PLift.up (call_scal (C := K_law25_OpsBack) (f := 8) (A := A_law25_begun) (p := p_law25_begun) (r := r_law25_begun) rfl)
noncomputable def k_law25_OpsBack_law25_made := PLift.up (call_gen (C := K_law25_OpsBack) (f := 9) (modes := m_law25_made) (F := F_law25_made) rfl)
noncomputable def k_law25_OpsBack_ops_Put := PLift.up (call_scal (C := K_law25_OpsBack) (f := 10) (A := A_ops_Put) (p := p_ops_Put) (r := r_ops_Put) rfl)
noncomputable def k_law25_OpsBack_ops_Take := PLift.up (call_fn (C := K_law25_OpsBack) (f := 13) (A := A_ops_Take) (p := p_ops_Take) (r := r_ops_Take) rfl)
noncomputable def k_law25_OpsBack_ref25_SameStep := PLift.up (call_scal (C := K_law25_OpsBack) (f := 15) (A := A_ref25_SameStep) (p := p_ref25_SameStep) (r := r_ref25_SameStep) rfl)
noncomputable def k_law25_OpsBack_ref25_SameSteps := PLift.up (call_scal (C := K_law25_OpsBack) (f := 12) (A := A_ref25_SameSteps) (p := p_ref25_SameSteps) (r := r_ref25_SameSteps) rfl)
noncomputable def A_law25_OpsBack : Arms ((List Byt) × Unit) := Arms.cons (argT (List Byt)) (Arms.nil)
def p_law25_OpsBack (x : (List Byt) × Unit) : Prop := (goodList (fun x : Byt => goodAny x) x.1) ∧ goodAny (x.2)
abbrev r_law25_OpsBack (x : (List Byt) × Unit) : AV := rTrue x
theorem rd_law25_OpsBack : ReadsA Try.prog [25] A_law25_OpsBack p_law25_OpsBack := (readsA_T (reads_list Try.underlying25 (reads_u8 Try.underlying5) (by kernel_rfl) (by decide)) (by kernel_rfl) readsA_nil)
set_option maxRecDepth 100000 in
set_option maxHeartbeats 4000000 in
theorem body_law25_OpsBack (x) (hx : p_law25_OpsBack x) : avp K_law25_OpsBack G_law25_OpsBack (Ret K_law25_OpsBack [.tmp 2] fun v _ => v = r_law25_OpsBack x) (entry (A_law25_OpsBack.enc x) .empty) := by
  obtain ⟨p, ⟨⟩⟩ := x
  change avp _ _ (Ret _ _ fun v _ => v = .t (.bool true)) (entry [.t (sl p)] .empty)
  unfold G_law25_OpsBack
  by_cases hl : (100 : Int) < (p.length : Int)
  · simp only [vQ.down, vZ.down, vS.down, vE.down, Nat.reduceEqDiff, Nat.reduceAdd, Nat.reduceSub, Nat.reduceMul, Nat.reduceLeDiff, Nat.reduceLT, ne_eq, not_false_eq_true, not_true_eq_false, Int.reduceToNat, reduceIte, reduceCtorEq, true_and, and_true, implies_true, forall_const, decide_eq_true_eq, decide_eq_false_iff_not, Decidable.not_not, imp_self, and_self, decide_true, decide_false, Int.reduceEq, Int.reduceLT, Int.reduceLE, eq_self, ↓avp_condG, condG_bool, ↓tf_arrow, ↓ft_arrow, k_law25_OpsBack_law25_begun.down, A_law25_begun, p_law25_begun, r_law25_begun, hl, gt_iff_lt]
    simp only [vQ.down, vZ.down, vS.down, vE.down, Nat.reduceEqDiff, Nat.reduceAdd, Nat.reduceSub, Nat.reduceMul, Nat.reduceLeDiff, Nat.reduceLT, ne_eq, not_false_eq_true, not_true_eq_false, Int.reduceToNat, reduceIte, reduceCtorEq, true_and, and_true, implies_true, forall_const, decide_eq_true_eq, decide_eq_false_iff_not, Decidable.not_not, imp_self, and_self, decide_true, decide_false, Int.reduceEq, Int.reduceLT, Int.reduceLE, eq_self, ↓avp_condG, condG_bool, ↓tf_arrow, ↓ft_arrow, vT.down]
  simp only [vQ.down, vZ.down, vS.down, vE.down, Nat.reduceEqDiff, Nat.reduceAdd, Nat.reduceSub, Nat.reduceMul, Nat.reduceLeDiff, Nat.reduceLT, ne_eq, not_false_eq_true, not_true_eq_false, Int.reduceToNat, reduceIte, reduceCtorEq, true_and, and_true, implies_true, forall_const, decide_eq_true_eq, decide_eq_false_iff_not, Decidable.not_not, imp_self, and_self, decide_true, decide_false, Int.reduceEq, Int.reduceLT, Int.reduceLE, eq_self, ↓avp_condG, condG_bool, ↓tf_arrow, ↓ft_arrow, k_law25_OpsBack_law25_begun.down, A_law25_begun, p_law25_begun, r_law25_begun, hl, gt_iff_lt, k_law25_OpsBack_law25_made.down, m_law25_made]
  refine made_any (by omega) (by omega) (by omega) fun v S L hv hg hm _ => ?_
  refine weak_at [(3, .t (sl L))] .empty fewer_empty (by simp only [vQ.down, vZ.down, vS.down, vE.down, Nat.reduceEqDiff, Nat.reduceAdd, Nat.reduceSub, Nat.reduceMul, Nat.reduceLeDiff, Nat.reduceLT, ne_eq, not_false_eq_true, not_true_eq_false, Int.reduceToNat, reduceIte, reduceCtorEq, true_and, and_true, implies_true, forall_const, decide_eq_true_eq, decide_eq_false_iff_not, Decidable.not_not, imp_self, and_self, decide_true, decide_false, Int.reduceEq, Int.reduceLT, Int.reduceLE, eq_self, ↓avp_condG, condG_bool, ↓tf_arrow, ↓ft_arrow, wkAll_cons, wkAll_nil, w2_refl, w2_nil, w2_emp, empty_none]; exact hv.w2 fun _ _ => rfl) ?_
  clear hv
  have hmem : ∀ y ∈ L, good y = true := List.all_eq_true.1 hg
  simp only [vQ.down, vZ.down, vS.down, vE.down, Nat.reduceEqDiff, Nat.reduceAdd, Nat.reduceSub, Nat.reduceMul, Nat.reduceLeDiff, Nat.reduceLT, ne_eq, not_false_eq_true, not_true_eq_false, Int.reduceToNat, reduceIte, reduceCtorEq, true_and, and_true, implies_true, forall_const, decide_eq_true_eq, decide_eq_false_iff_not, Decidable.not_not, imp_self, and_self, decide_true, decide_false, Int.reduceEq, Int.reduceLT, Int.reduceLE, eq_self, ↓avp_condG, condG_bool, ↓tf_arrow, ↓ft_arrow]
  refine loop_weak hm_law25_OpsBack (fun m σ => ∃ i : Nat, m = L.length - i ∧ i ≤ L.length ∧ σ = mkS [(3, .t (sl L)), (4, .t (.str (putL (L.take i)))), (5, .t (.int .i64 (i : Nat)))] .empty)
    ⟨0, rfl, by omega, rfl⟩ (wk_to fewer_refl (by simp only [vQ.down, vZ.down, vS.down, vE.down, Nat.reduceEqDiff, Nat.reduceAdd, Nat.reduceSub, Nat.reduceMul, Nat.reduceLeDiff, Nat.reduceLT, ne_eq, not_false_eq_true, not_true_eq_false, Int.reduceToNat, reduceIte, reduceCtorEq, true_and, and_true, implies_true, forall_const, decide_eq_true_eq, decide_eq_false_iff_not, Decidable.not_not, imp_self, and_self, decide_true, decide_false, Int.reduceEq, Int.reduceLT, Int.reduceLE, eq_self, ↓avp_condG, condG_bool, ↓tf_arrow, ↓ft_arrow, wkAll_cons, wkAll_nil, w2_refl, w2_nil, w2_emp, empty_none, List.take_zero, Int.natCast_zero, show putL [] = [] from rfl])) ?_
  rintro m _ ⟨i, rfl, hi, rfl⟩
  have hi1 : IntKind.i64.wrap ((i : Int) + 1) = ((i + 1 : Nat) : Int) := by rw [IntWalk.i64_in _ (by omega)]; rfl
  have hpl := putL_len (L.take i)
  rw [List.length_take] at hpl
  by_cases hlt : i < L.length
  case neg =>
    obtain rfl : i = L.length := by omega
    have hge : ¬ ((L.length : Int) < (L.length : Int)) := by omega
    have hb := takeS_back hg
    have q1 : (∀ y ∈ L, smallS y) = True := by simp only [eq_iff_iff, iff_true]; exact fun y hy => good_small (hmem y hy)
    have q2 : (∀ y ∈ L, y.Keep.length ≤ 1099511627776) = True := by simp only [eq_iff_iff, iff_true]; exact fun y hy => by have := (good_of (hmem y hy)).2.2.1.2.2.2; omega
    have h1 : (putL L).length ≤ 1099511627776 := by rw [List.take_length] at hpl; omega
    have h2 : L.length ≤ 1048576 := by omega
    have h3 : L.length ≤ 1099511627776 := by omega
    simp only [vQ.down, vZ.down, vS.down, vE.down, Nat.reduceEqDiff, Nat.reduceAdd, Nat.reduceSub, Nat.reduceMul, Nat.reduceLeDiff, Nat.reduceLT, ne_eq, not_false_eq_true, not_true_eq_false, Int.reduceToNat, reduceIte, reduceCtorEq, true_and, and_true, implies_true, forall_const, decide_eq_true_eq, decide_eq_false_iff_not, Decidable.not_not, imp_self, and_self, decide_true, decide_false, Int.reduceEq, Int.reduceLT, Int.reduceLE, eq_self, ↓avp_condG, condG_bool, ↓tf_arrow, ↓ft_arrow, hge, List.take_length, hb, q1, q2, h1, h2, h3, k_law25_OpsBack_ops_Take.down, A_ops_Take, p_ops_Take, r_ops_Take, k_law25_OpsBack_ops_Put.down, A_ops_Put, p_ops_Put, r_ops_Put, k_law25_OpsBack_ref25_SameSteps.down, A_ref25_SameSteps, p_ref25_SameSteps, r_ref25_SameSteps]
    simp only [vQ.down, vZ.down, vS.down, vE.down, Nat.reduceEqDiff, Nat.reduceAdd, Nat.reduceSub, Nat.reduceMul, Nat.reduceLeDiff, Nat.reduceLT, ne_eq, not_false_eq_true, not_true_eq_false, Int.reduceToNat, reduceIte, reduceCtorEq, true_and, and_true, implies_true, forall_const, decide_eq_true_eq, decide_eq_false_iff_not, Decidable.not_not, imp_self, and_self, decide_true, decide_false, Int.reduceEq, Int.reduceLT, Int.reduceLE, eq_self, ↓avp_condG, condG_bool, ↓tf_arrow, ↓ft_arrow, vT.down]
  have hlt' : (i : Int) < (L.length : Int) := by omega
  obtain ⟨x, hx⟩ : ∃ x, x = L.getD i default := ⟨_, rfl⟩
  have hgx : good x = true := hmem x (by rw [hx, List.getD_eq_getElem?_getD, List.getElem?_eq_getElem hlt]; exact List.getElem_mem _)
  have e1 := putL_one hgx
  have e2 := takeS_one hgx
  have e3 := putB_len hgx
  have e4 : (putB x).length ≤ 1099511627776 := by omega
  have e5 : (∀ y ∈ [x], smallS y) = True := by simp only [eq_iff_iff, iff_true]; exact fun y hy => by rw [List.mem_singleton.1 hy]; exact good_small hgx
  have e6 : x.Keep.length ≤ 1099511627776 := by have := (good_of hgx).2.2.1.2.2.2; omega
  have hnx : putL (L.take (i + 1)) = putL (L.take i) ++ putB x := by
    have := take_map_flat putOne hlt
    rw [← hx, putOne_good, if_pos hgx] at this
    exact this
  have hdz : (idxB K_law25_OpsBack 27 (.t (sl [x])) (.t (.int .i64 0))) = .val True (.imm (Cell.enc x)) := idx_at (l := [x]) (i := 0) ty_Lapi_Step ty_api_Step rfl (by simp) .i64
  have hdx := idx_at (C := K_law25_OpsBack) (l := L) ty_Lapi_Step ty_api_Step rfl hlt .i64
  simp only [vQ.down, vZ.down, vS.down, vE.down, Nat.reduceEqDiff, Nat.reduceAdd, Nat.reduceSub, Nat.reduceMul, Nat.reduceLeDiff, Nat.reduceLT, ne_eq, not_false_eq_true, not_true_eq_false, Int.reduceToNat, reduceIte, reduceCtorEq, true_and, and_true, implies_true, forall_const, decide_eq_true_eq, decide_eq_false_iff_not, Decidable.not_not, imp_self, and_self, decide_true, decide_false, Int.reduceEq, Int.reduceLT, Int.reduceLE, eq_self, ↓avp_condG, condG_bool, ↓tf_arrow, ↓ft_arrow, hlt', ← hx]
  ((repeat' with_reducible refine And.intro ?_ ?_) <;> try (first | omega | (simp only [List.length_take, List.length_drop, List.length_append, List.length_map, List.length_replicate] <;> omega)))
  intro g9 hg9
  simp only [vQ.down, vZ.down, vS.down, vE.down, Nat.reduceEqDiff, Nat.reduceAdd, Nat.reduceSub, Nat.reduceMul, Nat.reduceLeDiff, Nat.reduceLT, ne_eq, not_false_eq_true, not_true_eq_false, Int.reduceToNat, reduceIte, reduceCtorEq, true_and, and_true, implies_true, forall_const, decide_eq_true_eq, decide_eq_false_iff_not, Decidable.not_not, imp_self, and_self, decide_true, decide_false, Int.reduceEq, Int.reduceLT, Int.reduceLE, eq_self, ↓avp_condG, condG_bool, ↓tf_arrow, ↓ft_arrow, hd_one, e1, e2, e4, e5, e6, hdz, hdx, ← hx, Int.natCast_one, k_law25_OpsBack_ops_Take.down, A_ops_Take, p_ops_Take, r_ops_Take, k_law25_OpsBack_ops_Put.down, A_ops_Put, p_ops_Put, r_ops_Put, k_law25_OpsBack_ref25_SameStep.down, A_ref25_SameStep, p_ref25_SameStep, r_ref25_SameStep]
  refine ⟨by omega, ?_⟩
  exact round_to (L.length - (i + 1)) [(3, .t (sl L)), (4, .t (.str (putL (L.take (i + 1))))), (5, .t (.int .i64 (i + 1 : Nat)))] .empty (by omega) fewer_empty (by simp only [vQ.down, vZ.down, vS.down, vE.down, Nat.reduceEqDiff, Nat.reduceAdd, Nat.reduceSub, Nat.reduceMul, Nat.reduceLeDiff, Nat.reduceLT, ne_eq, not_false_eq_true, not_true_eq_false, Int.reduceToNat, reduceIte, reduceCtorEq, true_and, and_true, implies_true, forall_const, decide_eq_true_eq, decide_eq_false_iff_not, Decidable.not_not, imp_self, and_self, decide_true, decide_false, Int.reduceEq, Int.reduceLT, Int.reduceLE, eq_self, ↓avp_condG, condG_bool, ↓tf_arrow, ↓ft_arrow, wkAll_cons, wkAll_nil, w2_refl, w2_nil, w2_emp, empty_none, hi1, hnx]) ⟨i + 1, rfl, hlt, rfl⟩
noncomputable def c_law25_OpsBack : Con := fnScal A_law25_OpsBack p_law25_OpsBack r_law25_OpsBack
theorem ok_law25_OpsBack : COk Try.prog 4 c_law25_OpsBack := fn_sok sys_law25_OpsBack mixed Try.func4 (by kernel_rfl) geq_law25_OpsBack Try.ntmps4 (by rw [Try.results4]) (fun x => by simp [rTrue, AV.scal]) fun x hx => ⟨Nat.le_of_ble_eq_true rfl, body_law25_OpsBack x hx⟩
theorem says_law25_OpsBack : SaysTrue Rows.opsBackSpec 1 := ⟨rfl, fun H ds h => by
  match ds, h with
  | [d0], _ => exact ⟨rfl, rfl, rfl⟩⟩
set_option maxRecDepth 100000 in
theorem lifted_law25_OpsBack (os : Os) (started : os.Started) (H : Type) (enc : TypeId × Value → H) :
    ReturnsInHanded {} Try.checked os 4 .any (Rows.opsBackSpec.pre6 enc Try.prog Try.f4 Rows.opsBackRow.domain false) (Rows.opsBackSpec.post enc Try.prog Try.f4 false true false false) := by
  refine returnsInHanded_of_change (C := Try.checked) own started (by kernel_rfl) Try.func4
    (ChangeSpec.witness6 (enc := enc) (C := Try.checked) false ⟨#[], #[.slice none 0 0], []⟩ 8 (by kernel_rfl) (by kernel_rfl) (by kernel_rfl) (by kernel_rfl)) ?_
  intro W base args ds gs before hval hW _ _
  exact law_contract (ts := [25]) (tb := 4) ok_law25_OpsBack (by rw [Try.params4]) (by kernel_rfl) Try.underlying4 laid (by kernel_rfl) rd_law25_OpsBack (fun _ h => h) says_law25_OpsBack H enc W base args ds gs before hval hW
theorem over_law25_OpsBack : Rows.opsBackRow.holds Try.pinned (OpenSpec.ofChange Rows.opsBackSpec) :=
  OpenClaim.holds_of_wide 4 Try.f4 rfl rfl rfl rfl rfl rfl rfl ⟨rfl, rfl, rfl, rfl, rfl⟩ rfl rfl rfl rfl rfl (by kernel_rfl) Try.func4 (by kernel_rfl)
    (of_decide_eq_true (by kernel_rfl)) (by unfold Func.isWrapper; first | (rw [if_pos (by decide +kernel)]; kernel_rfl) | (rw [if_neg (by decide +kernel)]; exact ⟨rfl, rfl⟩))
    (fun os started H enc _ => lifted_law25_OpsBack os started H enc)
theorem opsBack_holds : Rows.OpsBackSaid := over_law25_OpsBack
end Go.Proofs.Ythhgaeeeppipnaa


namespace Go.Eng
open Go
instance cU16 : Cell UInt16 where
  width := 1
  enc b := [.int .u16 (b.toNat : Int)]
  dec cs := match cs with | [.int .u16 n] => if n = ((UInt16.ofNat n.toNat).toNat : Int) then some (UInt16.ofNat n.toNat) else none | _ => none
  len _ := rfl
  dec_enc b := by simp
  sound := sound_exact (fun _ => rfl) fun cs x h => by
    split at h
    · next n =>
      by_cases hc : n = ((UInt16.ofNat n.toNat).toNat : Int)
      · rw [if_pos hc] at h; cases h; exact congrArg (fun m => [TV.int .u16 m]) hc
      · rw [if_neg hc] at h; cases h
    · cases h
theorem u16_enc {x : Int} (h0 : 0 ≤ x) (h1 : x < 65536) : [TV.int .u16 x] = Cell.enc (UInt16.ofNat x.toNat) := by
  have : ((UInt16.ofNat x.toNat).toNat : Int) = x := by
    rw [UInt16.toNat_ofNat']
    omega
  change _ = [TV.int .u16 ((UInt16.ofNat x.toNat).toNat : Int)]
  rw [this]
theorem reads_u16 {P : Program} {t : TypeId} (ht : P.underlying t = some (.int .u16)) : Reads P t UInt16 goodAny := by
  intro H enc W n cs x h
  obtain ⟨k, rfl, _, hw⟩ := DataW.trod_int ht h
  have hk : 0 ≤ k ∧ k ≤ 65535 := by simpa [Lit.wf, IntKind.min, IntKind.max, IntKind.signed, IntKind.bits] using hw
  refine ⟨rfl, UInt16.ofNat k.toNat, trivial, fun i hi => ?_⟩
  obtain rfl : i = 0 := by have hi' : i < 1 := hi; omega
  rw [← u16_enc hk.1 (by omega)]
  exact .int _ _
end Go.Eng


namespace Go.Proofs.Ythhgaeeeppipnaa
open Go Go.Eng
theorem sl_take {α : Type} [Cell α] {l : List α} {j : Nat} : TV.seq (Cell.width α) (((l.map Cell.enc).take j).drop 0) = sl (l.take j) := by
  unfold sl; rw [List.drop_zero, List.map_take]
def G_law25_OpsCut_13 : GCode := .seq (.seq .weak (.region [⟨(some 75), none, .move (.tmp 11)⟩, ⟨(some 76), none, .buildSlice 27 0 #[]⟩, ⟨(some 77), none, .move (.tmp 7)⟩, ⟨(some 78), none, .call ⟨.builtin .append, #[.tmp 76, .tmp 77], #[27, 27]⟩⟩, ⟨(some 79), none, .move (.tmp 12)⟩, ⟨(some 80), none, .call ⟨.builtin .append, #[.tmp 78, .tmp 79], #[27, 27]⟩⟩, ⟨(some 81), none, .call ⟨.value (.func 12), #[.tmp 75, .tmp 80], #[27, 27]⟩⟩, ⟨(some 6), none, .assign (.tmp 81)⟩])) (.ret)
def G_law25_OpsCut : GCode := .seq (.region [⟨(some 6), none, .assign (.const (.bool false))⟩]) (.seq (.seq (.region [⟨(some 13), none, .call ⟨.value (.func 8), #[], #[]⟩⟩, ⟨(some 14), none, .unOp .not 4 (.tmp 13)⟩]) (.cond (.tmp 14) (.seq (.region [⟨(some 6), none, .assign (.const (.bool false))⟩]) (.ret)) (.skip))) (.seq (.seq (.region [⟨(some 15), none, .move (.tmp 0)⟩, ⟨(some 16), none, .call ⟨.builtin .len, #[.tmp 15], #[25]⟩⟩, ⟨(some 17), none, .binOp .gtr 3 (.tmp 16) (.const (.int .i64 60)) 3⟩, ⟨(some 18), none, .move (.tmp 17)⟩, ⟨(some 19), (some (18, false)), .move (.tmp 2)⟩, ⟨(some 20), (some (18, false)), .call ⟨.builtin .len, #[.tmp 19], #[9]⟩⟩, ⟨(some 21), (some (18, false)), .binOp .gtr 3 (.tmp 20) (.const (.int .i64 100)) 3⟩, ⟨(some 22), none, .pick (.tmp 18) (.const (.bool true)) (.tmp 21)⟩]) (.cond (.tmp 22) (.seq (.region [⟨(some 6), none, .assign (.const (.bool true))⟩]) (.ret)) (.skip))) (.seq (.region [⟨(some 23), none, .move (.tmp 0)⟩, ⟨(some 24), none, .call ⟨.value (.func 9), #[.tmp 23, .const (.int .i64 10)], #[25, 3]⟩⟩, ⟨(some 7), none, .assign (.tmp 24)⟩]) (.seq (.seq .weak (.region [⟨(some 25), none, .move (.tmp 7)⟩, ⟨(some 26), none, .call ⟨.value (.func 10), #[.tmp 25], #[27]⟩⟩, ⟨(some 8), none, .assign (.tmp 26)⟩])) (.seq (.region [⟨(some 27), none, .move (.tmp 1)⟩, ⟨(some 28), none, .convert 38 3 (.tmp 27)⟩, ⟨(some 29), none, .move (.tmp 8)⟩, ⟨(some 30), none, .call ⟨.builtin .len, #[.tmp 29], #[9]⟩⟩, ⟨(some 31), none, .binOp .add 3 (.tmp 30) (.const (.int .i64 1)) 3⟩, ⟨(some 32), none, .binOp .rem 3 (.tmp 28) (.tmp 31) 3⟩, ⟨(some 9), none, .assign (.tmp 32)⟩]) (.seq (.region [⟨(some 33), none, .move (.tmp 8)⟩, ⟨(some 34), none, .move (.tmp 9)⟩, ⟨(some 35), none, .slice 9 (.tmp 33) none (some (.tmp 34)) none⟩, ⟨(some 36), none, .call ⟨.value (.func 13), #[.tmp 35], #[9]⟩⟩, ⟨(some 10), none, .assign (.tmp 36)⟩]) (.seq (.seq (.region [⟨(some 37), none, .move (.tmp 10)⟩, ⟨(some 38), none, .call ⟨.builtin .len, #[.tmp 37], #[27]⟩⟩, ⟨(some 39), none, .move (.tmp 7)⟩, ⟨(some 40), none, .call ⟨.builtin .len, #[.tmp 39], #[27]⟩⟩, ⟨(some 41), none, .binOp .gtr 3 (.tmp 38) (.tmp 40) 3⟩, ⟨(some 42), none, .move (.tmp 41)⟩, ⟨(some 43), (some (42, false)), .move (.tmp 10)⟩, ⟨(some 44), (some (42, false)), .move (.tmp 7)⟩, ⟨(some 45), (some (42, false)), .move (.tmp 10)⟩, ⟨(some 46), (some (42, false)), .call ⟨.builtin .len, #[.tmp 45], #[27]⟩⟩, ⟨(some 47), (some (42, false)), .slice 27 (.tmp 44) none (some (.tmp 46)) none⟩, ⟨(some 48), (some (42, false)), .call ⟨.value (.func 12), #[.tmp 43, .tmp 47], #[27, 27]⟩⟩, ⟨(some 49), (some (42, false)), .unOp .not 4 (.tmp 48)⟩, ⟨(some 50), none, .pick (.tmp 42) (.const (.bool true)) (.tmp 49)⟩, ⟨(some 51), none, .move (.tmp 50)⟩, ⟨(some 52), (some (51, false)), .move (.tmp 10)⟩, ⟨(some 53), (some (51, false)), .call ⟨.builtin .len, #[.tmp 52], #[27]⟩⟩, ⟨(some 54), (some (51, false)), .move (.tmp 7)⟩, ⟨(some 55), (some (51, false)), .call ⟨.builtin .len, #[.tmp 54], #[27]⟩⟩, ⟨(some 56), (some (51, false)), .binOp .lss 3 (.tmp 53) (.tmp 55) 3⟩, ⟨(some 57), (some (51, false)), .move (.tmp 56)⟩, ⟨(some 58), (some (57, true)), .move (.tmp 7)⟩, ⟨(some 59), (some (57, true)), .move (.tmp 10)⟩, ⟨(some 60), (some (57, true)), .call ⟨.builtin .len, #[.tmp 59], #[27]⟩⟩, ⟨(some 61), (some (57, true)), .binOp .add 3 (.tmp 60) (.const (.int .i64 1)) 3⟩, ⟨(some 62), (some (57, true)), .slice 27 (.tmp 58) none (some (.tmp 61)) none⟩, ⟨(some 63), (some (57, true)), .call ⟨.value (.func 10), #[.tmp 62], #[27]⟩⟩, ⟨(some 64), (some (57, true)), .call ⟨.builtin .len, #[.tmp 63], #[9]⟩⟩, ⟨(some 65), (some (57, true)), .move (.tmp 9)⟩, ⟨(some 66), (some (57, true)), .binOp .leq 3 (.tmp 64) (.tmp 65) 3⟩, ⟨(some 67), (some (51, false)), .pick (.tmp 57) (.tmp 66) (.const (.bool false))⟩, ⟨(some 68), none, .pick (.tmp 51) (.const (.bool true)) (.tmp 67)⟩]) (.cond (.tmp 68) (.seq (.region [⟨(some 6), none, .assign (.const (.bool false))⟩]) (.ret)) (.skip))) (.seq (.region [⟨(some 69), none, .move (.tmp 8)⟩, ⟨(some 70), none, .move (.tmp 2)⟩, ⟨(some 71), none, .binOp .add 9 (.tmp 69) (.tmp 70) 9⟩, ⟨(some 72), none, .call ⟨.value (.func 13), #[.tmp 71], #[9]⟩⟩, ⟨(some 11), none, .assign (.tmp 72)⟩]) (.seq (.region [⟨(some 73), none, .move (.tmp 2)⟩, ⟨(some 74), none, .call ⟨.value (.func 13), #[.tmp 73], #[9]⟩⟩, ⟨(some 12), none, .assign (.tmp 74)⟩]) (G_law25_OpsCut_13))))))))))
noncomputable def l_law25_OpsCut : List (Nat × Con) := [(8, c_law25_begun), (9, c_law25_made), (10, c_ops_Put), (13, c_ops_Take), (12, c_ref25_SameSteps)]
noncomputable abbrev K_law25_OpsCut : Ctx := ctx (cl l_law25_OpsCut)
theorem geq_law25_OpsCut : gof K_law25_OpsCut Try.f6 = some G_law25_OpsCut.strip := by kernel_rfl
theorem sys_law25_OpsCut : Go.Eng.Sys Try.prog K_law25_OpsCut := sys_of' ⟨ok_law25_begun, ok_law25_made, ok_ops_Put, ok_ops_Take, ok_ref25_SameSteps, trivial⟩
theorem hm_law25_OpsCut : ConMono K_law25_OpsCut := conMono_of sys_law25_OpsCut.con
noncomputable def k_law25_OpsCut_law25_begun := PLift.up (call_scal (C := K_law25_OpsCut) (f := 8) (A := A_law25_begun) (p := p_law25_begun) (r := r_law25_begun) rfl)
noncomputable def k_law25_OpsCut_law25_made := PLift.up (call_gen (C := K_law25_OpsCut) (f := 9) (modes := m_law25_made) (F := F_law25_made) rfl)
noncomputable def k_law25_OpsCut_ops_Put := PLift.up (call_scal (C := K_law25_OpsCut) (f := 10) (A := A_ops_Put) (p := p_ops_Put) (r := r_ops_Put) rfl)
noncomputable def k_law25_OpsCut_ops_Take := PLift.up (call_fn (C := K_law25_OpsCut) (f := 13) (A := A_ops_Take) (p := p_ops_Take) (r := r_ops_Take) rfl)
noncomputable def k_law25_OpsCut_ref25_SameSteps := PLift.up (call_scal (C := K_law25_OpsCut) (f := 12) (A := A_ref25_SameSteps) (p := p_ref25_SameSteps) (r := r_ref25_SameSteps) rfl)
noncomputable def A_law25_OpsCut : Arms ((List Byt) × UInt16 × (List UInt8) × Unit) := Arms.cons (argT (List Byt)) (Arms.cons (argT UInt16) (Arms.cons (argT (List UInt8)) (Arms.nil)))
def p_law25_OpsCut (x : (List Byt) × UInt16 × (List UInt8) × Unit) : Prop := (goodList (fun x : Byt => goodAny x) x.1) ∧ (goodAny x.2.1) ∧ (goodStr x.2.2.1) ∧ goodAny (x.2.2.2)
abbrev r_law25_OpsCut (x : (List Byt) × UInt16 × (List UInt8) × Unit) : AV := rTrue x
theorem rd_law25_OpsCut : ReadsA Try.prog [25, 38, 9] A_law25_OpsCut p_law25_OpsCut := (readsA_T (reads_list Try.underlying25 (reads_u8 Try.underlying5) (by kernel_rfl) (by decide)) (by kernel_rfl) (readsA_T (reads_u16 Try.underlying38) (by kernel_rfl) (readsA_T (reads_str Try.underlying9) (by kernel_rfl) readsA_nil)))
set_option maxRecDepth 100000 in
set_option maxHeartbeats 4000000 in
theorem cut_tail {L M : List TStep} (h1 : L.length ≤ 1099511627776) (q1 : (∀ y ∈ M, y.Keep.length ≤ 1099511627776) = True) (q2 : (∀ y ∈ L, y.Keep.length ≤ 1099511627776) = True) (h2 : L.length + M.length ≤ 100000) (g1 : ∀ y ∈ M, good y = true) (g2 : ∀ y ∈ L, good y = true) {σ : St} (hσ : Wk σ (mkS [(7, .t (sl L)), (11, .t (sl (L ++ M))), (12, .t (sl M))] .empty)) :
    avp K_law25_OpsCut G_law25_OpsCut_13 (Ret K_law25_OpsCut [.tmp 6] fun v _ => v = .t (.bool true)) σ := by
  unfold G_law25_OpsCut_13
  simp only [avp_seq]
  refine ⟨_, hσ, ?_⟩
  simp only [vQ.down, vZ.down, vS.down, vE.down, Nat.reduceEqDiff, Nat.reduceAdd, Nat.reduceSub, Nat.reduceMul, Nat.reduceLeDiff, Nat.reduceLT, ne_eq, not_false_eq_true, not_true_eq_false, Int.reduceToNat, reduceIte, reduceCtorEq, true_and, and_true, implies_true, forall_const, decide_eq_true_eq, decide_eq_false_iff_not, Decidable.not_not, imp_self, and_self, decide_true, decide_false, Int.reduceEq, Int.reduceLT, Int.reduceLE, eq_self, ↓avp_condG, condG_bool, ↓tf_arrow, ↓ft_arrow]
  intro g hg
  refine append_copy (α := TStep) (l := L) ty_Lapi_Step ty_api_Step rfl (by decide) rfl (.inl rfl) hg (by omega) (by show L.length * 112 ≤ _; omega) fun v' S' hv' _ => ?_
  refine append_lv ty_Lapi_Step ty_api_Step rfl (by decide) hv' shows_sl (by omega) (by show (L.length + M.length) * 112 ≤ _; omega) fun v2 S2 hv2 _ _ => ?_
  obtain ⟨y, ros, hb, _, hd⟩ := hv2.borrow
  have q3 : (∀ y ∈ L ++ M, y.Keep.length ≤ 1099511627776) = True := by
    simp only [eq_iff_iff, iff_true]
    intro y hy
    rcases List.mem_append.1 hy with h | h
    · exact (q2.mpr trivial) y h
    · exact (q1.mpr trivial) y h
  have h3 : (L ++ M).length ≤ 1099511627776 := by rw [List.length_append]; omega
  simp only [vQ.down, vZ.down, vS.down, vE.down, Nat.reduceEqDiff, Nat.reduceAdd, Nat.reduceSub, Nat.reduceMul, Nat.reduceLeDiff, Nat.reduceLT, ne_eq, not_false_eq_true, not_true_eq_false, Int.reduceToNat, reduceIte, reduceCtorEq, true_and, and_true, implies_true, forall_const, decide_eq_true_eq, decide_eq_false_iff_not, Decidable.not_not, imp_self, and_self, decide_true, decide_false, Int.reduceEq, Int.reduceLT, Int.reduceLE, eq_self, ↓avp_condG, condG_bool, ↓tf_arrow, ↓ft_arrow, hb, hd, q3, h3, k_law25_OpsCut_ref25_SameSteps.down, A_ref25_SameSteps, p_ref25_SameSteps, r_ref25_SameSteps]
  simp only [vQ.down, vZ.down, vS.down, vE.down, Nat.reduceEqDiff, Nat.reduceAdd, Nat.reduceSub, Nat.reduceMul, Nat.reduceLeDiff, Nat.reduceLT, ne_eq, not_false_eq_true, not_true_eq_false, Int.reduceToNat, reduceIte, reduceCtorEq, true_and, and_true, implies_true, forall_const, decide_eq_true_eq, decide_eq_false_iff_not, Decidable.not_not, imp_self, and_self, decide_true, decide_false, Int.reduceEq, Int.reduceLT, Int.reduceLE, eq_self, ↓avp_condG, condG_bool, ↓tf_arrow, ↓ft_arrow, vT.down]
set_option maxRecDepth 100000 in
set_option maxHeartbeats 4000000 in
theorem body_law25_OpsCut (x) (hx : p_law25_OpsCut x) : avp K_law25_OpsCut G_law25_OpsCut (Ret K_law25_OpsCut [.tmp 6] fun v _ => v = r_law25_OpsCut x) (entry (A_law25_OpsCut.enc x) .empty) := by
  obtain ⟨p, at_, s, ⟨⟩⟩ := x
  change avp _ _ (Ret _ _ fun v _ => v = .t (.bool true)) (entry [.t (sl p), .t (.int .u16 (at_.toNat : Int)), .t (.str s)] .empty)
  unfold G_law25_OpsCut
  by_cases hl : (60 : Int) < (p.length : Int)
  · simp only [vQ.down, vZ.down, vS.down, vE.down, Nat.reduceEqDiff, Nat.reduceAdd, Nat.reduceSub, Nat.reduceMul, Nat.reduceLeDiff, Nat.reduceLT, ne_eq, not_false_eq_true, not_true_eq_false, Int.reduceToNat, reduceIte, reduceCtorEq, true_and, and_true, implies_true, forall_const, decide_eq_true_eq, decide_eq_false_iff_not, Decidable.not_not, imp_self, and_self, decide_true, decide_false, Int.reduceEq, Int.reduceLT, Int.reduceLE, eq_self, ↓avp_condG, condG_bool, ↓tf_arrow, ↓ft_arrow, k_law25_OpsCut_law25_begun.down, A_law25_begun, p_law25_begun, r_law25_begun, hl, gt_iff_lt, pick_of, pick_ot]
    simp only [vQ.down, vZ.down, vS.down, vE.down, Nat.reduceEqDiff, Nat.reduceAdd, Nat.reduceSub, Nat.reduceMul, Nat.reduceLeDiff, Nat.reduceLT, ne_eq, not_false_eq_true, not_true_eq_false, Int.reduceToNat, reduceIte, reduceCtorEq, true_and, and_true, implies_true, forall_const, decide_eq_true_eq, decide_eq_false_iff_not, Decidable.not_not, imp_self, and_self, decide_true, decide_false, Int.reduceEq, Int.reduceLT, Int.reduceLE, eq_self, ↓avp_condG, condG_bool, ↓tf_arrow, ↓ft_arrow, vT.down]
  by_cases hs : (100 : Int) < (s.length : Int)
  · simp only [vQ.down, vZ.down, vS.down, vE.down, Nat.reduceEqDiff, Nat.reduceAdd, Nat.reduceSub, Nat.reduceMul, Nat.reduceLeDiff, Nat.reduceLT, ne_eq, not_false_eq_true, not_true_eq_false, Int.reduceToNat, reduceIte, reduceCtorEq, true_and, and_true, implies_true, forall_const, decide_eq_true_eq, decide_eq_false_iff_not, Decidable.not_not, imp_self, and_self, decide_true, decide_false, Int.reduceEq, Int.reduceLT, Int.reduceLE, eq_self, ↓avp_condG, condG_bool, ↓tf_arrow, ↓ft_arrow, k_law25_OpsCut_law25_begun.down, A_law25_begun, p_law25_begun, r_law25_begun, hl, hs, gt_iff_lt, pick_of, pick_ot]
    simp only [vQ.down, vZ.down, vS.down, vE.down, Nat.reduceEqDiff, Nat.reduceAdd, Nat.reduceSub, Nat.reduceMul, Nat.reduceLeDiff, Nat.reduceLT, ne_eq, not_false_eq_true, not_true_eq_false, Int.reduceToNat, reduceIte, reduceCtorEq, true_and, and_true, implies_true, forall_const, decide_eq_true_eq, decide_eq_false_iff_not, Decidable.not_not, imp_self, and_self, decide_true, decide_false, Int.reduceEq, Int.reduceLT, Int.reduceLE, eq_self, ↓avp_condG, condG_bool, ↓tf_arrow, ↓ft_arrow, vT.down]
  simp only [vQ.down, vZ.down, vS.down, vE.down, Nat.reduceEqDiff, Nat.reduceAdd, Nat.reduceSub, Nat.reduceMul, Nat.reduceLeDiff, Nat.reduceLT, ne_eq, not_false_eq_true, not_true_eq_false, Int.reduceToNat, reduceIte, reduceCtorEq, true_and, and_true, implies_true, forall_const, decide_eq_true_eq, decide_eq_false_iff_not, Decidable.not_not, imp_self, and_self, decide_true, decide_false, Int.reduceEq, Int.reduceLT, Int.reduceLE, eq_self, ↓avp_condG, condG_bool, ↓tf_arrow, ↓ft_arrow, k_law25_OpsCut_law25_begun.down, A_law25_begun, p_law25_begun, r_law25_begun, hl, hs, gt_iff_lt, pick_of, pick_ot, k_law25_OpsCut_law25_made.down, m_law25_made]
  refine made_any (by omega) (by omega) (by omega) fun v S L hv hg hm _ => ?_
  refine weak_at [(1, .t (.int .u16 (at_.toNat : Int))), (2, .t (.str s)), (7, .t (sl L))] .empty fewer_empty (by simp only [vQ.down, vZ.down, vS.down, vE.down, Nat.reduceEqDiff, Nat.reduceAdd, Nat.reduceSub, Nat.reduceMul, Nat.reduceLeDiff, Nat.reduceLT, ne_eq, not_false_eq_true, not_true_eq_false, Int.reduceToNat, reduceIte, reduceCtorEq, true_and, and_true, implies_true, forall_const, decide_eq_true_eq, decide_eq_false_iff_not, Decidable.not_not, imp_self, and_self, decide_true, decide_false, Int.reduceEq, Int.reduceLT, Int.reduceLE, eq_self, ↓avp_condG, condG_bool, ↓tf_arrow, ↓ft_arrow, wkAll_cons, wkAll_nil, w2_refl, w2_nil, w2_emp, empty_none]; exact hv.w2 fun _ _ => rfl) ?_
  clear hv
  have hmem : ∀ y ∈ L, good y = true := List.all_eq_true.1 hg
  have hpl := putL_len L
  have q1 : ∀ l : List TStep, (∀ y ∈ l, good y = true) → (∀ y ∈ l, smallS y) = True := fun l h => by simp only [eq_iff_iff, iff_true]; exact fun y hy => good_small (h y hy)
  have q2 : ∀ l : List TStep, (∀ y ∈ l, good y = true) → (∀ y ∈ l, y.Keep.length ≤ 1099511627776) = True := fun l h => by simp only [eq_iff_iff, iff_true]; exact fun y hy => by have := (good_of (h y hy)).2.2.1.2.2.2; omega
  obtain ⟨k, hk⟩ : ∃ k : Nat, k = at_.toNat % ((putL L).length + 1) := ⟨_, rfl⟩
  have hkl : k ≤ (putL L).length := by rw [hk]; have := Nat.mod_lt at_.toNat (show 0 < (putL L).length + 1 by omega); omega
  have hat := at_.toNat_lt
  have w1 : IntKind.i64.wrap (at_.toNat : Int) = (at_.toNat : Int) := IntWalk.i64_in _ (by omega)
  have w2 : IntKind.i64.wrap (((putL L).length : Int) + 1) = (((putL L).length + 1 : Nat) : Int) := by rw [IntWalk.i64_in _ (by omega)]; rfl
  have hrem : (at_.toNat : Int).tmod (((putL L).length + 1 : Nat) : Int) = (k : Int) := by rw [hk, Int.natCast_emod]; exact Int.tmod_eq_emod_of_nonneg (by omega)
  have hnz : ¬ (((putL L).length + 1 : Nat) : Int) = 0 := by omega
  obtain ⟨j, hj, hcut, hlast⟩ := takeS_cut L k hg hkl
  have hjm : ∀ y ∈ L.take j, good y = true := fun y hy => hmem y (List.mem_of_mem_take hy)
  have hjm1 : ∀ y ∈ L.take (j + 1), good y = true := fun y hy => hmem y (List.mem_of_mem_take hy)
  have hjl : (L.take j).length = j := by rw [List.length_take]; omega
  have h1 : L.length ≤ 1048576 := by omega
  have h1' : L.length ≤ 1099511627776 := by omega
  have h2 : ((putL L).take k).length ≤ 1099511627776 := by rw [List.length_take]; omega
  have h3 : s.length ≤ 1099511627776 := by omega
  have c1 : ¬ (L.length : Int) < (j : Int) := by omega
  have w3 : IntKind.i64.wrap ((j : Int) + 1) = ((j + 1 : Nat) : Int) := by rw [IntWalk.i64_in _ (by omega)]; rfl
  have q3 := q2 _ hjm
  have q4 := q1 _ hjm1
  have h4 : (L.take (j + 1)).length ≤ 1048576 := by rw [List.length_take]; omega
  have h5 : j ≤ 1099511627776 := by omega
  have hall : takeS (putL L ++ s) = L ++ takeS s := by rw [takeS_putL, filter_all hg]
  have h6 : (putL L ++ s).length ≤ 1099511627776 := by rw [List.length_append]; omega
  have h7 : ((putL L).length + s.length : Nat) ≤ 9223372036854775807 := by omega
  have htl := takeS_len _ s (Nat.le_refl _)
  obtain ⟨M, hM⟩ : ∃ M, M = takeS s := ⟨_, rfl⟩
  have hMg : ∀ y ∈ M, good y = true := by rw [hM]; exact List.all_eq_true.1 (takeS_good _ s (Nat.le_refl _)).1
  rw [← hM] at hall htl
  by_cases hjL : j < L.length
  · have c2 : (j : Int) < (L.length : Int) := by omega
    have c3 : ¬ ((putL (L.take (j + 1))).length : Int) ≤ (k : Int) := by have := hlast hjL; omega
    simp only [vQ.down, vZ.down, vS.down, vE.down, Nat.reduceEqDiff, Nat.reduceAdd, Nat.reduceSub, Nat.reduceMul, Nat.reduceLeDiff, Nat.reduceLT, ne_eq, not_false_eq_true, not_true_eq_false, Int.reduceToNat, reduceIte, reduceCtorEq, true_and, and_true, implies_true, forall_const, decide_eq_true_eq, decide_eq_false_iff_not, Decidable.not_not, imp_self, and_self, decide_true, decide_false, Int.reduceEq, Int.reduceLT, Int.reduceLE, eq_self, ↓avp_condG, condG_bool, ↓tf_arrow, ↓ft_arrow, w1, w2, hrem, hnz, q1 _ hmem, h1, h2, h3, hcut, hjl, c1, c2, c3, w3, q3, q4, h4, h5, h6, hall, ← hM, k_law25_OpsCut_ops_Take.down, A_ops_Take, p_ops_Take, r_ops_Take, k_law25_OpsCut_ops_Put.down, A_ops_Put, p_ops_Put, r_ops_Put, k_law25_OpsCut_ref25_SameSteps.down, A_ref25_SameSteps, p_ref25_SameSteps, r_ref25_SameSteps]
    exact ⟨⟨by omega, by omega⟩, ⟨by omega, by omega⟩, ⟨by omega, by omega⟩, h7, cut_tail h1' (q2 _ hMg) (q2 _ hmem) (by omega) hMg hmem (wk_to fewer_refl (by simp only [vQ.down, vZ.down, vS.down, vE.down, Nat.reduceEqDiff, Nat.reduceAdd, Nat.reduceSub, Nat.reduceMul, Nat.reduceLeDiff, Nat.reduceLT, ne_eq, not_false_eq_true, not_true_eq_false, Int.reduceToNat, reduceIte, reduceCtorEq, true_and, and_true, implies_true, forall_const, decide_eq_true_eq, decide_eq_false_iff_not, Decidable.not_not, imp_self, and_self, decide_true, decide_false, Int.reduceEq, Int.reduceLT, Int.reduceLE, eq_self, ↓avp_condG, condG_bool, ↓tf_arrow, ↓ft_arrow, wkAll_cons, wkAll_nil, w2_refl, w2_nil, w2_emp, empty_none]))⟩
  · have c2 : ¬ (j : Int) < (L.length : Int) := by omega
    simp only [vQ.down, vZ.down, vS.down, vE.down, Nat.reduceEqDiff, Nat.reduceAdd, Nat.reduceSub, Nat.reduceMul, Nat.reduceLeDiff, Nat.reduceLT, ne_eq, not_false_eq_true, not_true_eq_false, Int.reduceToNat, reduceIte, reduceCtorEq, true_and, and_true, implies_true, forall_const, decide_eq_true_eq, decide_eq_false_iff_not, Decidable.not_not, imp_self, and_self, decide_true, decide_false, Int.reduceEq, Int.reduceLT, Int.reduceLE, eq_self, ↓avp_condG, condG_bool, ↓tf_arrow, ↓ft_arrow, w1, w2, hrem, hnz, q1 _ hmem, h1, h2, h3, hcut, hjl, c1, c2, w3, q3, q4, h4, h5, h6, hall, ← hM, k_law25_OpsCut_ops_Take.down, A_ops_Take, p_ops_Take, r_ops_Take, k_law25_OpsCut_ops_Put.down, A_ops_Put, p_ops_Put, r_ops_Put, k_law25_OpsCut_ref25_SameSteps.down, A_ref25_SameSteps, p_ref25_SameSteps, r_ref25_SameSteps]
    exact ⟨⟨by omega, by omega⟩, ⟨by omega, by omega⟩, h7, cut_tail h1' (q2 _ hMg) (q2 _ hmem) (by omega) hMg hmem (wk_to fewer_refl (by simp only [vQ.down, vZ.down, vS.down, vE.down, Nat.reduceEqDiff, Nat.reduceAdd, Nat.reduceSub, Nat.reduceMul, Nat.reduceLeDiff, Nat.reduceLT, ne_eq, not_false_eq_true, not_true_eq_false, Int.reduceToNat, reduceIte, reduceCtorEq, true_and, and_true, implies_true, forall_const, decide_eq_true_eq, decide_eq_false_iff_not, Decidable.not_not, imp_self, and_self, decide_true, decide_false, Int.reduceEq, Int.reduceLT, Int.reduceLE, eq_self, ↓avp_condG, condG_bool, ↓tf_arrow, ↓ft_arrow, wkAll_cons, wkAll_nil, w2_refl, w2_nil, w2_emp, empty_none]))⟩
noncomputable def c_law25_OpsCut : Con := fnScal A_law25_OpsCut p_law25_OpsCut r_law25_OpsCut
theorem ok_law25_OpsCut : COk Try.prog 6 c_law25_OpsCut := fn_sok sys_law25_OpsCut mixed Try.func6 (by kernel_rfl) geq_law25_OpsCut Try.ntmps6 (by rw [Try.results6]) (fun x => by simp [rTrue, AV.scal]) fun x hx => ⟨Nat.le_of_ble_eq_true rfl, body_law25_OpsCut x hx⟩
theorem says_law25_OpsCut : SaysTrue Rows.opsCutSpec 3 := ⟨rfl, fun H ds h => by
  match ds, h with
  | [d0, d1, d2], _ => exact ⟨rfl, rfl, rfl⟩⟩
set_option maxRecDepth 100000 in
theorem lifted_law25_OpsCut (os : Os) (started : os.Started) (H : Type) (enc : TypeId × Value → H) :
    ReturnsInHanded {} Try.checked os 6 .any (Rows.opsCutSpec.pre6 enc Try.prog Try.f6 Rows.opsCutRow.domain false) (Rows.opsCutSpec.post enc Try.prog Try.f6 false true false false) := by
  refine returnsInHanded_of_change (C := Try.checked) own started (by kernel_rfl) Try.func6
    (ChangeSpec.witness6 (enc := enc) (C := Try.checked) false ⟨#[], #[.slice none 0 0, .int .u16 0, .string ⟨#[]⟩], []⟩ 8 (by kernel_rfl) (by kernel_rfl) (by kernel_rfl) (by kernel_rfl)) ?_
  intro W base args ds gs before hval hW _ _
  exact law_contract (ts := [25, 38, 9]) (tb := 4) ok_law25_OpsCut (by rw [Try.params6]) (by kernel_rfl) Try.underlying4 laid (by kernel_rfl) rd_law25_OpsCut (fun _ h => h) says_law25_OpsCut H enc W base args ds gs before hval hW
theorem over_law25_OpsCut : Rows.opsCutRow.holds Try.pinned (OpenSpec.ofChange Rows.opsCutSpec) :=
  OpenClaim.holds_of_wide 6 Try.f6 rfl rfl rfl rfl rfl rfl rfl ⟨rfl, rfl, rfl, rfl, rfl⟩ rfl rfl rfl rfl rfl (by kernel_rfl) Try.func6 (by kernel_rfl)
    (of_decide_eq_true (by kernel_rfl)) (by unfold Func.isWrapper; first | (rw [if_pos (by decide +kernel)]; kernel_rfl) | (rw [if_neg (by decide +kernel)]; exact ⟨rfl, rfl⟩))
    (fun os started H enc _ => lifted_law25_OpsCut os started H enc)
theorem opsCut_holds : Rows.OpsCutSaid := over_law25_OpsCut
end Go.Proofs.Ythhgaeeeppipnaa

