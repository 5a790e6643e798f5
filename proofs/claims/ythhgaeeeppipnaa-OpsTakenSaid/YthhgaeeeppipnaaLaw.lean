/-
  OpsTaken.
-/
import Derived.Test.YthhgaeeeppipnaaFnsD
set_option linter.unusedSimpArgs false
set_option linter.unusedVariables false
namespace Go.Proofs.Ythhgaeeeppipnaa
open Go Go.Eng
theorem takeS_len : ∀ (n : Nat) (b : List UInt8), b.length ≤ n → (takeS b).length ≤ b.length
  | 0, b, h => by
    obtain rfl := List.length_eq_zero_iff.1 (Nat.le_zero.1 h)
    exact Nat.le_refl _
  | n + 1, b, h => by
    by_cases hb : b = []
    · subst hb; exact Nat.le_refl _
    rw [takeS_step hb]
    by_cases hk : (takenS b).2.2 = true
    · have h1 := (takenS_ok (trip hk)).1
      have := takeS_len n (takenS b).2.1 (by omega)
      rw [if_pos hk]
      split
      · rw [List.length_cons]; omega
      · omega
    · rw [if_neg hk]; exact Nat.zero_le _
theorem good_small {x : TStep} (h : good x = true) : smallS x := by
  obtain ⟨_, _, ⟨a, b, c, d⟩, _⟩ := good_of h
  exact ⟨by omega, by omega, by omega, by omega⟩
def G_law25_OpsTaken : GCode := .seq (.region [⟨(some 4), none, .assign (.const (.bool false))⟩]) (.seq (.seq (.region [⟨(some 7), none, .call ⟨.value (.func 8), #[], #[]⟩⟩, ⟨(some 8), none, .unOp .not 4 (.tmp 7)⟩]) (.cond (.tmp 8) (.seq (.region [⟨(some 4), none, .assign (.const (.bool false))⟩]) (.ret)) (.skip))) (.seq (.seq (.region [⟨(some 9), none, .move (.tmp 0)⟩, ⟨(some 10), none, .call ⟨.builtin .len, #[.tmp 9], #[9]⟩⟩, ⟨(some 11), none, .binOp .gtr 3 (.tmp 10) (.const (.int .i64 200)) 3⟩]) (.cond (.tmp 11) (.seq (.region [⟨(some 4), none, .assign (.const (.bool true))⟩]) (.ret)) (.skip))) (.seq (.region [⟨(some 12), none, .move (.tmp 0)⟩, ⟨(some 13), none, .call ⟨.value (.func 13), #[.tmp 12], #[9]⟩⟩, ⟨(some 5), none, .assign (.tmp 13)⟩]) (.seq (.region [⟨(some 14), none, .move (.tmp 5)⟩, ⟨(some 15), none, .call ⟨.value (.func 10), #[.tmp 14], #[27]⟩⟩, ⟨(some 6), none, .assign (.tmp 15)⟩]) (.seq (.region [⟨(some 16), none, .move (.tmp 6)⟩, ⟨(some 17), none, .call ⟨.builtin .len, #[.tmp 16], #[9]⟩⟩, ⟨(some 18), none, .move (.tmp 0)⟩, ⟨(some 19), none, .call ⟨.builtin .len, #[.tmp 18], #[9]⟩⟩, ⟨(some 20), none, .binOp .leq 3 (.tmp 17) (.tmp 19) 3⟩, ⟨(some 21), none, .move (.tmp 20)⟩, ⟨(some 22), (some (21, true)), .move (.tmp 6)⟩, ⟨(some 23), (some (21, true)), .call ⟨.value (.func 13), #[.tmp 22], #[9]⟩⟩, ⟨(some 24), (some (21, true)), .move (.tmp 5)⟩, ⟨(some 25), (some (21, true)), .call ⟨.value (.func 12), #[.tmp 23, .tmp 24], #[27, 27]⟩⟩, ⟨(some 26), none, .pick (.tmp 21) (.tmp 25) (.const (.bool false))⟩, ⟨(some 27), none, .move (.tmp 26)⟩, ⟨(some 28), (some (27, true)), .move (.tmp 1)⟩, ⟨(some 29), (some (27, true)), .binOp .rem 5 (.tmp 28) (.const (.int .u8 40)) 5⟩, ⟨(some 30), (some (27, true)), .convert 5 3 (.tmp 29)⟩, ⟨(some 31), (some (27, true)), .makeSlice 25 (.tmp 30) (.tmp 30)⟩, ⟨(some 32), (some (27, true)), .convert 25 9 (.tmp 31)⟩, ⟨(some 33), (some (27, true)), .move (.tmp 0)⟩, ⟨(some 34), (some (27, true)), .binOp .add 9 (.tmp 32) (.tmp 33) 9⟩, ⟨(some 35), (some (27, true)), .call ⟨.value (.func 13), #[.tmp 34], #[9]⟩⟩, ⟨(some 36), (some (27, true)), .move (.tmp 5)⟩, ⟨(some 37), (some (27, true)), .call ⟨.value (.func 12), #[.tmp 35, .tmp 36], #[27, 27]⟩⟩, ⟨(some 38), none, .pick (.tmp 27) (.tmp 37) (.const (.bool false))⟩, ⟨(some 39), none, .move (.tmp 38)⟩, ⟨(some 40), (some (39, true)), .move (.tmp 6)⟩, ⟨(some 41), (some (39, true)), .call ⟨.value (.func 13), #[.tmp 40], #[9]⟩⟩, ⟨(some 42), (some (39, true)), .call ⟨.value (.func 10), #[.tmp 41], #[27]⟩⟩, ⟨(some 43), (some (39, true)), .move (.tmp 6)⟩, ⟨(some 44), (some (39, true)), .binOp .eql 9 (.tmp 42) (.tmp 43) 9⟩, ⟨(some 45), none, .pick (.tmp 39) (.tmp 44) (.const (.bool false))⟩, ⟨(some 4), none, .assign (.tmp 45)⟩]) (.ret))))))
noncomputable def l_law25_OpsTaken : List (Nat × Con) := [(8, c_law25_begun), (13, c_ops_Take), (10, c_ops_Put), (12, c_ref25_SameSteps)]
noncomputable abbrev K_law25_OpsTaken : Ctx := ctx (cl l_law25_OpsTaken)
theorem geq_law25_OpsTaken : gof K_law25_OpsTaken Try.f5 = some G_law25_OpsTaken.strip := by kernel_rfl
theorem sys_law25_OpsTaken : Go.Eng.Sys Try.prog K_law25_OpsTaken := sys_of' ⟨ok_law25_begun, ok_ops_Take, ok_ops_Put, ok_ref25_SameSteps, trivial⟩
theorem hm_law25_OpsTaken : ConMono K_law25_OpsTaken := conMono_of sys_law25_OpsTaken.con
noncomputable def k_law25_OpsTaken_law25_begun := PLift.up (call_scal (C := K_law25_OpsTaken) (f := 8) (A := A_law25_begun) (p := p_law25_begun) (r := r_law25_begun) rfl)
noncomputable def k_law25_OpsTaken_ops_Take := PLift.up (call_fn (C := K_law25_OpsTaken) (f := 13) (A := A_ops_Take) (p := p_ops_Take) (r := r_ops_Take) rfl)
noncomputable def k_law25_OpsTaken_ops_Put := PLift.up (call_scal (C := K_law25_OpsTaken) (f := 10) (A := A_ops_Put) (p := p_ops_Put) (r := r_ops_Put) rfl)
noncomputable def k_law25_OpsTaken_ref25_SameSteps := PLift.up (call_scal (C := K_law25_OpsTaken) (f := 12) (A := A_ref25_SameSteps) (p := p_ref25_SameSteps) (r := r_ref25_SameSteps) rfl)
noncomputable def A_law25_OpsTaken : Arms ((List UInt8) × Byt × Unit) := Arms.cons (argT (List UInt8)) (Arms.cons (argT Byt) (Arms.nil))
def p_law25_OpsTaken (x : (List UInt8) × Byt × Unit) : Prop := (goodStr x.1) ∧ (goodAny x.2.1) ∧ goodAny (x.2.2)
abbrev r_law25_OpsTaken (x : (List UInt8) × Byt × Unit) : AV := rTrue x
theorem rd_law25_OpsTaken : ReadsA Try.prog [9, 5] A_law25_OpsTaken p_law25_OpsTaken := (readsA_T (reads_str Try.underlying9) (by kernel_rfl) (readsA_T (reads_u8 Try.underlying5) (by kernel_rfl) readsA_nil))
set_option maxRecDepth 100000 in
set_option maxHeartbeats 4000000 in
theorem body_law25_OpsTaken (x) (hx : p_law25_OpsTaken x) : avp K_law25_OpsTaken G_law25_OpsTaken (Ret K_law25_OpsTaken [.tmp 4] fun v _ => v = r_law25_OpsTaken x) (entry (A_law25_OpsTaken.enc x) .empty) := by
  obtain ⟨s, n, ⟨⟩⟩ := x
  change avp _ _ (Ret _ _ fun v _ => v = .t (.bool true)) (entry [.t (.str s), .t (.int .u8 (n.v.toNat : Int))] .empty)
  unfold G_law25_OpsTaken
  by_cases hl : (200 : Int) < (s.length : Int)
  · simp only [vR.down, vr20.down, vr40.down, vr50.down, vr60.down, vr70.down, vr80.down, vr90.down, vr100.down, vr110.down, vr120.down, vr130.down, vS.down, vE.down, List.drop_succ_cons, List.drop_zero, List.take_succ_cons, List.take_zero, Nat.zero_add, Nat.reduceEqDiff, Nat.reduceAdd, Nat.reduceSub, Nat.reduceMul, Nat.reduceLeDiff, Nat.reduceLT, ne_eq, not_false_eq_true, not_true_eq_false, Int.reduceToNat, reduceIte, reduceCtorEq, true_and, and_true, implies_true, forall_const, List.map_cons, List.map_nil, Option.map_some, Option.map_none, Option.bind_some, Option.bind_some, List.append_nil, List.nil_append, List.length_cons, List.length_nil, List.getD_cons_zero, List.headD_cons, List.getD_cons_succ, Bool.false_eq_true, Nat.zero_lt_succ, vr30.down, Option.toList_some, Option.toList_none, List.cons_append, getD_byt, Int.toNat_natCast, decide_eq_true_eq, decide_eq_false_iff_not, Bool.not_eq_true', Bool.not_eq_false', Bool.and_eq_true, Bool.or_eq_true, Bool.or_eq_false_iff, Bool.and_eq_false_imp, Decidable.not_not, List.length_map, beq_true, beq_false, imp_self, and_self, Option.isSome_some, List.toList_toArray, decide_true, decide_false, Bool.and_true, Bool.true_and, Bool.and_false, Bool.false_and, Bool.or_true, Bool.true_or, Bool.or_false, Bool.false_or, Bool.not_true, Bool.not_false, Int.reduceEq, Int.reduceLT, Int.reduceLE, Int.cast_ofNat_Int, eq_self, Nat.reduceLeDiff, Nat.le_refl, Bool.not_not, ↓avp_condG, condG_bool, ↓tf_arrow, ↓ft_arrow, k_law25_OpsTaken_law25_begun.down, A_law25_begun, p_law25_begun, r_law25_begun, hl, gt_iff_lt]
    simp only [vR.down, vr20.down, vr40.down, vr50.down, vr60.down, vr70.down, vr80.down, vr90.down, vr100.down, vr110.down, vr120.down, vr130.down, vS.down, vE.down, List.drop_succ_cons, List.drop_zero, List.take_succ_cons, List.take_zero, Nat.zero_add, Nat.reduceEqDiff, Nat.reduceAdd, Nat.reduceSub, Nat.reduceMul, Nat.reduceLeDiff, Nat.reduceLT, ne_eq, not_false_eq_true, not_true_eq_false, Int.reduceToNat, reduceIte, reduceCtorEq, true_and, and_true, implies_true, forall_const, List.map_cons, List.map_nil, Option.map_some, Option.map_none, Option.bind_some, Option.bind_some, List.append_nil, List.nil_append, List.length_cons, List.length_nil, List.getD_cons_zero, List.headD_cons, List.getD_cons_succ, Bool.false_eq_true, Nat.zero_lt_succ, vr30.down, Option.toList_some, Option.toList_none, List.cons_append, getD_byt, Int.toNat_natCast, decide_eq_true_eq, decide_eq_false_iff_not, Bool.not_eq_true', Bool.not_eq_false', Bool.and_eq_true, Bool.or_eq_true, Bool.or_eq_false_iff, Bool.and_eq_false_imp, Decidable.not_not, List.length_map, beq_true, beq_false, imp_self, and_self, Option.isSome_some, List.toList_toArray, decide_true, decide_false, Bool.and_true, Bool.true_and, Bool.and_false, Bool.false_and, Bool.or_true, Bool.true_or, Bool.or_false, Bool.false_or, Bool.not_true, Bool.not_false, Int.reduceEq, Int.reduceLT, Int.reduceLE, Int.cast_ofNat_Int, eq_self, Nat.reduceLeDiff, Nat.le_refl, Bool.not_not, ↓avp_condG, condG_bool, ↓tf_arrow, ↓ft_arrow, vT.down]
  obtain ⟨l, hL⟩ : ∃ l, l = takeS s := ⟨_, rfl⟩
  obtain ⟨hg, ht⟩ := takeS_good _ s (Nat.le_refl _)
  rw [← hL] at hg ht
  have hll := takeS_len _ s (Nat.le_refl _)
  rw [← hL] at hll
  have hb := takeS_back hg
  obtain ⟨t, hT⟩ : ∃ t, t = putL l := ⟨_, rfl⟩
  rw [← hT] at ht hb
  have hm : ∀ y ∈ l, good y = true := List.all_eq_true.1 hg
  have q1 : (∀ y ∈ l, smallS y) = True := by simp only [eq_iff_iff, iff_true]; exact fun y hy => good_small (hm y hy)
  have q2 : (∀ y ∈ l, y.Keep.length ≤ 1099511627776) = True := by simp only [eq_iff_iff, iff_true]; exact fun y hy => by have := (good_of (hm y hy)).2.2.1.2.2.2; omega
  have h1 : s.length ≤ 1099511627776 := by omega
  have h2 : t.length ≤ 1099511627776 := by omega
  have h3 : l.length ≤ 1048576 := by omega
  have h4 : (t.length : Int) ≤ (s.length : Int) := by omega
  have h5 : l.length ≤ 1099511627776 := by omega
  obtain ⟨k, hk⟩ : ∃ k : Nat, k = n.v.toNat % 40 := ⟨_, rfl⟩
  have hrem : (n.v.toNat : Int).tmod 40 = (k : Int) := by rw [Int.tmod_eq_emod_of_nonneg (by omega)]; omega
  have hwr : IntKind.i64.wrap (k : Int) = (k : Int) := IntWalk.i64_in _ (by omega)
  have hmk := madeB_sl (k := .i64) (k' := .i64) (l := (k : Int)) (c := (k : Int)) (C := K_law25_OpsTaken) ty_Luint8 ty_uint8
  have hrep : u8s? (List.replicate k [TV.int .u8 0]) = some (List.replicate k 0) := by
    clear hk hrem hwr hmk
    induction k with
    | zero => rfl
    | succ k ih => rw [List.replicate_succ, u8s?, ih]; rfl
  have hz := takeS_zeros k s
  have hcv : convB K_law25_OpsTaken Store.empty 25 9 (.t (.seq 1 (List.replicate k [TV.int .u8 0]))) = .val True (.t (.str (List.replicate k 0))) := by simp [convB, ty_Luint8, ty_uint8, ty_string, hrep]
  have hzl : (List.replicate k (0 : UInt8) ++ s).length ≤ 1099511627776 := by rw [List.length_append, List.length_replicate]; omega
  simp only [vR.down, vr20.down, vr40.down, vr50.down, vr60.down, vr70.down, vr80.down, vr90.down, vr100.down, vr110.down, vr120.down, vr130.down, vS.down, vE.down, List.drop_succ_cons, List.drop_zero, List.take_succ_cons, List.take_zero, Nat.zero_add, Nat.reduceEqDiff, Nat.reduceAdd, Nat.reduceSub, Nat.reduceMul, Nat.reduceLeDiff, Nat.reduceLT, ne_eq, not_false_eq_true, not_true_eq_false, Int.reduceToNat, reduceIte, reduceCtorEq, true_and, and_true, implies_true, forall_const, List.map_cons, List.map_nil, Option.map_some, Option.map_none, Option.bind_some, Option.bind_some, List.append_nil, List.nil_append, List.length_cons, List.length_nil, List.getD_cons_zero, List.headD_cons, List.getD_cons_succ, Bool.false_eq_true, Nat.zero_lt_succ, vr30.down, Option.toList_some, Option.toList_none, List.cons_append, getD_byt, Int.toNat_natCast, decide_eq_true_eq, decide_eq_false_iff_not, Bool.not_eq_true', Bool.not_eq_false', Bool.and_eq_true, Bool.or_eq_true, Bool.or_eq_false_iff, Bool.and_eq_false_imp, Decidable.not_not, List.length_map, beq_true, beq_false, imp_self, and_self, Option.isSome_some, List.toList_toArray, decide_true, decide_false, Bool.and_true, Bool.true_and, Bool.and_false, Bool.false_and, Bool.or_true, Bool.true_or, Bool.or_false, Bool.false_or, Bool.not_true, Bool.not_false, Int.reduceEq, Int.reduceLT, Int.reduceLE, Int.cast_ofNat_Int, eq_self, Nat.reduceLeDiff, Nat.le_refl, Bool.not_not, ↓avp_condG, condG_bool, ↓tf_arrow, ↓ft_arrow, k_law25_OpsTaken_law25_begun.down, A_law25_begun, p_law25_begun, r_law25_begun, hl, gt_iff_lt, k_law25_OpsTaken_ops_Take.down, A_ops_Take, p_ops_Take, r_ops_Take, k_law25_OpsTaken_ops_Put.down, A_ops_Put, p_ops_Put, r_ops_Put, k_law25_OpsTaken_ref25_SameSteps.down, A_ref25_SameSteps, p_ref25_SameSteps, r_ref25_SameSteps, ← hL, ← hT, hb, q1, q2, h1, h2, h3, h4, h5, og_makeSlice, hrem, hwr, hmk, hcv, hz, hzl, List.length_replicate]
  refine ⟨⟨by omega, by omega, by omega, by omega⟩, by omega, ?_⟩
  simp only [vR.down, vr20.down, vr40.down, vr50.down, vr60.down, vr70.down, vr80.down, vr90.down, vr100.down, vr110.down, vr120.down, vr130.down, vS.down, vE.down, List.drop_succ_cons, List.drop_zero, List.take_succ_cons, List.take_zero, Nat.zero_add, Nat.reduceEqDiff, Nat.reduceAdd, Nat.reduceSub, Nat.reduceMul, Nat.reduceLeDiff, Nat.reduceLT, ne_eq, not_false_eq_true, not_true_eq_false, Int.reduceToNat, reduceIte, reduceCtorEq, true_and, and_true, implies_true, forall_const, List.map_cons, List.map_nil, Option.map_some, Option.map_none, Option.bind_some, Option.bind_some, List.append_nil, List.nil_append, List.length_cons, List.length_nil, List.getD_cons_zero, List.headD_cons, List.getD_cons_succ, Bool.false_eq_true, Nat.zero_lt_succ, vr30.down, Option.toList_some, Option.toList_none, List.cons_append, getD_byt, Int.toNat_natCast, decide_eq_true_eq, decide_eq_false_iff_not, Bool.not_eq_true', Bool.not_eq_false', Bool.and_eq_true, Bool.or_eq_true, Bool.or_eq_false_iff, Bool.and_eq_false_imp, Decidable.not_not, List.length_map, beq_true, beq_false, imp_self, and_self, Option.isSome_some, List.toList_toArray, decide_true, decide_false, Bool.and_true, Bool.true_and, Bool.and_false, Bool.false_and, Bool.or_true, Bool.true_or, Bool.or_false, Bool.false_or, Bool.not_true, Bool.not_false, Int.reduceEq, Int.reduceLT, Int.reduceLE, Int.cast_ofNat_Int, eq_self, Nat.reduceLeDiff, Nat.le_refl, Bool.not_not, ↓avp_condG, condG_bool, ↓tf_arrow, ↓ft_arrow, vT.down]
noncomputable def c_law25_OpsTaken : Con := fnScal A_law25_OpsTaken p_law25_OpsTaken r_law25_OpsTaken
theorem ok_law25_OpsTaken : COk Try.prog 5 c_law25_OpsTaken := fn_sok sys_law25_OpsTaken mixed Try.func5 (by kernel_rfl) geq_law25_OpsTaken Try.ntmps5 (by rw [Try.results5]) (fun x => by simp [rTrue, AV.scal]) fun x hx => ⟨Nat.le_of_ble_eq_true rfl, body_law25_OpsTaken x hx⟩
theorem says_law25_OpsTaken : SaysTrue Rows.opsTakenSpec 2 := ⟨rfl, fun H ds h => by
  match ds, h with
  | [d0, d1], _ => exact ⟨rfl, rfl, rfl⟩⟩
set_option maxRecDepth 100000 in
theorem lifted_law25_OpsTaken (os : Os) (started : os.Started) (H : Type) (enc : TypeId × Value → H) :
    ReturnsInHanded {} Try.checked os 5 .any (Rows.opsTakenSpec.pre6 enc Try.prog Try.f5 Rows.opsTakenRow.domain false) (Rows.opsTakenSpec.post enc Try.prog Try.f5 false true false false) := by
  refine returnsInHanded_of_change (C := Try.checked) own started (by kernel_rfl) Try.func5
    (ChangeSpec.witness6 (enc := enc) (C := Try.checked) false ⟨#[], #[.string ⟨#[]⟩, .int .u8 0], []⟩ 8 (by kernel_rfl) (by kernel_rfl) (by kernel_rfl) (by kernel_rfl)) ?_
  intro W base args ds gs before hval hW _ _
  exact law_contract (ts := [9, 5]) (tb := 4) ok_law25_OpsTaken (by rw [Try.params5]) (by kernel_rfl) Try.underlying4 laid (by kernel_rfl) rd_law25_OpsTaken (fun _ h => h) says_law25_OpsTaken H enc W base args ds gs before hval hW
theorem over_law25_OpsTaken : Rows.opsTakenRow.holds Try.pinned (OpenSpec.ofChange Rows.opsTakenSpec) :=
  OpenClaim.holds_of_wide 5 Try.f5 rfl rfl rfl rfl rfl rfl rfl ⟨rfl, rfl, rfl, rfl, rfl⟩ rfl rfl rfl rfl rfl (by kernel_rfl) Try.func5 (by kernel_rfl)
    (of_decide_eq_true (by kernel_rfl)) (by unfold Func.isWrapper; first | (rw [if_pos (by decide +kernel)]; kernel_rfl) | (rw [if_neg (by decide +kernel)]; exact ⟨rfl, rfl⟩))
    (fun os started H enc _ => lifted_law25_OpsTaken os started H enc)
theorem opsTaken_holds : Rows.OpsTakenSaid := over_law25_OpsTaken
end Go.Proofs.Ythhgaeeeppipnaa

