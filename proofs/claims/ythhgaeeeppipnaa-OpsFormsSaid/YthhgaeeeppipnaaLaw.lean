/-
  OpsTaken.
-/
import Derived.Test.YthhgaeeeppipnaaFnsB
set_option linter.unusedSimpArgs false
set_option linter.unusedVariables false
namespace Go.Proofs.Ythhgaeeeppipnaa
open Go Go.Eng
theorem takeS_len : ∀ (n : Nat) (b : List UInt8), b.length ≤ n → (takeS b).length ≤ b.length
  | 0, b, h => by
    obtain rfl := List.length_eq_zero_iff.1 (Nat.le_zero.1 h)
    exact Nat.le_refl _
  | n + 1, b, h => by
    by_cases hb : b = []
    · subst hb; exact Nat.le_refl _
    rw [takeS_step hb]
    by_cases hk : (takenS b).2.2 = true
    · have h1 := (takenS_ok (trip hk)).1
      have := takeS_len n (takenS b).2.1 (by omega)
      rw [if_pos hk]
      split
      · rw [List.length_cons]; omega
      · omega
    · rw [if_neg hk]; exact Nat.zero_le _
theorem good_small {x : TStep} (h : good x = true) : smallS x := by
  obtain ⟨_, _, ⟨a, b, c, d⟩, _⟩ := good_of h
  exact ⟨by omega, by omega, by omega, by omega⟩
def G_law25_OpsTaken : GCode := .seq (.region [⟨(some 4), none, .assign (.const (.bool false))⟩]) (.seq (.seq (.region [⟨(some 7), none, .call ⟨.value (.func 8), #[], #[]⟩⟩, ⟨(some 8), none, .unOp .not 4 (.tmp 7)⟩]) (.cond (.tmp 8) (.seq (.region [⟨(some 4), none, .assign (.const (.bool false))⟩]) (.ret)) (.skip))) (.seq (.seq (.region [⟨(some 9), none, .move (.tmp 0)⟩, ⟨(some 10), none, .call ⟨.builtin .len, #[.tmp 9], #[9]⟩⟩, ⟨(some 11), none, .binOp .gtr 3 (.tmp 10) (.const (.int .i64 200)) 3⟩]) (.cond (.tmp 11) (.seq (.region [⟨(some 4), none, .assign (.const (.bool true))⟩]) (.ret)) (.skip))) (.seq (.region [⟨(some 12), none, .move (.tmp 0)⟩, ⟨(some 13), none, .call ⟨.value (.func 13), #[.tmp 12], #[9]⟩⟩, ⟨(some 5), none, .assign (.tmp 13)⟩]) (.seq (.region [⟨(some 14), none, .move (.tmp 5)⟩, ⟨(some 15), none, .call ⟨.value (.func 10), #[.tmp 14], #[27]⟩⟩, ⟨(some 6), none, .assign (.tmp 15)⟩]) (.seq (.region [⟨(some 16), none, .move (.tmp 6)⟩, ⟨(some 17), none, .call ⟨.builtin .len, #[.tmp 16], #[9]⟩⟩, ⟨(some 18), none, .move (.tmp 0)⟩, ⟨(some 19), none, .call ⟨.builtin .len, #[.tmp 18], #[9]⟩⟩, ⟨(some 20), none, .binOp .leq 3 (.tmp 17) (.tmp 19) 3⟩, ⟨(some 21), none, .move (.tmp 20)⟩, ⟨(some 22), (some (21, true)), .move (.tmp 6)⟩, ⟨(some 23), (some (21, true)), .call ⟨.value (.func 13), #[.tmp 22], #[9]⟩⟩, ⟨(some 24), (some (21, true)), .move (.tmp 5)⟩, ⟨(some 25), (some (21, true)), .call ⟨.value (.func 12), #[.tmp 23, .tmp 24], #[27, 27]⟩⟩, ⟨(some 26), none, .pick (.tmp 21) (.tmp 25) (.const (.bool false))⟩, ⟨(some 27), none, .move (.tmp 26)⟩, ⟨(some 28), (some (27, true)), .move (.tmp 1)⟩, ⟨(some 29), (some (27, true)), .binOp .rem 5 (.tmp 28) (.const (.int .u8 40)) 5⟩, ⟨(some 30), (some (27, true)), .convert 5 3 (.tmp 29)⟩, ⟨(some 31), (some (27, true)), .makeSlice 25 (.tmp 30) (.tmp 30)⟩, ⟨(some 32), (some (27, true)), .convert 25 9 (.tmp 31)⟩, ⟨(some 33), (some (27, true)), .move (.tmp 0)⟩, ⟨(some 34), (some (27, true)), .binOp .add 9 (.tmp 32) (.tmp 33) 9⟩, ⟨(some 35), (some (27, true)), .call ⟨.value (.func 13), #[.tmp 34], #[9]⟩⟩, ⟨(some 36), (some (27, true)), .move (.tmp 5)⟩, ⟨(some 37), (some (27, true)), .call ⟨.value (.func 12), #[.tmp 35, .tmp 36], #[27, 27]⟩⟩, ⟨(some 38), none, .pick (.tmp 27) (.tmp 37) (.const (.bool false))⟩, ⟨(some 39), none, .move (.tmp 38)⟩, ⟨(some 40), (some (39, true)), .move (.tmp 6)⟩, ⟨(some 41), (some (39, true)), .call ⟨.value (.func 13), #[.tmp 40], #[9]⟩⟩, ⟨(some 42), (some (39, true)), .call ⟨.value (.func 10), #[.tmp 41], #[27]⟩⟩, ⟨(some 43), (some (39, true)), .move (.tmp 6)⟩, ⟨(some 44), (some (39, true)), .binOp .eql 9 (.tmp 42) (.tmp 43) 9⟩, ⟨(some 45), none, .pick (.tmp 39) (.tmp 44) (.const (.bool false))⟩, ⟨(some 4), none, .assign (.tmp 45)⟩]) (.ret))))))
noncomputable def l_law25_OpsTaken : List (Nat × Con) := [(8, c_law25_begun), (13, c_ops_Take), (10, c_ops_Put), (12, c_ref25_SameSteps)]
noncomputable abbrev K_law25_OpsTaken : Ctx := ctx (cl l_law25_OpsTaken)
theorem geq_law25_OpsTaken : gof K_law25_OpsTaken Try.f5 = some G_law25_OpsTaken.strip := by kernel_rfl
theorem sys_law25_OpsTaken : Go.Eng.Sys Try.prog K_law25_OpsTaken := sys_of' ⟨ok_law25_begun, ok_ops_Take, ok_ops_Put, ok_ref25_SameSteps, trivial⟩
theorem hm_law25_OpsTaken : ConMono K_law25_OpsTaken := conMono_of sys_law25_OpsTaken.con
noncomputable def k_law25_OpsTaken_law25_begun := PLift.up (call_scal (C := K_law25_OpsTaken) (f := 8) (A := A_law25_begun) (p := p_law25_begun) (r := r_law25_begun) rfl)
noncomputable def k_law25_OpsTaken_ops_Take := PLift.up (call_fn (C := K_law25_OpsTaken) (f := 13) (A := A_ops_Take) (p := p_ops_Take) (r := r_ops_Take) rfl)
noncomputable def k_law25_OpsTaken_ops_Put := PLift.up (call_scal (C := K_law25_OpsTaken) (f := 10) (A := A_ops_Put) (p := p_ops_Put) (r := r_ops_Put) rfl)
noncomputable def k_law25_OpsTaken_ref25_SameSteps := PLift.up (call_scal (C := K_law25_OpsTaken) (f := 12) (A := A_ref25_SameSteps) (p := p_ref25_SameSteps) (r := r_ref25_SameSteps) rfl)
noncomputable def A_law25_OpsTaken : Arms ((List UInt8) × Byt × Unit) := Arms.cons (argT (List UInt8)) (Arms.cons (argT Byt) (Arms.nil))
def p_law25_OpsTaken (x : (List UInt8) × Byt × Unit) : Prop := (goodStr x.1) ∧ (goodAny x.2.1) ∧ goodAny (x.2.2)
abbrev r_law25_OpsTaken (x : (List UInt8) × Byt × Unit) : AV := rTrue x
theorem rd_law25_OpsTaken : ReadsA Try.prog [9, 5] A_law25_OpsTaken p_law25_OpsTaken := (readsA_T (reads_str Try.underlying9) (by kernel_rfl) (readsA_T (reads_u8 Try.underlying5) (by kernel_rfl) readsA_nil))
set_option maxRecDepth 100000 in
set_option maxHeartbeats 4000000 in
theorem body_law25_OpsTaken (x) (hx : p_law25_OpsTaken x) : avp K_law25_OpsTaken G_law25_OpsTaken (Ret K_law25_OpsTaken [.tmp 4] fun v _ => v = r_law25_OpsTaken x) (entry (A_law25_OpsTaken.enc x) .empty) := by
  obtain ⟨s, n, ⟨⟩⟩ := x
  change avp _ _ (Ret _ _ fun v _ => v = .t (.bool true)) (entry [.t (.str s), .t (.int .u8 (n.v.toNat : Int))] .empty)
  unfold G_law25_OpsTaken
  by_cases hl : (200 : Int) < (s.length : Int)
  · simp only [vQ.down, vZ.down, vS.down, vE.down, Nat.reduceEqDiff, Nat.reduceAdd, Nat.reduceSub, Nat.reduceMul, Nat.reduceLeDiff, Nat.reduceLT, ne_eq, not_false_eq_true, not_true_eq_false, Int.reduceToNat, reduceIte, reduceCtorEq, true_and, and_true, implies_true, forall_const, decide_eq_true_eq, decide_eq_false_iff_not, Decidable.not_not, imp_self, and_self, decide_true, decide_false, Int.reduceEq, Int.reduceLT, Int.reduceLE, eq_self, ↓avp_condG, condG_bool, ↓tf_arrow, ↓ft_arrow, k_law25_OpsTaken_law25_begun.down, A_law25_begun, p_law25_begun, r_law25_begun, hl, gt_iff_lt]
    simp only [vQ.down, vZ.down, vS.down, vE.down, Nat.reduceEqDiff, Nat.reduceAdd, Nat.reduceSub, Nat.reduceMul, Nat.reduceLeDiff, Nat.reduceLT, ne_eq, not_false_eq_true, not_true_eq_false, Int.reduceToNat, reduceIte, reduceCtorEq, true_and, and_true, implies_true, forall_const, decide_eq_true_eq, decide_eq_false_iff_not, Decidable.not_not, imp_self, and_self, decide_true, decide_false, Int.reduceEq, Int.reduceLT, Int.reduceLE, eq_self, ↓avp_condG, condG_bool, ↓tf_arrow, ↓ft_arrow, vT.down]
  obtain ⟨l, hL⟩ : ∃ l, l = takeS s := ⟨_, rfl⟩
  obtain ⟨hg, ht⟩ := takeS_good _ s (Nat.le_refl _)
  rw [← hL] at hg ht
  have hll := takeS_len _ s (Nat.le_refl _)
  rw [← hL] at hll
  have hb := takeS_back hg
  obtain ⟨t, hT⟩ : ∃ t, t = putL l := ⟨_, rfl⟩
  rw [← hT] at ht hb
  have hm : ∀ y ∈ l, good y = true := List.all_eq_true.1 hg
  have q1 : (∀ y ∈ l, smallS y) = True := by simp only [eq_iff_iff, iff_true]; exact fun y hy => good_small (hm y hy)
  have q2 : (∀ y ∈ l, y.Keep.length ≤ 1099511627776) = True := by simp only [eq_iff_iff, iff_true]; exact fun y hy => by have := (good_of (hm y hy)).2.2.1.2.2.2; omega
  have h1 : s.length ≤ 1099511627776 := by omega
  have h2 : t.length ≤ 1099511627776 := by omega
  have h3 : l.length ≤ 1048576 := by omega
  have h4 : (t.length : Int) ≤ (s.length : Int) := by omega
  have h5 : l.length ≤ 1099511627776 := by omega
  obtain ⟨k, hk⟩ : ∃ k : Nat, k = n.v.toNat % 40 := ⟨_, rfl⟩
  have hrem : (n.v.toNat : Int).tmod 40 = (k : Int) := by rw [Int.tmod_eq_emod_of_nonneg (by omega)]; omega
  have hwr : IntKind.i64.wrap (k : Int) = (k : Int) := IntWalk.i64_in _ (by omega)
  have hmk := madeB_sl (k := .i64) (k' := .i64) (l := (k : Int)) (c := (k : Int)) (C := K_law25_OpsTaken) ty_Luint8 ty_uint8
  have hrep : u8s? (List.replicate k [TV.int .u8 0]) = some (List.replicate k 0) := by
    clear hk hrem hwr hmk
    induction k with
    | zero => rfl
    | succ k ih => rw [List.replicate_succ, u8s?, ih]; rfl
  have hz := takeS_zeros k s
  have hcv : convB K_law25_OpsTaken Store.empty 25 9 (.t (.seq 1 (List.replicate k [TV.int .u8 0]))) = .val True (.t (.str (List.replicate k 0))) := by simp [convB, ty_Luint8, ty_uint8, ty_string, hrep]
  have hzl : (List.replicate k (0 : UInt8) ++ s).length ≤ 1099511627776 := by rw [List.length_append, List.length_replicate]; omega
  simp only [vQ.down, vZ.down, vS.down, vE.down, Nat.reduceEqDiff, Nat.reduceAdd, Nat.reduceSub, Nat.reduceMul, Nat.reduceLeDiff, Nat.reduceLT, ne_eq, not_false_eq_true, not_true_eq_false, Int.reduceToNat, reduceIte, reduceCtorEq, true_and, and_true, implies_true, forall_const, decide_eq_true_eq, decide_eq_false_iff_not, Decidable.not_not, imp_self, and_self, decide_true, decide_false, Int.reduceEq, Int.reduceLT, Int.reduceLE, eq_self, ↓avp_condG, condG_bool, ↓tf_arrow, ↓ft_arrow, k_law25_OpsTaken_law25_begun.down, A_law25_begun, p_law25_begun, r_law25_begun, hl, gt_iff_lt, k_law25_OpsTaken_ops_Take.down, A_ops_Take, p_ops_Take, r_ops_Take, k_law25_OpsTaken_ops_Put.down, A_ops_Put, p_ops_Put, r_ops_Put, k_law25_OpsTaken_ref25_SameSteps.down, A_ref25_SameSteps, p_ref25_SameSteps, r_ref25_SameSteps, ← hL, ← hT, hb, q1, q2, h1, h2, h3, h4, h5, og_makeSlice, hrem, hwr, hmk, hcv, hz, hzl, List.length_replicate]
  refine ⟨⟨by omega, by omega, by omega, by omega⟩, by omega, ?_⟩
  simp only [vQ.down, vZ.down, vS.down, vE.down, Nat.reduceEqDiff, Nat.reduceAdd, Nat.reduceSub, Nat.reduceMul, Nat.reduceLeDiff, Nat.reduceLT, ne_eq, not_false_eq_true, not_true_eq_false, Int.reduceToNat, reduceIte, reduceCtorEq, true_and, and_true, implies_true, forall_const, decide_eq_true_eq, decide_eq_false_iff_not, Decidable.not_not, imp_self, and_self, decide_true, decide_false, Int.reduceEq, Int.reduceLT, Int.reduceLE, eq_self, ↓avp_condG, condG_bool, ↓tf_arrow, ↓ft_arrow, vT.down]
noncomputable def c_law25_OpsTaken : Con := fnScal A_law25_OpsTaken p_law25_OpsTaken r_law25_OpsTaken
theorem ok_law25_OpsTaken : COk Try.prog 5 c_law25_OpsTaken := fn_sok sys_law25_OpsTaken mixed Try.func5 (by kernel_rfl) geq_law25_OpsTaken Try.ntmps5 (by rw [Try.results5]) (fun x => by simp [rTrue, AV.scal]) fun x hx => ⟨Nat.le_of_ble_eq_true rfl, body_law25_OpsTaken x hx⟩
theorem says_law25_OpsTaken : SaysTrue Rows.opsTakenSpec 2 := ⟨rfl, fun H ds h => by
  match ds, h with
  | [d0, d1], _ => exact ⟨rfl, rfl, rfl⟩⟩
set_option maxRecDepth 100000 in
theorem lifted_law25_OpsTaken (os : Os) (started : os.Started) (H : Type) (enc : TypeId × Value → H) :
    ReturnsInHanded {} Try.checked os 5 .any (Rows.opsTakenSpec.pre6 enc Try.prog Try.f5 Rows.opsTakenRow.domain false) (Rows.opsTakenSpec.post enc Try.prog Try.f5 false true false false) := by
  refine returnsInHanded_of_change (C := Try.checked) own started (by kernel_rfl) Try.func5
    (ChangeSpec.witness6 (enc := enc) (C := Try.checked) false ⟨#[], #[.string ⟨#[]⟩, .int .u8 0], []⟩ 8 (by kernel_rfl) (by kernel_rfl) (by kernel_rfl) (by kernel_rfl)) ?_
  intro W base args ds gs before hval hW _ _
  exact law_contract (ts := [9, 5]) (tb := 4) ok_law25_OpsTaken (by rw [Try.params5]) (by kernel_rfl) Try.underlying4 laid (by kernel_rfl) rd_law25_OpsTaken (fun _ h => h) says_law25_OpsTaken H enc W base args ds gs before hval hW
theorem over_law25_OpsTaken : Rows.opsTakenRow.holds Try.pinned (OpenSpec.ofChange Rows.opsTakenSpec) :=
  OpenClaim.holds_of_wide 5 Try.f5 rfl rfl rfl rfl rfl rfl rfl ⟨rfl, rfl, rfl, rfl, rfl⟩ rfl rfl rfl rfl rfl (by kernel_rfl) Try.func5 (by kernel_rfl)
    (of_decide_eq_true (by kernel_rfl)) (by unfold Func.isWrapper; first | (rw [if_pos (by decide +kernel)]; kernel_rfl) | (rw [if_neg (by decide +kernel)]; exact ⟨rfl, rfl⟩))
    (fun os started H enc _ => lifted_law25_OpsTaken os started H enc)
theorem opsTaken_holds : Rows.OpsTakenSaid := over_law25_OpsTaken
end Go.Proofs.Ythhgaeeeppipnaa


namespace Go.Proofs.Ythhgaeeeppipnaa
open Go Go.Eng
def fA : TStep := ⟨21, 0, 0, 0, 0, [], [], [], [1, 3]⟩
def fE : TStep := ⟨22, 0, 5, 256, 128, [], [], [], []⟩
def fK : TStep := ⟨21, 0, 0, 0, 0, [], [], [], List.replicate 60 0⟩
def noneL : List TStep := [⟨0, 0, 0, 0, 0, [], [], [], []⟩, ⟨23, 0, 0, 0, 0, [], [], [], []⟩, ⟨-1, 0, 0, 0, 0, [], [], [], []⟩, ⟨1, 65536, 0, 0, 0, [], [], [], []⟩, ⟨1, -1, 0, 0, 0, [], [], [], []⟩, ⟨1, 0, 0, 1, 0, [], [], [], []⟩, ⟨16, 0, 1, 0, 0, [], [], [], []⟩,
  ⟨21, 0, 0, 0, 0, [], [], [], [4]⟩, ⟨21, 0, 0, 0, 0, [], [], [], List.replicate 61 0⟩, ⟨22, 0, 0, 0, 256, [], [], [], []⟩, ⟨7, 0, 0, 0, 0, [], [97], [], []⟩, ⟨2, 0, 0, 0, 0, List.replicate 256 0, [], [], []⟩]
theorem hd_one' {x : TStep} : (argT (List TStep)).dec (.t (.seq 9 [[.int .i64 x.Kind, .int .i64 x.ID, .int .i64 x.N, .int .i64 x.M, .int .i64 x.By, .str x.Path, .str x.To, .str x.Text, sl x.Keep]])) = some [x] := argT_sl (l := [x])
theorem fm1 : takeS [21, 2, 5, 3] = [fA] := by decide +kernel
theorem fm2 : takeS (21 :: 61 :: List.replicate 70 0) = [] := by decide +kernel
theorem fm3 : takeS [38, 0, 1] = [sD] := by decide +kernel
theorem fm4 : takeS [3, 0, 1, 1, 97, 2, 98] = [] := by decide +kernel
theorem fm5 : takeS [22, 0, 5, 1, 0, 128, 16] = [fE, sC] := by decide +kernel
theorem fm6 : noneL.all (fun x => decide (putL [x] = [])) = true := by decide +kernel
theorem fm7 : putL noneL = [] := by decide +kernel
theorem fm8 : (putL [fK]).length = 62 := by decide +kernel
theorem fm9 : takeS [] = [] := rfl
theorem fm10 : putL [] = [] := rfl
def G_law25_OpsForms_16 : GCode := .seq (.seq .weak (.region [⟨(some 69), none, .move (.tmp 1)⟩, ⟨(some 70), none, .indexAddr 27 (.tmp 69) (.const (.int .i64 0))⟩, ⟨(some 71), none, .fieldAddr 24 (.tmp 70) 8⟩, ⟨(some 72), none, .load 22 (.tmp 71)⟩, ⟨(some 73), none, .indexAddr 22 (.tmp 72) (.const (.int .i64 0))⟩, ⟨(some 74), none, .load 3 (.tmp 73)⟩, ⟨(some 75), none, .binOp .eql 3 (.tmp 74) (.const (.int .i64 1)) 3⟩, ⟨(some 76), none, .move (.tmp 75)⟩, ⟨(some 77), (some (76, true)), .move (.tmp 1)⟩, ⟨(some 78), (some (76, true)), .indexAddr 27 (.tmp 77) (.const (.int .i64 0))⟩, ⟨(some 79), (some (76, true)), .fieldAddr 24 (.tmp 78) 8⟩, ⟨(some 80), (some (76, true)), .load 22 (.tmp 79)⟩, ⟨(some 81), (some (76, true)), .indexAddr 22 (.tmp 80) (.const (.int .i64 1))⟩, ⟨(some 82), (some (76, true)), .load 3 (.tmp 81)⟩, ⟨(some 83), (some (76, true)), .binOp .eql 3 (.tmp 82) (.const (.int .i64 3)) 3⟩, ⟨(some 84), none, .pick (.tmp 76) (.tmp 83) (.const (.bool false))⟩, ⟨(some 85), none, .move (.tmp 84)⟩, ⟨(some 86), (some (85, true)), .move (.tmp 2)⟩, ⟨(some 87), (some (85, true)), .call ⟨.builtin .len, #[.tmp 86], #[27]⟩⟩, ⟨(some 88), (some (85, true)), .binOp .eql 3 (.tmp 87) (.const (.int .i64 0)) 3⟩, ⟨(some 89), none, .pick (.tmp 85) (.tmp 88) (.const (.bool false))⟩, ⟨(some 90), none, .move (.tmp 89)⟩, ⟨(some 91), (some (90, true)), .move (.tmp 3)⟩, ⟨(some 92), (some (90, true)), .indexAddr 27 (.tmp 91) (.const (.int .i64 0))⟩, ⟨(some 93), (some (90, true)), .fieldAddr 24 (.tmp 92) 0⟩, ⟨(some 94), (some (90, true)), .load 3 (.tmp 93)⟩, ⟨(some 95), (some (90, true)), .binOp .eql 3 (.tmp 94) (.const (.int .i64 15)) 3⟩, ⟨(some 96), none, .pick (.tmp 90) (.tmp 95) (.const (.bool false))⟩, ⟨(some 97), none, .move (.tmp 96)⟩, ⟨(some 98), (some (97, true)), .move (.tmp 3)⟩, ⟨(some 99), (some (97, true)), .indexAddr 27 (.tmp 98) (.const (.int .i64 0))⟩, ⟨(some 100), (some (97, true)), .fieldAddr 24 (.tmp 99) 2⟩, ⟨(some 101), (some (97, true)), .load 3 (.tmp 100)⟩, ⟨(some 102), (some (97, true)), .binOp .eql 3 (.tmp 101) (.const (.int .i64 1)) 3⟩, ⟨(some 103), none, .pick (.tmp 97) (.tmp 102) (.const (.bool false))⟩, ⟨(some 104), none, .move (.tmp 103)⟩, ⟨(some 105), (some (104, true)), .move (.tmp 4)⟩, ⟨(some 106), (some (104, true)), .call ⟨.builtin .len, #[.tmp 105], #[27]⟩⟩, ⟨(some 107), (some (104, true)), .binOp .eql 3 (.tmp 106) (.const (.int .i64 0)) 3⟩, ⟨(some 108), none, .pick (.tmp 104) (.tmp 107) (.const (.bool false))⟩, ⟨(some 109), none, .move (.tmp 108)⟩, ⟨(some 110), (some (109, true)), .move (.tmp 5)⟩, ⟨(some 111), (some (109, true)), .indexAddr 27 (.tmp 110) (.const (.int .i64 0))⟩, ⟨(some 112), (some (109, true)), .fieldAddr 24 (.tmp 111) 2⟩, ⟨(some 113), (some (109, true)), .load 3 (.tmp 112)⟩, ⟨(some 114), (some (109, true)), .binOp .eql 3 (.tmp 113) (.const (.int .i64 5)) 3⟩, ⟨(some 115), none, .pick (.tmp 109) (.tmp 114) (.const (.bool false))⟩, ⟨(some 116), none, .move (.tmp 115)⟩, ⟨(some 117), (some (116, true)), .move (.tmp 5)⟩, ⟨(some 118), (some (116, true)), .indexAddr 27 (.tmp 117) (.const (.int .i64 0))⟩, ⟨(some 119), (some (116, true)), .fieldAddr 24 (.tmp 118) 3⟩, ⟨(some 120), (some (116, true)), .load 3 (.tmp 119)⟩, ⟨(some 121), (some (116, true)), .binOp .eql 3 (.tmp 120) (.const (.int .i64 256)) 3⟩, ⟨(some 122), none, .pick (.tmp 116) (.tmp 121) (.const (.bool false))⟩, ⟨(some 123), none, .move (.tmp 122)⟩, ⟨(some 124), (some (123, true)), .move (.tmp 5)⟩, ⟨(some 125), (some (123, true)), .indexAddr 27 (.tmp 124) (.const (.int .i64 0))⟩, ⟨(some 126), (some (123, true)), .fieldAddr 24 (.tmp 125) 4⟩, ⟨(some 127), (some (123, true)), .load 3 (.tmp 126)⟩, ⟨(some 128), (some (123, true)), .binOp .eql 3 (.tmp 127) (.const (.int .i64 128)) 3⟩, ⟨(some 129), none, .pick (.tmp 123) (.tmp 128) (.const (.bool false))⟩, ⟨(some 130), none, .move (.tmp 129)⟩, ⟨(some 131), (some (130, true)), .move (.tmp 5)⟩, ⟨(some 132), (some (130, true)), .indexAddr 27 (.tmp 131) (.const (.int .i64 1))⟩, ⟨(some 133), (some (130, true)), .fieldAddr 24 (.tmp 132) 0⟩, ⟨(some 134), (some (130, true)), .load 3 (.tmp 133)⟩, ⟨(some 135), (some (130, true)), .binOp .eql 3 (.tmp 134) (.const (.int .i64 16)) 3⟩, ⟨(some 136), none, .pick (.tmp 130) (.tmp 135) (.const (.bool false))⟩, ⟨(some 137), none, .move (.tmp 136)⟩, ⟨(some 138), (some (137, true)), .makeSlice 22 (.const (.int .i64 60)) (.const (.int .i64 60))⟩, ⟨(some 139), (some (137, true)), .build 24 #[(0, .const (.int .i64 21)), (8, .tmp 138)]⟩, ⟨(some 140), (some (137, true)), .buildSlice 27 1 #[(0, .tmp 139)]⟩, ⟨(some 141), (some (137, true)), .call ⟨.value (.func 10), #[.tmp 140], #[27]⟩⟩, ⟨(some 142), (some (137, true)), .call ⟨.builtin .len, #[.tmp 141], #[9]⟩⟩, ⟨(some 143), (some (137, true)), .binOp .eql 3 (.tmp 142) (.const (.int .i64 62)) 3⟩, ⟨(some 144), none, .pick (.tmp 137) (.tmp 143) (.const (.bool false))⟩, ⟨(some 145), none, .move (.tmp 144)⟩, ⟨(some 146), (some (145, true)), .call ⟨.value (.func 13), #[.const (.string ⟨#[]⟩)], #[9]⟩⟩, ⟨(some 147), (some (145, true)), .call ⟨.builtin .len, #[.tmp 146], #[27]⟩⟩, ⟨(some 148), (some (145, true)), .binOp .eql 3 (.tmp 147) (.const (.int .i64 0)) 3⟩, ⟨(some 149), none, .pick (.tmp 145) (.tmp 148) (.const (.bool false))⟩, ⟨(some 150), none, .move (.tmp 149)⟩, ⟨(some 151), (some (150, true)), .call ⟨.value (.func 10), #[.const (.slice none 0 0)], #[27]⟩⟩, ⟨(some 152), (some (150, true)), .binOp .eql 9 (.tmp 151) (.const (.string ⟨#[]⟩)) 9⟩, ⟨(some 153), none, .pick (.tmp 150) (.tmp 152) (.const (.bool false))⟩, ⟨(some 154), none, .move (.tmp 153)⟩, ⟨(some 155), (some (154, true)), .move (.tmp 6)⟩, ⟨(some 156), (some (154, true)), .call ⟨.value (.func 10), #[.tmp 155], #[27]⟩⟩, ⟨(some 157), (some (154, true)), .binOp .eql 9 (.tmp 156) (.const (.string ⟨#[]⟩)) 9⟩, ⟨(some 158), none, .pick (.tmp 154) (.tmp 157) (.const (.bool false))⟩, ⟨(some 0), none, .assign (.tmp 158)⟩])) (.ret)
def G_law25_OpsForms_11 : GCode := .seq (.seq (.seq .weak (.region [⟨(some 7), none, .assign (.const (.int .i64 0))⟩])) (.block 0 (.loop (.seq .weak (.seq (.seq (.region [⟨(some 56), none, .move (.tmp 7)⟩, ⟨(some 57), none, .move (.tmp 6)⟩, ⟨(some 58), none, .call ⟨.builtin .len, #[.tmp 57], #[27]⟩⟩, ⟨(some 59), none, .binOp .lss 3 (.tmp 56) (.tmp 58) 3⟩]) (.cond (.tmp 59) (.skip) (.exit 0))) (.seq (.block 1 (.seq (.region [⟨(some 62), none, .move (.tmp 6)⟩, ⟨(some 63), none, .move (.tmp 7)⟩, ⟨(some 64), none, .indexAddr 27 (.tmp 62) (.tmp 63)⟩, ⟨(some 65), none, .load 24 (.tmp 64)⟩, ⟨(some 66), none, .buildSlice 27 1 #[(0, .tmp 65)]⟩, ⟨(some 67), none, .call ⟨.value (.func 10), #[.tmp 66], #[27]⟩⟩, ⟨(some 68), none, .binOp .neq 9 (.tmp 67) (.const (.string ⟨#[]⟩)) 9⟩]) (.cond (.tmp 68) (.seq (.region [⟨(some 0), none, .assign (.const (.bool false))⟩]) (.ret)) (.skip)))) (.region [⟨(some 60), none, .move (.tmp 7)⟩, ⟨(some 61), none, .binOp .add 3 (.tmp 60) (.const (.int .i64 1)) 3⟩, ⟨(some 7), none, .assign (.tmp 61)⟩]))))))) (G_law25_OpsForms_16)
def G_law25_OpsForms : GCode := .seq (.region [⟨(some 0), none, .assign (.const (.bool false))⟩]) (.seq (.seq (.region [⟨(some 8), none, .call ⟨.value (.func 8), #[], #[]⟩⟩, ⟨(some 9), none, .unOp .not 4 (.tmp 8)⟩]) (.cond (.tmp 9) (.seq (.region [⟨(some 0), none, .assign (.const (.bool false))⟩]) (.ret)) (.skip))) (.seq (.region [⟨(some 10), none, .call ⟨.value (.func 13), #[.const (.string ⟨#[21, 2, 5, 3]⟩)], #[9]⟩⟩, ⟨(some 1), none, .assign (.tmp 10)⟩]) (.seq (.region [⟨(some 11), none, .makeSlice 25 (.const (.int .i64 70)) (.const (.int .i64 70))⟩, ⟨(some 12), none, .convert 25 9 (.tmp 11)⟩, ⟨(some 13), none, .binOp .add 9 (.const (.string ⟨#[21, 61]⟩)) (.tmp 12) 9⟩, ⟨(some 14), none, .call ⟨.value (.func 13), #[.tmp 13], #[9]⟩⟩, ⟨(some 2), none, .assign (.tmp 14)⟩]) (.seq (.region [⟨(some 15), none, .call ⟨.value (.func 13), #[.const (.string ⟨#[38, 0, 1]⟩)], #[9]⟩⟩, ⟨(some 3), none, .assign (.tmp 15)⟩]) (.seq (.region [⟨(some 16), none, .call ⟨.value (.func 13), #[.const (.string ⟨#[3, 0, 1, 1, 97, 2, 98]⟩)], #[9]⟩⟩, ⟨(some 4), none, .assign (.tmp 16)⟩]) (.seq (.region [⟨(some 17), none, .call ⟨.value (.func 13), #[.const (.string ⟨#[22, 0, 5, 1, 0, 128, 16]⟩)], #[9]⟩⟩, ⟨(some 5), none, .assign (.tmp 17)⟩]) (.seq (.seq (.seq .weak (.region [⟨(some 18), none, .move (.tmp 1)⟩, ⟨(some 19), none, .call ⟨.builtin .len, #[.tmp 18], #[27]⟩⟩, ⟨(some 20), none, .binOp .neq 3 (.tmp 19) (.const (.int .i64 1)) 3⟩, ⟨(some 21), none, .move (.tmp 20)⟩, ⟨(some 22), (some (21, false)), .move (.tmp 1)⟩, ⟨(some 23), (some (21, false)), .indexAddr 27 (.tmp 22) (.const (.int .i64 0))⟩, ⟨(some 24), (some (21, false)), .fieldAddr 24 (.tmp 23) 8⟩, ⟨(some 25), (some (21, false)), .load 22 (.tmp 24)⟩, ⟨(some 26), (some (21, false)), .call ⟨.builtin .len, #[.tmp 25], #[22]⟩⟩, ⟨(some 27), (some (21, false)), .binOp .neq 3 (.tmp 26) (.const (.int .i64 2)) 3⟩, ⟨(some 28), none, .pick (.tmp 21) (.const (.bool true)) (.tmp 27)⟩, ⟨(some 29), none, .move (.tmp 28)⟩, ⟨(some 30), (some (29, false)), .move (.tmp 3)⟩, ⟨(some 31), (some (29, false)), .call ⟨.builtin .len, #[.tmp 30], #[27]⟩⟩, ⟨(some 32), (some (29, false)), .binOp .neq 3 (.tmp 31) (.const (.int .i64 1)) 3⟩, ⟨(some 33), none, .pick (.tmp 29) (.const (.bool true)) (.tmp 32)⟩, ⟨(some 34), none, .move (.tmp 33)⟩, ⟨(some 35), (some (34, false)), .move (.tmp 5)⟩, ⟨(some 36), (some (34, false)), .call ⟨.builtin .len, #[.tmp 35], #[27]⟩⟩, ⟨(some 37), (some (34, false)), .binOp .neq 3 (.tmp 36) (.const (.int .i64 2)) 3⟩, ⟨(some 38), none, .pick (.tmp 34) (.const (.bool true)) (.tmp 37)⟩])) (.cond (.tmp 38) (.seq (.region [⟨(some 0), none, .assign (.const (.bool false))⟩]) (.ret)) (.skip))) (.seq (.region [⟨(some 39), none, .build 24 #[]⟩, ⟨(some 40), none, .build 24 #[(0, .const (.int .i64 23))]⟩, ⟨(some 41), none, .build 24 #[(0, .const (.int .i64 (-1)))]⟩, ⟨(some 42), none, .build 24 #[(0, .const (.int .i64 1)), (1, .const (.int .i64 65536))]⟩, ⟨(some 43), none, .build 24 #[(0, .const (.int .i64 1)), (1, .const (.int .i64 (-1)))]⟩, ⟨(some 44), none, .build 24 #[(0, .const (.int .i64 1)), (3, .const (.int .i64 1))]⟩, ⟨(some 45), none, .build 24 #[(0, .const (.int .i64 16)), (2, .const (.int .i64 1))]⟩, ⟨(some 46), none, .buildSlice 22 1 #[(0, .const (.int .i64 4))]⟩, ⟨(some 47), none, .build 24 #[(0, .const (.int .i64 21)), (8, .tmp 46)]⟩, ⟨(some 48), none, .makeSlice 22 (.const (.int .i64 61)) (.const (.int .i64 61))⟩, ⟨(some 49), none, .build 24 #[(0, .const (.int .i64 21)), (8, .tmp 48)]⟩, ⟨(some 50), none, .build 24 #[(0, .const (.int .i64 22)), (4, .const (.int .i64 256))]⟩, ⟨(some 51), none, .build 24 #[(0, .const (.int .i64 7)), (6, .const (.string ⟨#[97]⟩))]⟩, ⟨(some 52), none, .makeSlice 25 (.const (.int .i64 256)) (.const (.int .i64 256))⟩, ⟨(some 53), none, .convert 25 9 (.tmp 52)⟩, ⟨(some 54), none, .build 24 #[(0, .const (.int .i64 2)), (5, .tmp 53)]⟩, ⟨(some 55), none, .buildSlice 27 12 #[(0, .tmp 39), (1, .tmp 40), (2, .tmp 41), (3, .tmp 42), (4, .tmp 43), (5, .tmp 44), (6, .tmp 45), (7, .tmp 47), (8, .tmp 49), (9, .tmp 50), (10, .tmp 51), (11, .tmp 54)]⟩, ⟨(some 6), none, .assign (.tmp 55)⟩]) (G_law25_OpsForms_11)))))))))
noncomputable def l_law25_OpsForms : List (Nat × Con) := [(8, c_law25_begun), (13, c_ops_Take), (10, c_ops_Put)]
noncomputable abbrev K_law25_OpsForms : Ctx := ctx (cl l_law25_OpsForms)
theorem geq_law25_OpsForms : gof K_law25_OpsForms Try.f7 = some G_law25_OpsForms.strip := by kernel_rfl
theorem sys_law25_OpsForms : Go.Eng.Sys Try.prog K_law25_OpsForms := sys_of' ⟨ok_law25_begun, ok_ops_Take, ok_ops_Put, trivial⟩
theorem hm_law25_OpsForms : ConMono K_law25_OpsForms := conMono_of sys_law25_OpsForms.con
noncomputable def k_law25_OpsForms_law25_begun := PLift.up (call_scal (C := K_law25_OpsForms) (f := 8) (A := A_law25_begun) (p := p_law25_begun) (r := r_law25_begun) rfl)
noncomputable def k_law25_OpsForms_ops_Take := PLift.up (call_fn (C := K_law25_OpsForms) (f := 13) (A := A_ops_Take) (p := p_ops_Take) (r := r_ops_Take) rfl)
noncomputable def k_law25_OpsForms_ops_Put := PLift.up (call_scal (C := K_law25_OpsForms) (f := 10) (A := A_ops_Put) (p := p_ops_Put) (r := r_ops_Put) rfl)
noncomputable def A_law25_OpsForms : Arms (Unit) := Arms.nil
def p_law25_OpsForms (x : Unit) : Prop := goodAny (x)
abbrev r_law25_OpsForms (x : Unit) : AV := rTrue x
theorem rd_law25_OpsForms : ReadsA Try.prog [] A_law25_OpsForms p_law25_OpsForms := readsA_nil
set_option maxRecDepth 100000 in
set_option maxHeartbeats 4000000 in
theorem forms_last {σ : St} (hσ : Wk σ (mkS [(1, .t (sl [fA])), (2, .t (sl ([] : List TStep))), (3, .t (sl [sD])), (4, .t (sl ([] : List TStep))), (5, .t (sl [fE, sC])), (6, .t (sl noneL))] .empty)) :
    avp K_law25_OpsForms G_law25_OpsForms_16 (Ret K_law25_OpsForms [.tmp 0] fun v _ => v = .t (.bool true)) σ := by
  unfold G_law25_OpsForms_16
  simp only [avp_seq]
  refine ⟨_, hσ, ?_⟩
  have hdK : (Cell.dec [TV.seq 1 (List.replicate 60 [TV.int .i64 0])] : Option (List Int)) = some (List.replicate 60 0) := by
    have : TV.seq 1 (List.replicate 60 [.int .i64 0]) = sl (List.replicate 60 (0 : Int)) := by unfold sl; rw [List.map_replicate]; rfl
    rw [this]; exact Cell.dec_enc _
  have hsK : (∀ y ∈ ([⟨21, 0, 0, 0, 0, [], [], [], List.replicate 60 0⟩] : List TStep), smallS y) = True := by simp [smallS]
  have fm8 : (putL [⟨21, 0, 0, 0, 0, [], [], [], List.replicate 60 0⟩]).length = 62 := fm8
  have hsN : (∀ y ∈ noneL, smallS y) = True := by simp [noneL, smallS]
  have nl : noneL.length = 12 := rfl
  simp only [vQ.down, vZ.down, vS.down, vE.down, Nat.reduceEqDiff, Nat.reduceAdd, Nat.reduceSub, Nat.reduceMul, Nat.reduceLeDiff, Nat.reduceLT, ne_eq, not_false_eq_true, not_true_eq_false, Int.reduceToNat, reduceIte, reduceCtorEq, true_and, and_true, implies_true, forall_const, decide_eq_true_eq, decide_eq_false_iff_not, Decidable.not_not, imp_self, and_self, decide_true, decide_false, Int.reduceEq, Int.reduceLT, Int.reduceLE, eq_self, ↓avp_condG, condG_bool, ↓tf_arrow, ↓ft_arrow, fA, sD, fE, sC, hdK, hsK, hsN, nl, fm8, k_law25_OpsForms_ops_Take.down, A_ops_Take, p_ops_Take, r_ops_Take, fm9, k_law25_OpsForms_ops_Put.down, A_ops_Put, p_ops_Put, r_ops_Put, fm7, fm10, og_makeSlice, madeB_sl ty_Lint ty_int]
  refine ⟨by omega, (fun _ h => by cases h), ?_⟩
  simp only [vQ.down, vZ.down, vS.down, vE.down, Nat.reduceEqDiff, Nat.reduceAdd, Nat.reduceSub, Nat.reduceMul, Nat.reduceLeDiff, Nat.reduceLT, ne_eq, not_false_eq_true, not_true_eq_false, Int.reduceToNat, reduceIte, reduceCtorEq, true_and, and_true, implies_true, forall_const, decide_eq_true_eq, decide_eq_false_iff_not, Decidable.not_not, imp_self, and_self, decide_true, decide_false, Int.reduceEq, Int.reduceLT, Int.reduceLE, eq_self, ↓avp_condG, condG_bool, ↓tf_arrow, ↓ft_arrow, vT.down]
set_option maxRecDepth 100000 in
set_option maxHeartbeats 4000000 in
theorem forms_tail {σ : St} (hσ : Wk σ (mkS [(1, .t (sl [fA])), (2, .t (sl ([] : List TStep))), (3, .t (sl [sD])), (4, .t (sl ([] : List TStep))), (5, .t (sl [fE, sC])), (6, .t (sl noneL))] .empty)) :
    avp K_law25_OpsForms G_law25_OpsForms_11 (Ret K_law25_OpsForms [.tmp 0] fun v _ => v = .t (.bool true)) σ := by
  unfold G_law25_OpsForms_11
  simp only [avp_seq]
  refine ⟨_, hσ, ?_⟩
  have nl : noneL.length = 12 := rfl
  simp only [vQ.down, vZ.down, vS.down, vE.down, Nat.reduceEqDiff, Nat.reduceAdd, Nat.reduceSub, Nat.reduceMul, Nat.reduceLeDiff, Nat.reduceLT, ne_eq, not_false_eq_true, not_true_eq_false, Int.reduceToNat, reduceIte, reduceCtorEq, true_and, and_true, implies_true, forall_const, decide_eq_true_eq, decide_eq_false_iff_not, Decidable.not_not, imp_self, and_self, decide_true, decide_false, Int.reduceEq, Int.reduceLT, Int.reduceLE, eq_self, ↓avp_condG, condG_bool, ↓tf_arrow, ↓ft_arrow]
  refine loop_weak hm_law25_OpsForms (fun k σ => ∃ i : Nat, k = 12 - i ∧ i ≤ 12 ∧ σ = mkS [(1, .t (sl [fA])), (2, .t (sl ([] : List TStep))), (3, .t (sl [sD])), (4, .t (sl ([] : List TStep))), (5, .t (sl [fE, sC])), (6, .t (sl noneL)), (7, .t (.int .i64 (i : Nat)))] .empty) ⟨0, rfl, by omega, rfl⟩ (wk_to fewer_refl (by simp only [vQ.down, vZ.down, vS.down, vE.down, Nat.reduceEqDiff, Nat.reduceAdd, Nat.reduceSub, Nat.reduceMul, Nat.reduceLeDiff, Nat.reduceLT, ne_eq, not_false_eq_true, not_true_eq_false, Int.reduceToNat, reduceIte, reduceCtorEq, true_and, and_true, implies_true, forall_const, decide_eq_true_eq, decide_eq_false_iff_not, Decidable.not_not, imp_self, and_self, decide_true, decide_false, Int.reduceEq, Int.reduceLT, Int.reduceLE, eq_self, ↓avp_condG, condG_bool, ↓tf_arrow, ↓ft_arrow, wkAll_cons, wkAll_nil, w2_refl, w2_nil, w2_emp, empty_none, Int.natCast_zero])) ?_
  rintro k _ ⟨i, rfl, hi, rfl⟩
  have hi1 : IntKind.i64.wrap ((i : Int) + 1) = ((i + 1 : Nat) : Int) := by rw [IntWalk.i64_in _ (by omega)]; rfl
  by_cases hlt : i < 12
  case neg =>
    obtain rfl : i = 12 := by omega
    have hge : ¬ (((12 : Nat) : Int) < 12) := by omega
    simp only [vQ.down, vZ.down, vS.down, vE.down, Nat.reduceEqDiff, Nat.reduceAdd, Nat.reduceSub, Nat.reduceMul, Nat.reduceLeDiff, Nat.reduceLT, ne_eq, not_false_eq_true, not_true_eq_false, Int.reduceToNat, reduceIte, reduceCtorEq, true_and, and_true, implies_true, forall_const, decide_eq_true_eq, decide_eq_false_iff_not, Decidable.not_not, imp_self, and_self, decide_true, decide_false, Int.reduceEq, Int.reduceLT, Int.reduceLE, eq_self, ↓avp_condG, condG_bool, ↓tf_arrow, ↓ft_arrow, nl, hge]
    exact forms_last (wk_to fewer_refl (by simp only [vQ.down, vZ.down, vS.down, vE.down, Nat.reduceEqDiff, Nat.reduceAdd, Nat.reduceSub, Nat.reduceMul, Nat.reduceLeDiff, Nat.reduceLT, ne_eq, not_false_eq_true, not_true_eq_false, Int.reduceToNat, reduceIte, reduceCtorEq, true_and, and_true, implies_true, forall_const, decide_eq_true_eq, decide_eq_false_iff_not, Decidable.not_not, imp_self, and_self, decide_true, decide_false, Int.reduceEq, Int.reduceLT, Int.reduceLE, eq_self, ↓avp_condG, condG_bool, ↓tf_arrow, ↓ft_arrow, wkAll_cons, wkAll_nil, w2_refl, w2_nil, w2_emp, empty_none]))
  have hlt' : (i : Int) < 12 := by omega
  obtain ⟨x, hx⟩ : ∃ x, x = noneL.getD i default := ⟨_, rfl⟩
  have hm : x ∈ noneL := by rw [hx, List.getD_eq_getElem?_getD, List.getElem?_eq_getElem (by rw [nl]; omega)]; exact List.getElem_mem _
  have hp := of_decide_eq_true (List.all_eq_true.1 fm6 x hm)
  have hs : (∀ y ∈ [x], smallS y) = True := by
    simp only [eq_iff_iff, iff_true]
    intro y hy
    rw [List.mem_singleton.1 hy]
    have : ∀ z ∈ noneL, smallS z := by simp [noneL, smallS]
    exact this x hm
  simp only [vQ.down, vZ.down, vS.down, vE.down, Nat.reduceEqDiff, Nat.reduceAdd, Nat.reduceSub, Nat.reduceMul, Nat.reduceLeDiff, Nat.reduceLT, ne_eq, not_false_eq_true, not_true_eq_false, Int.reduceToNat, reduceIte, reduceCtorEq, true_and, and_true, implies_true, forall_const, decide_eq_true_eq, decide_eq_false_iff_not, Decidable.not_not, imp_self, and_self, decide_true, decide_false, Int.reduceEq, Int.reduceLT, Int.reduceLE, eq_self, ↓avp_condG, condG_bool, ↓tf_arrow, ↓ft_arrow, nl, hlt', ← hx]
  ((repeat' with_reducible refine And.intro ?_ ?_) <;> try (first | omega | (simp only [List.length_take, List.length_drop, List.length_append, List.length_map, List.length_replicate] <;> omega)))
  intro g9 hg9
  simp only [vQ.down, vZ.down, vS.down, vE.down, Nat.reduceEqDiff, Nat.reduceAdd, Nat.reduceSub, Nat.reduceMul, Nat.reduceLeDiff, Nat.reduceLT, ne_eq, not_false_eq_true, not_true_eq_false, Int.reduceToNat, reduceIte, reduceCtorEq, true_and, and_true, implies_true, forall_const, decide_eq_true_eq, decide_eq_false_iff_not, Decidable.not_not, imp_self, and_self, decide_true, decide_false, Int.reduceEq, Int.reduceLT, Int.reduceLE, eq_self, ↓avp_condG, condG_bool, ↓tf_arrow, ↓ft_arrow, hd_one', hp, hs, k_law25_OpsForms_ops_Put.down, A_ops_Put, p_ops_Put, r_ops_Put]
  exact round_to (12 - (i + 1)) [(1, .t (sl [fA])), (2, .t (sl ([] : List TStep))), (3, .t (sl [sD])), (4, .t (sl ([] : List TStep))), (5, .t (sl [fE, sC])), (6, .t (sl noneL)), (7, .t (.int .i64 (i + 1 : Nat)))] .empty (by omega) fewer_empty (by simp only [vQ.down, vZ.down, vS.down, vE.down, Nat.reduceEqDiff, Nat.reduceAdd, Nat.reduceSub, Nat.reduceMul, Nat.reduceLeDiff, Nat.reduceLT, ne_eq, not_false_eq_true, not_true_eq_false, Int.reduceToNat, reduceIte, reduceCtorEq, true_and, and_true, implies_true, forall_const, decide_eq_true_eq, decide_eq_false_iff_not, Decidable.not_not, imp_self, and_self, decide_true, decide_false, Int.reduceEq, Int.reduceLT, Int.reduceLE, eq_self, ↓avp_condG, condG_bool, ↓tf_arrow, ↓ft_arrow, wkAll_cons, wkAll_nil, w2_refl, w2_nil, w2_emp, empty_none, hi1]) ⟨i + 1, rfl, by omega, rfl⟩
set_option maxRecDepth 100000 in
set_option maxHeartbeats 4000000 in
theorem body_law25_OpsForms (x) (hx : p_law25_OpsForms x) : avp K_law25_OpsForms G_law25_OpsForms (Ret K_law25_OpsForms [.tmp 0] fun v _ => v = r_law25_OpsForms x) (entry (A_law25_OpsForms.enc x) .empty) := by
  obtain ⟨⟩ := x
  change avp _ _ (Ret _ _ fun v _ => v = .t (.bool true)) (entry [] .empty)
  unfold G_law25_OpsForms
  have hA : fA.Keep.length = 2 := rfl
  simp only [vQ.down, vZ.down, vS.down, vE.down, Nat.reduceEqDiff, Nat.reduceAdd, Nat.reduceSub, Nat.reduceMul, Nat.reduceLeDiff, Nat.reduceLT, ne_eq, not_false_eq_true, not_true_eq_false, Int.reduceToNat, reduceIte, reduceCtorEq, true_and, and_true, implies_true, forall_const, decide_eq_true_eq, decide_eq_false_iff_not, Decidable.not_not, imp_self, and_self, decide_true, decide_false, Int.reduceEq, Int.reduceLT, Int.reduceLE, eq_self, ↓avp_condG, condG_bool, ↓tf_arrow, ↓ft_arrow, k_law25_OpsForms_law25_begun.down, A_law25_begun, p_law25_begun, r_law25_begun, k_law25_OpsForms_ops_Take.down, A_ops_Take, p_ops_Take, r_ops_Take, fm1, fm2, fm3, fm4, fm5, List.length_replicate]
  ((repeat' with_reducible refine And.intro ?_ ?_) <;> try (first | omega | (simp only [List.length_take, List.length_drop, List.length_append, List.length_map, List.length_replicate] <;> omega)))
  intro g hg
  refine weak_at [(1, .t (sl [fA])), (2, .t (sl ([] : List TStep))), (3, .t (sl [sD])), (4, .t (sl ([] : List TStep))), (5, .t (sl [fE, sC]))] .empty fewer_empty (by simp only [vQ.down, vZ.down, vS.down, vE.down, Nat.reduceEqDiff, Nat.reduceAdd, Nat.reduceSub, Nat.reduceMul, Nat.reduceLeDiff, Nat.reduceLT, ne_eq, not_false_eq_true, not_true_eq_false, Int.reduceToNat, reduceIte, reduceCtorEq, true_and, and_true, implies_true, forall_const, decide_eq_true_eq, decide_eq_false_iff_not, Decidable.not_not, imp_self, and_self, decide_true, decide_false, Int.reduceEq, Int.reduceLT, Int.reduceLE, eq_self, ↓avp_condG, condG_bool, ↓tf_arrow, ↓ft_arrow, wkAll_cons, wkAll_nil, w2_refl, w2_nil, w2_emp, empty_none]) ?_
  simp only [vQ.down, vZ.down, vS.down, vE.down, Nat.reduceEqDiff, Nat.reduceAdd, Nat.reduceSub, Nat.reduceMul, Nat.reduceLeDiff, Nat.reduceLT, ne_eq, not_false_eq_true, not_true_eq_false, Int.reduceToNat, reduceIte, reduceCtorEq, true_and, and_true, implies_true, forall_const, decide_eq_true_eq, decide_eq_false_iff_not, Decidable.not_not, imp_self, and_self, decide_true, decide_false, Int.reduceEq, Int.reduceLT, Int.reduceLE, eq_self, ↓avp_condG, condG_bool, ↓tf_arrow, ↓ft_arrow, hA]
  intro g1 h1
  refine ⟨by omega, fun g2 h2 => ⟨by omega, fun g3 h3 => ?_⟩⟩
  have m21 := Store.ne_new h2
  have m32 := Store.ne_new h3
  have m31 := Store.ne_new (Store.old_none h3)
  obtain ⟨T, hT⟩ : ∃ T, T = ((Store.empty.set g1 (some (Entry.row 1 [[TV.int .i64 4]] false))).set g2 (some (Entry.row 1 (List.replicate 61 [TV.int .i64 0]) false))).set g3 (some (Entry.row 1 (List.replicate 256 [TV.int .u8 0]) false)) := ⟨_, rfl⟩
  have hb1 : T.borrow1 (.tok g1 1 0 1) = some (.seq 1 [[.int .i64 4]], [g1]) := by
    rw [hT]; simp [Store.borrow1, set_f, m21.symm, m31.symm]
  have hb2 : T.borrow1 (.tok g2 1 0 61) = some (.seq 1 (List.replicate 61 [.int .i64 0]), [g2]) := by
    rw [hT]; simp [Store.borrow1, set_f, m32.symm]
  rw [← hT]
  simp only [vQ.down, vZ.down, vS.down, vE.down, Nat.reduceEqDiff, Nat.reduceAdd, Nat.reduceSub, Nat.reduceMul, Nat.reduceLeDiff, Nat.reduceLT, ne_eq, not_false_eq_true, not_true_eq_false, Int.reduceToNat, reduceIte, reduceCtorEq, true_and, and_true, implies_true, forall_const, decide_eq_true_eq, decide_eq_false_iff_not, Decidable.not_not, imp_self, and_self, decide_true, decide_false, Int.reduceEq, Int.reduceLT, Int.reduceLE, eq_self, ↓avp_condG, condG_bool, ↓tf_arrow, ↓ft_arrow, hb1, hb2]
  intro g4 h4
  have hdec : Cell.dec [TV.seq 9 [[.int .i64 0, .int .i64 0, .int .i64 0, .int .i64 0, .int .i64 0, .str [], .str [], .str [], .nilS], [.int .i64 23, .int .i64 0, .int .i64 0, .int .i64 0, .int .i64 0, .str [], .str [], .str [], .nilS], [.int .i64 (-1), .int .i64 0, .int .i64 0, .int .i64 0, .int .i64 0, .str [], .str [], .str [], .nilS],
    [.int .i64 1, .int .i64 65536, .int .i64 0, .int .i64 0, .int .i64 0, .str [], .str [], .str [], .nilS], [.int .i64 1, .int .i64 (-1), .int .i64 0, .int .i64 0, .int .i64 0, .str [], .str [], .str [], .nilS], [.int .i64 1, .int .i64 0, .int .i64 0, .int .i64 1, .int .i64 0, .str [], .str [], .str [], .nilS], [.int .i64 16, .int .i64 0, .int .i64 1, .int .i64 0, .int .i64 0, .str [], .str [], .str [], .nilS],
    [.int .i64 21, .int .i64 0, .int .i64 0, .int .i64 0, .int .i64 0, .str [], .str [], .str [], .seq 1 [[.int .i64 4]]], [.int .i64 21, .int .i64 0, .int .i64 0, .int .i64 0, .int .i64 0, .str [], .str [], .str [], .seq 1 (List.replicate 61 [.int .i64 0])], [.int .i64 22, .int .i64 0, .int .i64 0, .int .i64 0, .int .i64 256, .str [], .str [], .str [], .nilS],
    [.int .i64 7, .int .i64 0, .int .i64 0, .int .i64 0, .int .i64 0, .str [], .str [97], .str [], .nilS], [.int .i64 2, .int .i64 0, .int .i64 0, .int .i64 0, .int .i64 0, .str (List.replicate 256 0), .str [], .str [], .nilS]]] = some noneL := by rfl
  exact forms_tail (wk_to fewer_empty (by
    simp only [vQ.down, vZ.down, vS.down, vE.down, Nat.reduceEqDiff, Nat.reduceAdd, Nat.reduceSub, Nat.reduceMul, Nat.reduceLeDiff, Nat.reduceLT, ne_eq, not_false_eq_true, not_true_eq_false, Int.reduceToNat, reduceIte, reduceCtorEq, true_and, and_true, implies_true, forall_const, decide_eq_true_eq, decide_eq_false_iff_not, Decidable.not_not, imp_self, and_self, decide_true, decide_false, Int.reduceEq, Int.reduceLT, Int.reduceLE, eq_self, ↓avp_condG, condG_bool, ↓tf_arrow, ↓ft_arrow, wkAll_cons, wkAll_nil, w2_refl, w2_nil, w2_emp, empty_none]
    exact w2_rows (Store.set_same _ _ _) rfl hdec rfl))
noncomputable def c_law25_OpsForms : Con := fnScal A_law25_OpsForms p_law25_OpsForms r_law25_OpsForms
theorem ok_law25_OpsForms : COk Try.prog 7 c_law25_OpsForms := fn_sok sys_law25_OpsForms mixed Try.func7 (by kernel_rfl) geq_law25_OpsForms Try.ntmps7 (by rw [Try.results7]) (fun x => by simp [rTrue, AV.scal]) fun x hx => ⟨Nat.le_of_ble_eq_true rfl, body_law25_OpsForms x hx⟩
theorem says_law25_OpsForms : SaysTrue Rows.opsFormsSpec 0 := ⟨rfl, fun H ds h => by
  match ds, h with
  | [], _ => exact ⟨rfl, rfl, rfl⟩⟩
set_option maxRecDepth 100000 in
theorem lifted_law25_OpsForms (os : Os) (started : os.Started) (H : Type) (enc : TypeId × Value → H) :
    ReturnsInHanded {} Try.checked os 7 .any (Rows.opsFormsSpec.pre6 enc Try.prog Try.f7 Rows.opsFormsRow.domain false) (Rows.opsFormsSpec.post enc Try.prog Try.f7 false true false false) := by
  refine returnsInHanded_of_change (C := Try.checked) own started (by kernel_rfl) Try.func7
    (ChangeSpec.witness6 (enc := enc) (C := Try.checked) false ⟨#[], #[], []⟩ 8 (by kernel_rfl) (by kernel_rfl) (by kernel_rfl) (by kernel_rfl)) ?_
  intro W base args ds gs before hval hW _ _
  exact law_contract (ts := []) (tb := 4) ok_law25_OpsForms (by rw [Try.params7]) (by kernel_rfl) Try.underlying4 laid (by kernel_rfl) rd_law25_OpsForms (fun _ h => h) says_law25_OpsForms H enc W base args ds gs before hval hW
theorem over_law25_OpsForms : Rows.opsFormsRow.holds Try.pinned (OpenSpec.ofChange Rows.opsFormsSpec) :=
  OpenClaim.holds_of_wide 7 Try.f7 rfl rfl rfl rfl rfl rfl rfl ⟨rfl, rfl, rfl, rfl, rfl⟩ rfl rfl rfl rfl rfl (by kernel_rfl) Try.func7 (by kernel_rfl)
    (of_decide_eq_true (by kernel_rfl)) (by unfold Func.isWrapper; first | (rw [if_pos (by decide +kernel)]; kernel_rfl) | (rw [if_neg (by decide +kernel)]; exact ⟨rfl, rfl⟩))
    (fun os started H enc _ => lifted_law25_OpsForms os started H enc)
theorem opsForms_holds : Rows.OpsFormsSaid := over_law25_OpsForms
end Go.Proofs.Ythhgaeeeppipnaa

