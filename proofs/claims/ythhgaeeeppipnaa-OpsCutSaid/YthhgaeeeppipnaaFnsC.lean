/-
  OpsTaken.
-/
import Derived.Test.YthhgaeeeppipnaaFnsB
set_option linter.unusedSimpArgs false
set_option linter.unusedVariables false
namespace Go.Proofs.Ythhgaeeeppipnaa
open Go Go.Eng
theorem takeS_len : ∀ (n : Nat) (b : List UInt8), b.length ≤ n → (takeS b).length ≤ b.length
  | 0, b, h => by
    obtain rfl := List.length_eq_zero_iff.1 (Nat.le_zero.1 h)
    exact Nat.le_refl _
  | n + 1, b, h => by
    by_cases hb : b = []
    · subst hb; exact Nat.le_refl _
    rw [takeS_step hb]
    by_cases hk : (takenS b).2.2 = true
    · have h1 := (takenS_ok (trip hk)).1
      have := takeS_len n (takenS b).2.1 (by omega)
      rw [if_pos hk]
      split
      · rw [List.length_cons]; omega
      · omega
    · rw [if_neg hk]; exact Nat.zero_le _
theorem good_small {x : TStep} (h : good x = true) : smallS x := by
  obtain ⟨_, _, ⟨a, b, c, d⟩, _⟩ := good_of h
  exact ⟨by omega, by omega, by omega, by omega⟩
def G_law25_OpsTaken : GCode := .seq (.region [⟨(some 4), none, .assign (.const (.bool false))⟩]) (.seq (.seq (.region [⟨(some 7), none, .call ⟨.value (.func 8), #[], #[]⟩⟩, ⟨(some 8), none, .unOp .not 4 (.tmp 7)⟩]) (.cond (.tmp 8) (.seq (.region [⟨(some 4), none, .assign (.const (.bool false))⟩]) (.ret)) (.skip))) (.seq (.seq (.region [⟨(some 9), none, .move (.tmp 0)⟩, ⟨(some 10), none, .call ⟨.builtin .len, #[.tmp 9], #[9]⟩⟩, ⟨(some 11), none, .binOp .gtr 3 (.tmp 10) (.const (.int .i64 200)) 3⟩]) (.cond (.tmp 11) (.seq (.region [⟨(some 4), none, .assign (.const (.bool true))⟩]) (.ret)) (.skip))) (.seq (.region [⟨(some 12), none, .move (.tmp 0)⟩, ⟨(some 13), none, .call ⟨.value (.func 13), #[.tmp 12], #[9]⟩⟩, ⟨(some 5), none, .assign (.tmp 13)⟩]) (.seq (.region [⟨(some 14), none, .move (.tmp 5)⟩, ⟨(some 15), none, .call ⟨.value (.func 10), #[.tmp 14], #[27]⟩⟩, ⟨(some 6), none, .assign (.tmp 15)⟩]) (.seq (.region [⟨(some 16), none, .move (.tmp 6)⟩, ⟨(some 17), none, .call ⟨.builtin .len, #[.tmp 16], #[9]⟩⟩, ⟨(some 18), none, .move (.tmp 0)⟩, ⟨(some 19), none, .call ⟨.builtin .len, #[.tmp 18], #[9]⟩⟩, ⟨(some 20), none, .binOp .leq 3 (.tmp 17) (.tmp 19) 3⟩, ⟨(some 21), none, .move (.tmp 20)⟩, ⟨(some 22), (some (21, true)), .move (.tmp 6)⟩, ⟨(some 23), (some (21, true)), .call ⟨.value (.func 13), #[.tmp 22], #[9]⟩⟩, ⟨(some 24), (some (21, true)), .move (.tmp 5)⟩, ⟨(some 25), (some (21, true)), .call ⟨.value (.func 12), #[.tmp 23, .tmp 24], #[27, 27]⟩⟩, ⟨(some 26), none, .pick (.tmp 21) (.tmp 25) (.const (.bool false))⟩, ⟨(some 27), none, .move (.tmp 26)⟩, ⟨(some 28), (some (27, true)), .move (.tmp 1)⟩, ⟨(some 29), (some (27, true)), .binOp .rem 5 (.tmp 28) (.const (.int .u8 40)) 5⟩, ⟨(some 30), (some (27, true)), .convert 5 3 (.tmp 29)⟩, ⟨(some 31), (some (27, true)), .makeSlice 25 (.tmp 30) (.tmp 30)⟩, ⟨(some 32), (some (27, true)), .convert 25 9 (.tmp 31)⟩, ⟨(some 33), (some (27, true)), .move (.tmp 0)⟩, ⟨(some 34), (some (27, true)), .binOp .add 9 (.tmp 32) (.tmp 33) 9⟩, ⟨(some 35), (some (27, true)), .call ⟨.value (.func 13), #[.tmp 34], #[9]⟩⟩, ⟨(some 36), (some (27, true)), .move (.tmp 5)⟩, ⟨(some 37), (some (27, true)), .call ⟨.value (.func 12), #[.tmp 35, .tmp 36], #[27, 27]⟩⟩, ⟨(some 38), none, .pick (.tmp 27) (.tmp 37) (.const (.bool false))⟩, ⟨(some 39), none, .move (.tmp 38)⟩, ⟨(some 40), (some (39, true)), .move (.tmp 6)⟩, ⟨(some 41), (some (39, true)), .call ⟨.value (.func 13), #[.tmp 40], #[9]⟩⟩, ⟨(some 42), (some (39, true)), .call ⟨.value (.func 10), #[.tmp 41], #[27]⟩⟩, ⟨(some 43), (some (39, true)), .move (.tmp 6)⟩, ⟨(some 44), (some (39, true)), .binOp .eql 9 (.tmp 42) (.tmp 43) 9⟩, ⟨(some 45), none, .pick (.tmp 39) (.tmp 44) (.const (.bool false))⟩, ⟨(some 4), none, .assign (.tmp 45)⟩]) (.ret))))))
noncomputable def l_law25_OpsTaken : List (Nat × Con) := [(8, c_law25_begun), (13, c_ops_Take), (10, c_ops_Put), (12, c_ref25_SameSteps)]
noncomputable abbrev K_law25_OpsTaken : Ctx := ctx (cl l_law25_OpsTaken)
theorem geq_law25_OpsTaken : gof K_law25_OpsTaken Try.f5 = some G_law25_OpsTaken.strip := by kernel_rfl
theorem sys_law25_OpsTaken : Go.Eng.Sys Try.prog K_law25_OpsTaken := sys_of' ⟨ok_law25_begun, ok_ops_Take, ok_ops_Put, ok_ref25_SameSteps, trivial⟩
theorem hm_law25_OpsTaken : ConMono K_law25_OpsTaken := conMono_of sys_law25_OpsTaken.con
noncomputable def k_law25_OpsTaken_law25_begun := PLift.up (call_scal (C := K_law25_OpsTaken) (f := 8) (A := A_law25_begun) (p := p_law25_begun) (r := r_law25_begun) rfl)
noncomputable def k_law25_OpsTaken_ops_Take := PLift.up (call_fn (C := K_law25_OpsTaken) (f := 13) (A := A_ops_Take) (p := p_ops_Take) (r := r_ops_Take) rfl)
noncomputable def k_law25_OpsTaken_ops_Put := PLift.up (call_scal (C := K_law25_OpsTaken) (f := 10) (A := A_ops_Put) (p := p_ops_Put) (r := r_ops_Put) rfl)
noncomputable def k_law25_OpsTaken_ref25_SameSteps := PLift.up (call_scal (C := K_law25_OpsTaken) (f := 12) (A := A_ref25_SameSteps) (p := p_ref25_SameSteps) (r := r_ref25_SameSteps) rfl)
noncomputable def A_law25_OpsTaken : Arms ((List UInt8) × Byt × Unit) := Arms.cons (argT (List UInt8)) (Arms.cons (argT Byt) (Arms.nil))
def p_law25_OpsTaken (x : (List UInt8) × Byt × Unit) : Prop := (goodStr x.1) ∧ (goodAny x.2.1) ∧ goodAny (x.2.2)
abbrev r_law25_OpsTaken (x : (List UInt8) × Byt × Unit) : AV := rTrue x
theorem rd_law25_OpsTaken : ReadsA Try.prog [9, 5] A_law25_OpsTaken p_law25_OpsTaken := (readsA_T (reads_str Try.underlying9) (by kernel_rfl) (readsA_T (reads_u8 Try.underlying5) (by kernel_rfl) readsA_nil))
set_option maxRecDepth 100000 in
set_option maxHeartbeats 4000000 in
theorem body_law25_OpsTaken (x) (hx : p_law25_OpsTaken x) : avp K_law25_OpsTaken G_law25_OpsTaken (Ret K_law25_OpsTaken [.tmp 4] fun v _ => v = r_law25_OpsTaken x) (entry (A_law25_OpsTaken.enc x) .empty) := by
  obtain ⟨s, n, ⟨⟩⟩ := x
  change avp _ _ (Ret _ _ fun v _ => v = .t (.bool true)) (entry [.t (.str s), .t (.int .u8 (n.v.toNat : Int))] .empty)
  unfold G_law25_OpsTaken
  by_cases hl : (200 : Int) < (s.length : Int)
  · simp only [vQ.down, vZ.down, vS.down, vE.down, Nat.reduceEqDiff, Nat.reduceAdd, Nat.reduceSub, Nat.reduceMul, Nat.reduceLeDiff, Nat.reduceLT, ne_eq, not_false_eq_true, not_true_eq_false, Int.reduceToNat, reduceIte, reduceCtorEq, true_and, and_true, implies_true, forall_const, decide_eq_true_eq, decide_eq_false_iff_not, Decidable.not_not, imp_self, and_self, decide_true, decide_false, Int.reduceEq, Int.reduceLT, Int.reduceLE, eq_self, ↓avp_condG, condG_bool, ↓tf_arrow, ↓ft_arrow, k_law25_OpsTaken_law25_begun.down, A_law25_begun, p_law25_begun, r_law25_begun, hl, gt_iff_lt]
    simp only [vQ.down, vZ.down, vS.down, vE.down, Nat.reduceEqDiff, Nat.reduceAdd, Nat.reduceSub, Nat.reduceMul, Nat.reduceLeDiff, Nat.reduceLT, ne_eq, not_false_eq_true, not_true_eq_false, Int.reduceToNat, reduceIte, reduceCtorEq, true_and, and_true, implies_true, forall_const, decide_eq_true_eq, decide_eq_false_iff_not, Decidable.not_not, imp_self, and_self, decide_true, decide_false, Int.reduceEq, Int.reduceLT, Int.reduceLE, eq_self, ↓avp_condG, condG_bool, ↓tf_arrow, ↓ft_arrow, vT.down]
  obtain ⟨l, hL⟩ : ∃ l, l = takeS s := ⟨_, rfl⟩
  obtain ⟨hg, ht⟩ := takeS_good _ s (Nat.le_refl _)
  rw [← hL] at hg ht
  have hll := takeS_len _ s (Nat.le_refl _)
  rw [← hL] at hll
  have hb := takeS_back hg
  obtain ⟨t, hT⟩ : ∃ t, t = putL l := ⟨_, rfl⟩
  rw [← hT] at ht hb
  have hm : ∀ y ∈ l, good y = true := List.all_eq_true.1 hg
  have q1 : (∀ y ∈ l, smallS y) = True := by simp only [eq_iff_iff, iff_true]; exact fun y hy => good_small (hm y hy)
  have q2 : (∀ y ∈ l, y.Keep.length ≤ 1099511627776) = True := by simp only [eq_iff_iff, iff_true]; exact fun y hy => by have := (good_of (hm y hy)).2.2.1.2.2.2; omega
  have h1 : s.length ≤ 1099511627776 := by omega
  have h2 : t.length ≤ 1099511627776 := by omega
  have h3 : l.length ≤ 1048576 := by omega
  have h4 : (t.length : Int) ≤ (s.length : Int) := by omega
  have h5 : l.length ≤ 1099511627776 := by omega
  obtain ⟨k, hk⟩ : ∃ k : Nat, k = n.v.toNat % 40 := ⟨_, rfl⟩
  have hrem : (n.v.toNat : Int).tmod 40 = (k : Int) := by rw [Int.tmod_eq_emod_of_nonneg (by omega)]; omega
  have hwr : IntKind.i64.wrap (k : Int) = (k : Int) := IntWalk.i64_in _ (by omega)
  have hmk := madeB_sl (k := .i64) (k' := .i64) (l := (k : Int)) (c := (k : Int)) (C := K_law25_OpsTaken) ty_Luint8 ty_uint8
  have hrep : u8s? (List.replicate k [TV.int .u8 0]) = some (List.replicate k 0) := by
    clear hk hrem hwr hmk
    induction k with
    | zero => rfl
    | succ k ih => rw [List.replicate_succ, u8s?, ih]; rfl
  have hz := takeS_zeros k s
  have hcv : convB K_law25_OpsTaken Store.empty 25 9 (.t (.seq 1 (List.replicate k [TV.int .u8 0]))) = .val True (.t (.str (List.replicate k 0))) := by simp [convB, ty_Luint8, ty_uint8, ty_string, hrep]
  have hzl : (List.replicate k (0 : UInt8) ++ s).length ≤ 1099511627776 := by rw [List.length_append, List.length_replicate]; omega
  simp only [vQ.down, vZ.down, vS.down, vE.down, Nat.reduceEqDiff, Nat.reduceAdd, Nat.reduceSub, Nat.reduceMul, Nat.reduceLeDiff, Nat.reduceLT, ne_eq, not_false_eq_true, not_true_eq_false, Int.reduceToNat, reduceIte, reduceCtorEq, true_and, and_true, implies_true, forall_const, decide_eq_true_eq, decide_eq_false_iff_not, Decidable.not_not, imp_self, and_self, decide_true, decide_false, Int.reduceEq, Int.reduceLT, Int.reduceLE, eq_self, ↓avp_condG, condG_bool, ↓tf_arrow, ↓ft_arrow, k_law25_OpsTaken_law25_begun.down, A_law25_begun, p_law25_begun, r_law25_begun, hl, gt_iff_lt, k_law25_OpsTaken_ops_Take.down, A_ops_Take, p_ops_Take, r_ops_Take, k_law25_OpsTaken_ops_Put.down, A_ops_Put, p_ops_Put, r_ops_Put, k_law25_OpsTaken_ref25_SameSteps.down, A_ref25_SameSteps, p_ref25_SameSteps, r_ref25_SameSteps, ← hL, ← hT, hb, q1, q2, h1, h2, h3, h4, h5, og_makeSlice, hrem, hwr, hmk, hcv, hz, hzl, List.length_replicate]
  refine ⟨⟨by omega, by omega, by omega, by omega⟩, by omega, ?_⟩
  simp only [vQ.down, vZ.down, vS.down, vE.down, Nat.reduceEqDiff, Nat.reduceAdd, Nat.reduceSub, Nat.reduceMul, Nat.reduceLeDiff, Nat.reduceLT, ne_eq, not_false_eq_true, not_true_eq_false, Int.reduceToNat, reduceIte, reduceCtorEq, true_and, and_true, implies_true, forall_const, decide_eq_true_eq, decide_eq_false_iff_not, Decidable.not_not, imp_self, and_self, decide_true, decide_false, Int.reduceEq, Int.reduceLT, Int.reduceLE, eq_self, ↓avp_condG, condG_bool, ↓tf_arrow, ↓ft_arrow, vT.down]
noncomputable def c_law25_OpsTaken : Con := fnScal A_law25_OpsTaken p_law25_OpsTaken r_law25_OpsTaken
theorem ok_law25_OpsTaken : COk Try.prog 5 c_law25_OpsTaken := fn_sok sys_law25_OpsTaken mixed Try.func5 (by kernel_rfl) geq_law25_OpsTaken Try.ntmps5 (by rw [Try.results5]) (fun x => by simp [rTrue, AV.scal]) fun x hx => ⟨Nat.le_of_ble_eq_true rfl, body_law25_OpsTaken x hx⟩
theorem says_law25_OpsTaken : SaysTrue Rows.opsTakenSpec 2 := ⟨rfl, fun H ds h => by
  match ds, h with
  | [d0, d1], _ => exact ⟨rfl, rfl, rfl⟩⟩
set_option maxRecDepth 100000 in
theorem lifted_law25_OpsTaken (os : Os) (started : os.Started) (H : Type) (enc : TypeId × Value → H) :
    ReturnsInHanded {} Try.checked os 5 .any (Rows.opsTakenSpec.pre6 enc Try.prog Try.f5 Rows.opsTakenRow.domain false) (Rows.opsTakenSpec.post enc Try.prog Try.f5 false true false false) := by
  refine returnsInHanded_of_change (C := Try.checked) own started (by kernel_rfl) Try.func5
    (ChangeSpec.witness6 (enc := enc) (C := Try.checked) false ⟨#[], #[.string ⟨#[]⟩, .int .u8 0], []⟩ 8 (by kernel_rfl) (by kernel_rfl) (by kernel_rfl) (by kernel_rfl)) ?_
  intro W base args ds gs before hval hW _ _
  exact law_contract (ts := [9, 5]) (tb := 4) ok_law25_OpsTaken (by rw [Try.params5]) (by kernel_rfl) Try.underlying4 laid (by kernel_rfl) rd_law25_OpsTaken (fun _ h => h) says_law25_OpsTaken H enc W base args ds gs before hval hW
theorem over_law25_OpsTaken : Rows.opsTakenRow.holds Try.pinned (OpenSpec.ofChange Rows.opsTakenSpec) :=
  OpenClaim.holds_of_wide 5 Try.f5 rfl rfl rfl rfl rfl rfl rfl ⟨rfl, rfl, rfl, rfl, rfl⟩ rfl rfl rfl rfl rfl (by kernel_rfl) Try.func5 (by kernel_rfl)
    (of_decide_eq_true (by kernel_rfl)) (by unfold Func.isWrapper; first | (rw [if_pos (by decide +kernel)]; kernel_rfl) | (rw [if_neg (by decide +kernel)]; exact ⟨rfl, rfl⟩))
    (fun os started H enc _ => lifted_law25_OpsTaken os started H enc)
theorem opsTaken_holds : Rows.OpsTakenSaid := over_law25_OpsTaken
end Go.Proofs.Ythhgaeeeppipnaa


namespace Go.Proofs.Ythhgaeeeppipnaa
open Go Go.Eng
def numV (l : List Byt) (n : Nat) (m : Int) : Int := if l.length ≤ n ∨ m < 1 then 0 else ((l.getD n default).v.toNat : Int).tmod m
def numN (l : List Byt) (n : Nat) (m : Int) : Nat := if l.length ≤ n ∨ m < 1 then n else n + 1
def pkE (l : List Byt) (n : Nat) : Entry := .box [.t (sl l), .t (.int .i64 (n : Int))] false
theorem numV_bd {l : List Byt} {n : Nat} {m : Int} (h : 1 ≤ m) : 0 ≤ numV l n m ∧ numV l n m < m := by
  unfold numV
  split
  · omega
  · refine ⟨Int.tmod_nonneg _ (by omega), Int.tmod_lt_of_pos _ (by omega)⟩
theorem numN_bd {l : List Byt} {n : Nat} {m : Int} (h : n ≤ l.length) : numN l n m ≤ l.length := by
  unfold numN
  split <;> omega

def G_made_Made : GCode := .seq (.region [⟨(some 2), none, .assign (.const (.pointer none))⟩]) (.seq (.region [⟨(some 3), none, .move (.tmp 0)⟩, ⟨(some 4), none, .build 58 #[(0, .tmp 3)]⟩, ⟨(some 5), none, .box 58 (.tmp 4)⟩, ⟨(some 2), none, .assign (.tmp 5)⟩]) (.ret))
noncomputable def l_made_Made : List (Nat × Con) := []
noncomputable abbrev K_made_Made : Ctx := ctx (cl l_made_Made)
theorem geq_made_Made : gof K_made_Made Try.f16 = some G_made_Made.strip := by kernel_rfl
theorem sys_made_Made : Go.Eng.Sys Try.prog K_made_Made := sys_of' (l := []) trivial
theorem hm_made_Made : ConMono K_made_Made := conMono_of sys_made_Made.con
def q_made_Made (xs : List AV) : Prop := ∃ l : List Byt, xs = [.t (sl l)]
def e_made_Made (xs : List AV) : Entry := .box [xs.headD .unk, .t (.int .i64 0)] false
def mk_made_Made (g : Nat) : AV := .ptr g 0
theorem body_made_Made (xs : List AV) (h : q_made_Made xs) : xs.length ≤ 6 ∧ avp K_made_Made G_made_Made (Ret K_made_Made [.tmp 2] fun r s' => ∃ g, r = mk_made_Made g ∧ s'.f g = some (e_made_Made xs)) (entry xs .empty) := by
  obtain ⟨l, rfl⟩ := h
  refine ⟨by simp, ?_⟩
  unfold G_made_Made
  simp only [vQ.down, vZ.down, vS.down, vE.down, Nat.reduceEqDiff, Nat.reduceAdd, Nat.reduceSub, Nat.reduceMul, Nat.reduceLeDiff, Nat.reduceLT, ne_eq, not_false_eq_true, not_true_eq_false, Int.reduceToNat, reduceIte, reduceCtorEq, true_and, and_true, implies_true, forall_const, decide_eq_true_eq, decide_eq_false_iff_not, Decidable.not_not, imp_self, and_self, decide_true, decide_false, Int.reduceEq, Int.reduceLT, Int.reduceLE, eq_self, ↓avp_condG, condG_bool, ↓tf_arrow, ↓ft_arrow]
  intro g hg
  simp only [vQ.down, vZ.down, vS.down, vE.down, Nat.reduceEqDiff, Nat.reduceAdd, Nat.reduceSub, Nat.reduceMul, Nat.reduceLeDiff, Nat.reduceLT, ne_eq, not_false_eq_true, not_true_eq_false, Int.reduceToNat, reduceIte, reduceCtorEq, true_and, and_true, implies_true, forall_const, decide_eq_true_eq, decide_eq_false_iff_not, Decidable.not_not, imp_self, and_self, decide_true, decide_false, Int.reduceEq, Int.reduceLT, Int.reduceLE, eq_self, ↓avp_condG, condG_bool, ↓tf_arrow, ↓ft_arrow, vT.down]
  exact ⟨g, rfl, Store.set_same _ _ _⟩
noncomputable def c_made_Made : Con := newCon q_made_Made e_made_Made mk_made_Made
theorem ok_made_Made : COk Try.prog 16 c_made_Made := fn_nok sys_made_Made mixed Try.func16 (by kernel_rfl) geq_made_Made Try.ntmps16 (by rw [Try.results16]) body_made_Made

def G_made_Picks_Num : GCode := .seq (.region [⟨(some 4), none, .assign (.const (.int .i64 0))⟩]) (.seq (.seq (.region [⟨(some 5), none, .move (.tmp 0)⟩, ⟨(some 6), none, .nilCheck (.tmp 5)⟩, ⟨(some 7), none, .fieldAddr 58 (.tmp 6) 1⟩, ⟨(some 8), none, .load 3 (.tmp 7)⟩, ⟨(some 9), none, .move (.tmp 0)⟩, ⟨(some 10), none, .nilCheck (.tmp 9)⟩, ⟨(some 11), none, .fieldAddr 58 (.tmp 10) 0⟩, ⟨(some 12), none, .load 25 (.tmp 11)⟩, ⟨(some 13), none, .call ⟨.builtin .len, #[.tmp 12], #[25]⟩⟩, ⟨(some 14), none, .binOp .geq 3 (.tmp 8) (.tmp 13) 3⟩, ⟨(some 15), none, .move (.tmp 14)⟩, ⟨(some 16), (some (15, false)), .move (.tmp 1)⟩, ⟨(some 17), (some (15, false)), .binOp .lss 3 (.tmp 16) (.const (.int .i64 1)) 3⟩, ⟨(some 18), none, .pick (.tmp 15) (.const (.bool true)) (.tmp 17)⟩]) (.cond (.tmp 18) (.seq (.region [⟨(some 4), none, .assign (.const (.int .i64 0))⟩]) (.ret)) (.skip))) (.seq (.region [⟨(some 19), none, .move (.tmp 0)⟩, ⟨(some 20), none, .nilCheck (.tmp 19)⟩, ⟨(some 21), none, .fieldAddr 58 (.tmp 20) 1⟩, ⟨(some 22), none, .load 3 (.tmp 21)⟩, ⟨(some 23), none, .binOp .add 3 (.tmp 22) (.const (.int .i64 1)) 3⟩, ⟨(some 24), none, .nilCheck (.tmp 19)⟩, ⟨(some 25), none, .fieldAddr 58 (.tmp 24) 1⟩, ⟨none, none, .store 3 (.tmp 25) (.tmp 23)⟩]) (.seq (.region [⟨(some 26), none, .move (.tmp 0)⟩, ⟨(some 27), none, .nilCheck (.tmp 26)⟩, ⟨(some 28), none, .fieldAddr 58 (.tmp 27) 0⟩, ⟨(some 29), none, .load 25 (.tmp 28)⟩, ⟨(some 30), none, .move (.tmp 0)⟩, ⟨(some 31), none, .nilCheck (.tmp 30)⟩, ⟨(some 32), none, .fieldAddr 58 (.tmp 31) 1⟩, ⟨(some 33), none, .load 3 (.tmp 32)⟩, ⟨(some 34), none, .binOp .sub 3 (.tmp 33) (.const (.int .i64 1)) 3⟩, ⟨(some 35), none, .indexAddr 25 (.tmp 29) (.tmp 34)⟩, ⟨(some 36), none, .load 5 (.tmp 35)⟩, ⟨(some 37), none, .convert 5 3 (.tmp 36)⟩, ⟨(some 38), none, .move (.tmp 1)⟩, ⟨(some 39), none, .binOp .rem 3 (.tmp 37) (.tmp 38) 3⟩, ⟨(some 4), none, .assign (.tmp 39)⟩]) (.ret))))
noncomputable def l_made_Picks_Num : List (Nat × Con) := []
noncomputable abbrev K_made_Picks_Num : Ctx := ctx (cl l_made_Picks_Num)
theorem geq_made_Picks_Num : gof K_made_Picks_Num Try.f28 = some G_made_Picks_Num.strip := by kernel_rfl
theorem sys_made_Picks_Num : Go.Eng.Sys Try.prog K_made_Picks_Num := sys_of' (l := []) trivial
theorem hm_made_Picks_Num : ConMono K_made_Picks_Num := conMono_of sys_made_Picks_Num.con
def m_made_Picks_Num : List Bool := [true, false]
def F_made_Picks_Num (xs : List AV) (s : Store) (Q : AV → Store → Prop) : Prop :=
  ∃ (g : Nat) (l : List Byt) (n : Nat) (m : Int), xs = [.ptr g 0, .t (.int .i64 m)] ∧ s.f g = some (pkE l n) ∧ l.length ≤ 1099511627776 ∧ n ≤ l.length ∧ Q (.t (.int .i64 (numV l n m))) (s.set g (some (pkE l (numN l n m))))
theorem mono_made_Picks_Num (xs : List AV) (s : Store) (Q Q' : AV → Store → Prop) (hq : ∀ r t, Q r t → Q' r t) : F_made_Picks_Num xs s Q → F_made_Picks_Num xs s Q' :=
  fun ⟨g, l, n, m, a, b, c, d, e⟩ => ⟨g, l, n, m, a, b, c, d, hq _ _ e⟩
theorem ex_made_Picks_Num (xs : List AV) (s : Store) (Q : AV → Store → Prop) : F_made_Picks_Num xs s Q → ∃ r t, Q r t := fun ⟨_, _, _, _, _, _, _, _, e⟩ => ⟨_, _, e⟩
theorem body_made_Picks_Num (xs : List AV) (s : Store) (Q : AV → Store → Prop) (h : F_made_Picks_Num xs s Q) : xs.length ≤ 40 ∧ avp K_made_Picks_Num G_made_Picks_Num (Ret K_made_Picks_Num [.tmp 4] fun r s' => ∃ s'', Sub s'' s' ∧ Q r s'') (entry xs s) := by
  obtain ⟨g, l, n, m, rfl, hg, hl, hn, hq⟩ := h
  refine ⟨by simp, ?_⟩
  unfold pkE at hg
  unfold G_made_Picks_Num
  by_cases hge : l.length ≤ n
  · have c1 : (l.length : Int) ≤ (n : Int) := by omega
    simp only [vQ.down, vZ.down, vS.down, vE.down, Nat.reduceEqDiff, Nat.reduceAdd, Nat.reduceSub, Nat.reduceMul, Nat.reduceLeDiff, Nat.reduceLT, ne_eq, not_false_eq_true, not_true_eq_false, Int.reduceToNat, reduceIte, reduceCtorEq, true_and, and_true, implies_true, forall_const, decide_eq_true_eq, decide_eq_false_iff_not, Decidable.not_not, imp_self, and_self, decide_true, decide_false, Int.reduceEq, Int.reduceLT, Int.reduceLE, eq_self, ↓avp_condG, condG_bool, ↓tf_arrow, ↓ft_arrow, hg, c1, false_implies]
    simp only [vQ.down, vZ.down, vS.down, vE.down, Nat.reduceEqDiff, Nat.reduceAdd, Nat.reduceSub, Nat.reduceMul, Nat.reduceLeDiff, Nat.reduceLT, ne_eq, not_false_eq_true, not_true_eq_false, Int.reduceToNat, reduceIte, reduceCtorEq, true_and, and_true, implies_true, forall_const, decide_eq_true_eq, decide_eq_false_iff_not, Decidable.not_not, imp_self, and_self, decide_true, decide_false, Int.reduceEq, Int.reduceLT, Int.reduceLE, eq_self, ↓avp_condG, condG_bool, ↓tf_arrow, ↓ft_arrow, vT.down]
    rw [numV, if_pos (.inl hge), numN, if_pos (.inl hge)] at hq
    refine ⟨_, fun k e hk => ?_, hq⟩
    rw [set_f] at hk
    by_cases hkg : k = g
    · subst hkg; rw [if_pos rfl] at hk; rw [hg]; exact hk
    · rwa [if_neg hkg] at hk
  have c1 : ¬ (l.length : Int) ≤ (n : Int) := by omega
  by_cases hm : m < 1
  · simp only [vQ.down, vZ.down, vS.down, vE.down, Nat.reduceEqDiff, Nat.reduceAdd, Nat.reduceSub, Nat.reduceMul, Nat.reduceLeDiff, Nat.reduceLT, ne_eq, not_false_eq_true, not_true_eq_false, Int.reduceToNat, reduceIte, reduceCtorEq, true_and, and_true, implies_true, forall_const, decide_eq_true_eq, decide_eq_false_iff_not, Decidable.not_not, imp_self, and_self, decide_true, decide_false, Int.reduceEq, Int.reduceLT, Int.reduceLE, eq_self, ↓avp_condG, condG_bool, ↓tf_arrow, ↓ft_arrow, hg, c1, hm, false_implies]
    simp only [vQ.down, vZ.down, vS.down, vE.down, Nat.reduceEqDiff, Nat.reduceAdd, Nat.reduceSub, Nat.reduceMul, Nat.reduceLeDiff, Nat.reduceLT, ne_eq, not_false_eq_true, not_true_eq_false, Int.reduceToNat, reduceIte, reduceCtorEq, true_and, and_true, implies_true, forall_const, decide_eq_true_eq, decide_eq_false_iff_not, Decidable.not_not, imp_self, and_self, decide_true, decide_false, Int.reduceEq, Int.reduceLT, Int.reduceLE, eq_self, ↓avp_condG, condG_bool, ↓tf_arrow, ↓ft_arrow, vT.down]
    rw [numV, if_pos (.inr hm), numN, if_pos (.inr hm)] at hq
    refine ⟨_, fun k e hk => ?_, hq⟩
    rw [set_f] at hk
    by_cases hkg : k = g
    · subst hkg; rw [if_pos rfl] at hk; rw [hg]; exact hk
    · rwa [if_neg hkg] at hk
  have hno : ¬ (l.length ≤ n ∨ m < 1) := fun h => h.elim hge hm
  rw [numV, if_neg hno, numN, if_neg hno] at hq
  have w1 : IntKind.i64.wrap ((n : Int) + 1) = ((n + 1 : Nat) : Int) := by rw [IntWalk.i64_in _ (by omega)]; rfl
  have w2 : IntKind.i64.wrap (((n + 1 : Nat) : Int) - 1) = (n : Int) := by rw [IntWalk.i64_in _ (by omega)]; omega
  have w3 : ∀ x : UInt8, IntKind.i64.wrap (x.toNat : Int) = (x.toNat : Int) := fun x => IntWalk.i64_in _ (by have := x.toNat_lt; omega)
  simp only [vQ.down, vZ.down, vS.down, vE.down, Nat.reduceEqDiff, Nat.reduceAdd, Nat.reduceSub, Nat.reduceMul, Nat.reduceLeDiff, Nat.reduceLT, ne_eq, not_false_eq_true, not_true_eq_false, Int.reduceToNat, reduceIte, reduceCtorEq, true_and, and_true, implies_true, forall_const, decide_eq_true_eq, decide_eq_false_iff_not, Decidable.not_not, imp_self, and_self, decide_true, decide_false, Int.reduceEq, Int.reduceLT, Int.reduceLE, eq_self, ↓avp_condG, condG_bool, ↓tf_arrow, ↓ft_arrow, hg, c1, hm, w1, w2, w3, false_implies]
  ((repeat' with_reducible refine And.intro ?_ ?_) <;> try (first | omega | (simp only [List.length_take, List.length_drop, List.length_append, List.length_map, List.length_replicate] <;> omega)))
  simp only [vQ.down, vZ.down, vS.down, vE.down, Nat.reduceEqDiff, Nat.reduceAdd, Nat.reduceSub, Nat.reduceMul, Nat.reduceLeDiff, Nat.reduceLT, ne_eq, not_false_eq_true, not_true_eq_false, Int.reduceToNat, reduceIte, reduceCtorEq, true_and, and_true, implies_true, forall_const, decide_eq_true_eq, decide_eq_false_iff_not, Decidable.not_not, imp_self, and_self, decide_true, decide_false, Int.reduceEq, Int.reduceLT, Int.reduceLE, eq_self, ↓avp_condG, condG_bool, ↓tf_arrow, ↓ft_arrow, vT.down]
  exact ⟨_, fun k e hk => hk, hq⟩
noncomputable def c_made_Picks_Num : Con := .gen m_made_Picks_Num F_made_Picks_Num
theorem ok_made_Picks_Num : COk Try.prog 28 c_made_Picks_Num := fn_gok sys_made_Picks_Num mixed Try.func28 (by kernel_rfl) geq_made_Picks_Num Try.ntmps28 (by rw [Try.results28]) mono_made_Picks_Num ex_made_Picks_Num body_made_Picks_Num
end Go.Proofs.Ythhgaeeeppipnaa


namespace Go.Proofs.Ythhgaeeeppipnaa
open Go Go.Eng
/-- Numbers, some of which are read: nothing else is changed. -/
def PkI (s S : Store) (g : Nat) (l : List Byt) : Prop := ∃ n, S.f g = some (pkE l n) ∧ n ≤ l.length ∧ l.length ≤ 1099511627776 ∧ ∀ k e, k ≠ g → s.f k = some e → S.f k = some e
def pkF (P : AV → Prop) (g : Nat) (s : Store) (Q : AV → Store → Prop) : Prop := ∃ l, PkI s s g l ∧ ∀ r S, P r → PkI s S g l → Q r S
theorem pkF_mono {P : AV → Prop} {g : Nat} {s : Store} {Q Q' : AV → Store → Prop} (hq : ∀ r t, Q r t → Q' r t) : pkF P g s Q → pkF P g s Q' := fun ⟨l, h, hh⟩ => ⟨l, h, fun r S a b => hq _ _ (hh r S a b)⟩
theorem pkF_ex {P : AV → Prop} {g : Nat} {s : Store} {Q : AV → Store → Prop} (hp : ∃ r, P r) : pkF P g s Q → ∃ r t, Q r t := fun ⟨l, h, hh⟩ => let ⟨r, hr⟩ := hp; ⟨r, s, hh r s hr h⟩
theorem PkI.refl' {s S : Store} {g : Nat} {l : List Byt} (h : PkI s S g l) : PkI S S g l := let ⟨n, a, b, c, _⟩ := h; ⟨n, a, b, c, fun _ _ _ h => h⟩
theorem PkI.trans {s S S' : Store} {g : Nat} {l : List Byt} (h : PkI s S g l) (h' : PkI S S' g l) : PkI s S' g l := let ⟨_, _, _, _, d⟩ := h; let ⟨n, a, b, c, d'⟩ := h'; ⟨n, a, b, c, fun k e hk hs => d' k e hk (d k e hk hs)⟩
theorem PkI.fresh {s S : Store} {g : Nat} {l : List Byt} (h : PkI s S g l) {k : Nat} {e : Option Entry} (hk : S.f k = none) : PkI s (S.set k e) g l := by
  obtain ⟨n, a, b, c, d⟩ := h
  refine ⟨n, ?_, b, c, fun j e' hj hs => ?_⟩
  · rw [Store.set_other _ _ (fun h => by rw [← h, a] at hk; cases hk)]; exact a
  · have := d j e' hj hs
    rw [Store.set_other _ _ (fun h => by rw [← h, this] at hk; cases hk)]; exact this
theorem PkI.box {s S : Store} {g : Nat} {l : List Byt} (h : PkI s S g l) {k : Nat} {e : Option Entry} (hk : s.f k = none) (hkg : k ≠ g) : PkI s (S.set k e) g l := by
  obtain ⟨n, a, b, c, d⟩ := h
  refine ⟨n, ?_, b, c, fun j e' hj hs => ?_⟩
  · rw [Store.set_other _ _ hkg.symm]; exact a
  · rw [Store.set_other _ _ (fun h => by rw [h, hk] at hs; cases hs)]; exact d j e' hj hs
theorem PkI.keep {s S : Store} {g : Nat} {l : List Byt} (h : PkI s S g l) {k : Nat} {e : Entry} (hk : s.f k = some e) (hkg : k ≠ g) : S.f k = some e := let ⟨_, _, _, _, d⟩ := h; d k e hkg hk
theorem PkI.ne {s S : Store} {g : Nat} {l : List Byt} (h : PkI s S g l) {k : Nat} (hk : S.f k = none) : k ≠ g := fun e => by
  obtain ⟨n, a, _⟩ := h
  rw [e, a] at hk; cases hk
theorem PkI.old {s S : Store} {g : Nat} {l : List Byt} (h : PkI s S g l) {k : Nat} (hk : S.f k = none) : s.f k = none := by
  cases hs : s.f k with
  | none => rfl
  | some e => have := h.keep hs (h.ne hk); rw [hk] at this; cases this
/-- A number is chosen. -/
theorem num_any {s : Store} {g : Nat} {l : List Byt} {m : Int} {Q : AV → Store → Prop} (h : PkI s s g l) (hm : 1 ≤ m) (hq : ∀ v S, 0 ≤ v → v < m → PkI s S g l → Q (.t (.int .i64 v)) S) : F_made_Picks_Num [.ptr g 0, .t (.int .i64 m)] s Q := by
  obtain ⟨n, a, b, c, _⟩ := h
  refine ⟨g, l, n, m, rfl, a, c, b, ?_⟩
  obtain ⟨h1, h2⟩ := numV_bd (l := l) (n := n) hm
  exact hq _ _ h1 h2 ⟨_, Store.set_same _ _ _, numN_bd b, c, fun k e hk hs => by rw [Store.set_other _ _ hk]; exact hs⟩
def pathS : List (List UInt8) := [[97], [98], [99], [97, 47, 98], [97, 47, 99], [98, 47, 97], [97, 47, 98, 47, 99], [100], [99, 47, 100], [], [47, 97], [97, 47, 47, 98], [116, 111, 111, 108, 111, 110, 103, 110, 97, 109, 101], [65], [46, 46]]
def pathP (r : AV) : Prop := ∃ p : List UInt8, r = .t (.str p) ∧ p.length ≤ 255
def G_made_Picks_Path : GCode := .seq (.region [⟨(some 2), none, .assign (.const (.string ⟨#[]⟩))⟩]) (.seq (.region [⟨(some 3), none, .buildSlice 31 15 #[(0, .const (.string ⟨#[97]⟩)), (1, .const (.string ⟨#[98]⟩)), (2, .const (.string ⟨#[99]⟩)), (3, .const (.string ⟨#[97, 47, 98]⟩)), (4, .const (.string ⟨#[97, 47, 99]⟩)), (5, .const (.string ⟨#[98, 47, 97]⟩)), (6, .const (.string ⟨#[97, 47, 98, 47, 99]⟩)), (7, .const (.string ⟨#[100]⟩)), (8, .const (.string ⟨#[99, 47, 100]⟩)), (9, .const (.string ⟨#[]⟩)), (10, .const (.string ⟨#[47, 97]⟩)), (11, .const (.string ⟨#[97, 47, 47, 98]⟩)), (12, .const (.string ⟨#[116, 111, 111, 108, 111, 110, 103, 110, 97, 109, 101]⟩)), (13, .const (.string ⟨#[65]⟩)), (14, .const (.string ⟨#[46, 46]⟩))]⟩, ⟨(some 4), none, .move (.tmp 0)⟩, ⟨(some 5), none, .call ⟨.value (.func 28), #[.tmp 4, .const (.int .i64 15)], #[40, 3]⟩⟩, ⟨(some 6), none, .indexAddr 31 (.tmp 3) (.tmp 5)⟩, ⟨(some 7), none, .load 9 (.tmp 6)⟩, ⟨(some 2), none, .assign (.tmp 7)⟩]) (.ret))
noncomputable def l_made_Picks_Path : List (Nat × Con) := [(28, c_made_Picks_Num)]
noncomputable abbrev K_made_Picks_Path : Ctx := ctx (cl l_made_Picks_Path)
theorem geq_made_Picks_Path : gof K_made_Picks_Path Try.f41 = some G_made_Picks_Path.strip := by kernel_rfl
theorem sys_made_Picks_Path : Go.Eng.Sys Try.prog K_made_Picks_Path := sys_of' ⟨ok_made_Picks_Num, trivial⟩
theorem hm_made_Picks_Path : ConMono K_made_Picks_Path := conMono_of sys_made_Picks_Path.con
noncomputable def k_made_Picks_Path_made_Picks_Num := PLift.up (call_gen (C := K_made_Picks_Path) (f := 28) (modes := m_made_Picks_Num) (F := F_made_Picks_Num) rfl)
def m_made_Picks_Path : List Bool := [true]
def F_made_Picks_Path (xs : List AV) (s : Store) (Q : AV → Store → Prop) : Prop := ∃ g, xs = [.ptr g 0] ∧ pkF pathP g s Q
theorem mono_made_Picks_Path (xs : List AV) (s : Store) (Q Q' : AV → Store → Prop) (hq : ∀ r t, Q r t → Q' r t) : F_made_Picks_Path xs s Q → F_made_Picks_Path xs s Q' := fun ⟨g, a, b⟩ => ⟨g, a, pkF_mono hq b⟩
theorem ex_made_Picks_Path (xs : List AV) (s : Store) (Q : AV → Store → Prop) : F_made_Picks_Path xs s Q → ∃ r t, Q r t := fun ⟨_, _, b⟩ => pkF_ex ⟨_, [], rfl, by simp⟩ b
set_option maxRecDepth 10000 in
theorem body_made_Picks_Path (xs : List AV) (s : Store) (Q : AV → Store → Prop) (h : F_made_Picks_Path xs s Q) : xs.length ≤ 8 ∧ avp K_made_Picks_Path G_made_Picks_Path (Ret K_made_Picks_Path [.tmp 2] fun r s' => ∃ s'', Sub s'' s' ∧ Q r s'') (entry xs s) := by
  obtain ⟨g, rfl, l, h, hq⟩ := h
  refine ⟨by simp, ?_⟩
  unfold G_made_Picks_Path
  simp only [vQ.down, vZ.down, vS.down, vE.down, Nat.reduceEqDiff, Nat.reduceAdd, Nat.reduceSub, Nat.reduceMul, Nat.reduceLeDiff, Nat.reduceLT, ne_eq, not_false_eq_true, not_true_eq_false, Int.reduceToNat, reduceIte, reduceCtorEq, true_and, and_true, implies_true, forall_const, decide_eq_true_eq, decide_eq_false_iff_not, Decidable.not_not, imp_self, and_self, decide_true, decide_false, Int.reduceEq, Int.reduceLT, Int.reduceLE, eq_self, ↓avp_condG, condG_bool, ↓tf_arrow, ↓ft_arrow]
  intro g3 hg3
  simp only [vQ.down, vZ.down, vS.down, vE.down, Nat.reduceEqDiff, Nat.reduceAdd, Nat.reduceSub, Nat.reduceMul, Nat.reduceLeDiff, Nat.reduceLT, ne_eq, not_false_eq_true, not_true_eq_false, Int.reduceToNat, reduceIte, reduceCtorEq, true_and, and_true, implies_true, forall_const, decide_eq_true_eq, decide_eq_false_iff_not, Decidable.not_not, imp_self, and_self, decide_true, decide_false, Int.reduceEq, Int.reduceLT, Int.reduceLE, eq_self, ↓avp_condG, condG_bool, ↓tf_arrow, ↓ft_arrow, k_made_Picks_Path_made_Picks_Num.down, m_made_Picks_Num]
  have h1 : PkI s (s.set g3 (some (.row 1 (pathS.map Cell.enc) false))) g l := h.fresh hg3
  refine num_any h1.refl' (by omega) fun v S hv0 hv1 h2 => ?_
  have h3 := h2.keep (Store.set_same _ _ _) (h.ne hg3)
  obtain ⟨i, rfl⟩ : ∃ i : Nat, v = (i : Int) := ⟨v.toNat, by omega⟩
  have hi : i < pathS.length := by show i < 15; omega
  have hrow := rowL_at (α := List UInt8) (w := 1) rfl h3 hi
  have hp : (pathS.getD i default).length ≤ 255 := by
    have : ∀ i, i < 15 → (pathS.getD i default).length ≤ 255 := by decide
    exact this i hi
  simp only [vQ.down, vZ.down, vS.down, vE.down, Nat.reduceEqDiff, Nat.reduceAdd, Nat.reduceSub, Nat.reduceMul, Nat.reduceLeDiff, Nat.reduceLT, ne_eq, not_false_eq_true, not_true_eq_false, Int.reduceToNat, reduceIte, reduceCtorEq, true_and, and_true, implies_true, forall_const, decide_eq_true_eq, decide_eq_false_iff_not, Decidable.not_not, imp_self, and_self, decide_true, decide_false, Int.reduceEq, Int.reduceLT, Int.reduceLE, eq_self, ↓avp_condG, condG_bool, ↓tf_arrow, ↓ft_arrow, hrow]
  refine ⟨by omega, ?_⟩
  simp only [vQ.down, vZ.down, vS.down, vE.down, Nat.reduceEqDiff, Nat.reduceAdd, Nat.reduceSub, Nat.reduceMul, Nat.reduceLeDiff, Nat.reduceLT, ne_eq, not_false_eq_true, not_true_eq_false, Int.reduceToNat, reduceIte, reduceCtorEq, true_and, and_true, implies_true, forall_const, decide_eq_true_eq, decide_eq_false_iff_not, Decidable.not_not, imp_self, and_self, decide_true, decide_false, Int.reduceEq, Int.reduceLT, Int.reduceLE, eq_self, ↓avp_condG, condG_bool, ↓tf_arrow, ↓ft_arrow, vT.down]
  exact ⟨S, fun _ _ h => h, hq _ _ ⟨_, rfl, hp⟩ (h1.trans h2)⟩
noncomputable def c_made_Picks_Path : Con := .gen m_made_Picks_Path F_made_Picks_Path
theorem ok_made_Picks_Path : COk Try.prog 41 c_made_Picks_Path := fn_gok sys_made_Picks_Path mixed Try.func41 (by kernel_rfl) geq_made_Picks_Path Try.ntmps41 (by rw [Try.results41]) mono_made_Picks_Path ex_made_Picks_Path body_made_Picks_Path

theorem u8_wrap (x : Int) : IntKind.u8.wrap x = ((byt x).toNat : Int) := by
  rw [byt_nat]
  simp [IntKind.wrap, IntKind.signed, IntKind.bits]
def textP (r : AV) : Prop := ∃ p : List UInt8, r = .t (.str p) ∧ p.length ≤ 255
def G_made_Picks_Text : GCode := .seq (.region [⟨(some 2), none, .assign (.const (.string ⟨#[]⟩))⟩]) (.seq (.region [⟨(some 7), none, .buildSlice 22 8 #[(0, .const (.int .i64 0)), (1, .const (.int .i64 1)), (2, .const (.int .i64 3)), (3, .const (.int .i64 17)), (4, .const (.int .i64 32)), (5, .const (.int .i64 33)), (6, .const (.int .i64 64)), (7, .const (.int .i64 129))]⟩, ⟨(some 8), none, .move (.tmp 0)⟩, ⟨(some 9), none, .call ⟨.value (.func 28), #[.tmp 8, .const (.int .i64 8)], #[40, 3]⟩⟩, ⟨(some 10), none, .indexAddr 22 (.tmp 7) (.tmp 9)⟩, ⟨(some 11), none, .load 3 (.tmp 10)⟩, ⟨(some 3), none, .assign (.tmp 11)⟩]) (.seq (.region [⟨(some 12), none, .move (.tmp 0)⟩, ⟨(some 13), none, .call ⟨.value (.func 28), #[.tmp 12, .const (.int .i64 4)], #[40, 3]⟩⟩, ⟨(some 14), none, .binOp .mul 3 (.tmp 13) (.const (.int .i64 40)) 3⟩, ⟨(some 15), none, .convert 3 5 (.tmp 14)⟩, ⟨(some 4), none, .assign (.tmp 15)⟩]) (.seq (.region [⟨(some 16), none, .move (.tmp 3)⟩, ⟨(some 17), none, .makeSlice 25 (.tmp 16) (.tmp 16)⟩, ⟨(some 5), none, .assign (.tmp 17)⟩]) (.seq (.seq (.region [⟨(some 6), none, .assign (.const (.int .i64 0))⟩]) (.block 0 (.loop (.seq .weak (.seq (.seq (.region [⟨(some 18), none, .move (.tmp 6)⟩, ⟨(some 19), none, .move (.tmp 3)⟩, ⟨(some 20), none, .binOp .lss 3 (.tmp 18) (.tmp 19) 3⟩]) (.cond (.tmp 20) (.skip) (.exit 0))) (.seq (.block 1 (.seq (.region [⟨(some 23), none, .move (.tmp 4)⟩, ⟨(some 24), none, .binOp .gtr 5 (.tmp 23) (.const (.int .u8 0)) 5⟩]) (.cond (.tmp 24) (.region [⟨(some 25), none, .move (.tmp 5)⟩, ⟨(some 26), none, .move (.tmp 6)⟩, ⟨(some 27), none, .move (.tmp 4)⟩, ⟨(some 28), none, .move (.tmp 6)⟩, ⟨(some 29), none, .binOp .rem 3 (.tmp 28) (.const (.int .i64 5)) 3⟩, ⟨(some 30), none, .convert 3 5 (.tmp 29)⟩, ⟨(some 31), none, .binOp .add 5 (.tmp 27) (.tmp 30) 5⟩, ⟨(some 32), none, .indexAddr 25 (.tmp 25) (.tmp 26)⟩, ⟨none, none, .store 5 (.tmp 32) (.tmp 31)⟩]) (.skip)))) (.region [⟨(some 21), none, .move (.tmp 6)⟩, ⟨(some 22), none, .binOp .add 3 (.tmp 21) (.const (.int .i64 1)) 3⟩, ⟨(some 6), none, .assign (.tmp 22)⟩]))))))) (.seq (.region [⟨(some 33), none, .move (.tmp 5)⟩, ⟨(some 34), none, .convert 25 9 (.tmp 33)⟩, ⟨(some 2), none, .assign (.tmp 34)⟩]) (.ret))))))
noncomputable def l_made_Picks_Text : List (Nat × Con) := [(28, c_made_Picks_Num)]
noncomputable abbrev K_made_Picks_Text : Ctx := ctx (cl l_made_Picks_Text)
theorem geq_made_Picks_Text : gof K_made_Picks_Text Try.f42 = some G_made_Picks_Text.strip := by kernel_rfl
theorem sys_made_Picks_Text : Go.Eng.Sys Try.prog K_made_Picks_Text := sys_of' ⟨ok_made_Picks_Num, trivial⟩
theorem hm_made_Picks_Text : ConMono K_made_Picks_Text := conMono_of sys_made_Picks_Text.con
noncomputable def k_made_Picks_Text_made_Picks_Num := PLift.up (call_gen (C := K_made_Picks_Text) (f := 28) (modes := m_made_Picks_Num) (F := F_made_Picks_Num) rfl)
def m_made_Picks_Text : List Bool := [true]
def F_made_Picks_Text (xs : List AV) (s : Store) (Q : AV → Store → Prop) : Prop := ∃ g, xs = [.ptr g 0] ∧ pkF textP g s Q
theorem mono_made_Picks_Text (xs : List AV) (s : Store) (Q Q' : AV → Store → Prop) (hq : ∀ r t, Q r t → Q' r t) : F_made_Picks_Text xs s Q → F_made_Picks_Text xs s Q' := fun ⟨g, a, b⟩ => ⟨g, a, pkF_mono hq b⟩
theorem ex_made_Picks_Text (xs : List AV) (s : Store) (Q : AV → Store → Prop) : F_made_Picks_Text xs s Q → ∃ r t, Q r t := fun ⟨_, _, b⟩ => pkF_ex ⟨_, [], rfl, by simp⟩ b
def lenS : List Int := [0, 1, 3, 17, 32, 33, 64, 129]
set_option maxRecDepth 10000 in
theorem body_made_Picks_Text (xs : List AV) (s : Store) (Q : AV → Store → Prop) (h : F_made_Picks_Text xs s Q) : xs.length ≤ 35 ∧ avp K_made_Picks_Text G_made_Picks_Text (Ret K_made_Picks_Text [.tmp 2] fun r s' => ∃ s'', Sub s'' s' ∧ Q r s'') (entry xs s) := by
  obtain ⟨g, rfl, l, h, hq⟩ := h
  refine ⟨by simp, ?_⟩
  unfold G_made_Picks_Text
  simp only [vQ.down, vZ.down, vS.down, vE.down, Nat.reduceEqDiff, Nat.reduceAdd, Nat.reduceSub, Nat.reduceMul, Nat.reduceLeDiff, Nat.reduceLT, ne_eq, not_false_eq_true, not_true_eq_false, Int.reduceToNat, reduceIte, reduceCtorEq, true_and, and_true, implies_true, forall_const, decide_eq_true_eq, decide_eq_false_iff_not, Decidable.not_not, imp_self, and_self, decide_true, decide_false, Int.reduceEq, Int.reduceLT, Int.reduceLE, eq_self, ↓avp_condG, condG_bool, ↓tf_arrow, ↓ft_arrow]
  intro g3 hg3
  simp only [vQ.down, vZ.down, vS.down, vE.down, Nat.reduceEqDiff, Nat.reduceAdd, Nat.reduceSub, Nat.reduceMul, Nat.reduceLeDiff, Nat.reduceLT, ne_eq, not_false_eq_true, not_true_eq_false, Int.reduceToNat, reduceIte, reduceCtorEq, true_and, and_true, implies_true, forall_const, decide_eq_true_eq, decide_eq_false_iff_not, Decidable.not_not, imp_self, and_self, decide_true, decide_false, Int.reduceEq, Int.reduceLT, Int.reduceLE, eq_self, ↓avp_condG, condG_bool, ↓tf_arrow, ↓ft_arrow, k_made_Picks_Text_made_Picks_Num.down, m_made_Picks_Num]
  have h1 : PkI s (s.set g3 (some (.row 1 (lenS.map Cell.enc) false))) g l := h.fresh hg3
  refine num_any h1.refl' (by omega) fun v S hv0 hv1 h2 => ?_
  have h3 := h2.keep (Store.set_same _ _ _) (h.ne hg3)
  obtain ⟨i, rfl⟩ : ∃ i : Nat, v = (i : Int) := ⟨v.toNat, by omega⟩
  have hi : i < lenS.length := by show i < 8; omega
  have hrow := rowL_at (α := Int) (w := 1) rfl h3 hi
  obtain ⟨n, hn, hn2⟩ : ∃ n : Nat, lenS.getD i default = (n : Int) ∧ n ≤ 129 := by
    have : ∀ i, i < 8 → (lenS.getD i default).toNat ≤ 129 ∧ 0 ≤ lenS.getD i default := by decide
    have := this i hi
    exact ⟨(lenS.getD i default).toNat, by omega, this.1⟩
  simp only [vQ.down, vZ.down, vS.down, vE.down, Nat.reduceEqDiff, Nat.reduceAdd, Nat.reduceSub, Nat.reduceMul, Nat.reduceLeDiff, Nat.reduceLT, ne_eq, not_false_eq_true, not_true_eq_false, Int.reduceToNat, reduceIte, reduceCtorEq, true_and, and_true, implies_true, forall_const, decide_eq_true_eq, decide_eq_false_iff_not, Decidable.not_not, imp_self, and_self, decide_true, decide_false, Int.reduceEq, Int.reduceLT, Int.reduceLE, eq_self, ↓avp_condG, condG_bool, ↓tf_arrow, ↓ft_arrow, hrow, hn, k_made_Picks_Text_made_Picks_Num.down, m_made_Picks_Num]
  refine ⟨by omega, ?_⟩
  have h4 := h1.trans h2
  refine num_any h4.refl' (by omega) fun c S2 hc0 hc1 h5 => ?_
  have h6 := h4.trans h5
  simp only [vQ.down, vZ.down, vS.down, vE.down, Nat.reduceEqDiff, Nat.reduceAdd, Nat.reduceSub, Nat.reduceMul, Nat.reduceLeDiff, Nat.reduceLT, ne_eq, not_false_eq_true, not_true_eq_false, Int.reduceToNat, reduceIte, reduceCtorEq, true_and, and_true, implies_true, forall_const, decide_eq_true_eq, decide_eq_false_iff_not, Decidable.not_not, imp_self, and_self, decide_true, decide_false, Int.reduceEq, Int.reduceLT, Int.reduceLE, eq_self, ↓avp_condG, condG_bool, ↓tf_arrow, ↓ft_arrow]
  ((repeat' with_reducible refine And.intro ?_ ?_) <;> try (first | omega | (simp only [List.length_take, List.length_drop, List.length_append, List.length_map, List.length_replicate] <;> omega)))
  intro gb hgb
  have hgbs := h6.old hgb
  have hgbg := h6.ne hgb
  obtain ⟨cv, hcv⟩ : ∃ cv, cv = IntKind.u8.wrap (IntKind.i64.wrap (c * 40)) := ⟨_, rfl⟩
  rw [← hcv]
  have hrep : List.replicate n [TV.int .u8 0] = ((List.replicate n (0 : UInt8)).map Byt.mk).map Cell.enc := by simp only [List.map_replicate]; rfl
  rw [hrep]
  refine loop_weak hm_made_Picks_Text (fun m σ => ∃ (j : Nat) (bs : List UInt8) (S : Store), m = n - j ∧ j ≤ n ∧ bs.length = n ∧ S.f gb = some (.row 1 ((bs.map Byt.mk).map Cell.enc) false) ∧ PkI s S g l ∧
    σ = mkS [(3, .t (.int .i64 (n : Nat))), (4, .t (.int .u8 cv)), (5, .tok gb 1 0 n), (6, .t (.int .i64 (j : Nat)))] S)
    ⟨0, List.replicate n 0, (S2.set gb (some (.row 1 (((List.replicate n (0 : UInt8)).map Byt.mk).map Cell.enc) false))), rfl, by omega, by simp, Store.set_same _ _ _, h6.box hgbs hgbg, rfl⟩ (wk_to fewer_refl (by simp only [vQ.down, vZ.down, vS.down, vE.down, Nat.reduceEqDiff, Nat.reduceAdd, Nat.reduceSub, Nat.reduceMul, Nat.reduceLeDiff, Nat.reduceLT, ne_eq, not_false_eq_true, not_true_eq_false, Int.reduceToNat, reduceIte, reduceCtorEq, true_and, and_true, implies_true, forall_const, decide_eq_true_eq, decide_eq_false_iff_not, Decidable.not_not, imp_self, and_self, decide_true, decide_false, Int.reduceEq, Int.reduceLT, Int.reduceLE, eq_self, ↓avp_condG, condG_bool, ↓tf_arrow, ↓ft_arrow, wkAll_cons, wkAll_nil, w2_refl, w2_nil, w2_emp, empty_none, Int.natCast_zero])) ?_
  rintro m _ ⟨j, bs, S3, rfl, hj, hbs, hrw, h7, rfl⟩
  have hj1 : IntKind.i64.wrap ((j : Int) + 1) = ((j + 1 : Nat) : Int) := by rw [IntWalk.i64_in _ (by omega)]; rfl
  by_cases hlt : j < n
  case neg =>
    obtain rfl : j = n := by omega
    have hge : ¬ ((j : Int) < (j : Int)) := by omega
    have hcv2 : convB K_made_Picks_Text S3 25 9 (.tok gb 1 0 j) = .val True (.t (.str bs)) := by
      have ht : ((((bs.map Byt.mk).map Cell.enc).drop 0).take j) = (bs.map Byt.mk).map Cell.enc := by rw [List.drop_zero, List.take_of_length_le (by simp [hbs])]
      simp only [convB, ty_Luint8, ty_uint8, ty_string, hrw, ht, u8s_enc, map_v]
      simp [hbs]
    simp only [vQ.down, vZ.down, vS.down, vE.down, Nat.reduceEqDiff, Nat.reduceAdd, Nat.reduceSub, Nat.reduceMul, Nat.reduceLeDiff, Nat.reduceLT, ne_eq, not_false_eq_true, not_true_eq_false, Int.reduceToNat, reduceIte, reduceCtorEq, true_and, and_true, implies_true, forall_const, decide_eq_true_eq, decide_eq_false_iff_not, Decidable.not_not, imp_self, and_self, decide_true, decide_false, Int.reduceEq, Int.reduceLT, Int.reduceLE, eq_self, ↓avp_condG, condG_bool, ↓tf_arrow, ↓ft_arrow, hge, hcv2]
    simp only [vQ.down, vZ.down, vS.down, vE.down, Nat.reduceEqDiff, Nat.reduceAdd, Nat.reduceSub, Nat.reduceMul, Nat.reduceLeDiff, Nat.reduceLT, ne_eq, not_false_eq_true, not_true_eq_false, Int.reduceToNat, reduceIte, reduceCtorEq, true_and, and_true, implies_true, forall_const, decide_eq_true_eq, decide_eq_false_iff_not, Decidable.not_not, imp_self, and_self, decide_true, decide_false, Int.reduceEq, Int.reduceLT, Int.reduceLE, eq_self, ↓avp_condG, condG_bool, ↓tf_arrow, ↓ft_arrow, vT.down]
    exact ⟨S3, fun _ _ h => h, hq _ _ ⟨bs, rfl, by omega⟩ h7⟩
  have hlt' : (j : Int) < (n : Int) := by omega
  by_cases hc : 0 < cv
  · simp only [vQ.down, vZ.down, vS.down, vE.down, Nat.reduceEqDiff, Nat.reduceAdd, Nat.reduceSub, Nat.reduceMul, Nat.reduceLeDiff, Nat.reduceLT, ne_eq, not_false_eq_true, not_true_eq_false, Int.reduceToNat, reduceIte, reduceCtorEq, true_and, and_true, implies_true, forall_const, decide_eq_true_eq, decide_eq_false_iff_not, Decidable.not_not, imp_self, and_self, decide_true, decide_false, Int.reduceEq, Int.reduceLT, Int.reduceLE, eq_self, ↓avp_condG, condG_bool, ↓tf_arrow, ↓ft_arrow, hlt', hc, gt_iff_lt, u8_wrap, hrw, put_byt, set_byt, List.length_map, hbs]
    refine ⟨by omega, hlt, by simp, ?_⟩
    exact round_to (n - (j + 1)) [(3, .t (.int .i64 (n : Nat))), (4, .t (.int .u8 cv)), (5, .tok gb 1 0 n), (6, .t (.int .i64 (j + 1 : Nat)))] _ (by omega) fewer_refl (by simp only [vQ.down, vZ.down, vS.down, vE.down, Nat.reduceEqDiff, Nat.reduceAdd, Nat.reduceSub, Nat.reduceMul, Nat.reduceLeDiff, Nat.reduceLT, ne_eq, not_false_eq_true, not_true_eq_false, Int.reduceToNat, reduceIte, reduceCtorEq, true_and, and_true, implies_true, forall_const, decide_eq_true_eq, decide_eq_false_iff_not, Decidable.not_not, imp_self, and_self, decide_true, decide_false, Int.reduceEq, Int.reduceLT, Int.reduceLE, eq_self, ↓avp_condG, condG_bool, ↓tf_arrow, ↓ft_arrow, wkAll_cons, wkAll_nil, w2_refl, w2_nil, w2_emp, empty_none, hj1]) ⟨j + 1, bs.set j (byt (cv + ((byt ((j : Int).tmod 5)).toNat : Int))), _, rfl, hlt, by rw [List.length_set, hbs], Store.set_same _ _ _, h7.box hgbs hgbg, rfl⟩
  · simp only [vQ.down, vZ.down, vS.down, vE.down, Nat.reduceEqDiff, Nat.reduceAdd, Nat.reduceSub, Nat.reduceMul, Nat.reduceLeDiff, Nat.reduceLT, ne_eq, not_false_eq_true, not_true_eq_false, Int.reduceToNat, reduceIte, reduceCtorEq, true_and, and_true, implies_true, forall_const, decide_eq_true_eq, decide_eq_false_iff_not, Decidable.not_not, imp_self, and_self, decide_true, decide_false, Int.reduceEq, Int.reduceLT, Int.reduceLE, eq_self, ↓avp_condG, condG_bool, ↓tf_arrow, ↓ft_arrow, hlt', hc, gt_iff_lt]
    exact round_to (n - (j + 1)) [(3, .t (.int .i64 (n : Nat))), (4, .t (.int .u8 cv)), (5, .tok gb 1 0 n), (6, .t (.int .i64 (j + 1 : Nat)))] S3 (by omega) fewer_refl (by simp only [vQ.down, vZ.down, vS.down, vE.down, Nat.reduceEqDiff, Nat.reduceAdd, Nat.reduceSub, Nat.reduceMul, Nat.reduceLeDiff, Nat.reduceLT, ne_eq, not_false_eq_true, not_true_eq_false, Int.reduceToNat, reduceIte, reduceCtorEq, true_and, and_true, implies_true, forall_const, decide_eq_true_eq, decide_eq_false_iff_not, Decidable.not_not, imp_self, and_self, decide_true, decide_false, Int.reduceEq, Int.reduceLT, Int.reduceLE, eq_self, ↓avp_condG, condG_bool, ↓tf_arrow, ↓ft_arrow, wkAll_cons, wkAll_nil, w2_refl, w2_nil, w2_emp, empty_none, hj1]) ⟨j + 1, bs, S3, rfl, hlt, hbs, hrw, h7, rfl⟩
noncomputable def c_made_Picks_Text : Con := .gen m_made_Picks_Text F_made_Picks_Text
theorem ok_made_Picks_Text : COk Try.prog 42 c_made_Picks_Text := fn_gok sys_made_Picks_Text mixed Try.func42 (by kernel_rfl) geq_made_Picks_Text Try.ntmps42 (by rw [Try.results42]) mono_made_Picks_Text ex_made_Picks_Text body_made_Picks_Text
end Go.Proofs.Ythhgaeeeppipnaa


namespace Go.Proofs.Ythhgaeeeppipnaa
open Go Go.Eng
theorem good_def {x : TStep} (h1 : 1 ≤ x.Kind) (h2 : x.Kind ≤ 22) (h3 : inL x) (h4 : norm x = x) : good x = true := by
  unfold good
  simp only [Bool.and_eq_true, decide_eq_true_eq]
  exact ⟨⟨⟨h1, h2⟩, h3⟩, h4⟩
def n2 (n : Int) : Prop := 0 ≤ n ∧ n < 65536
theorem gd_make {k id n : Int} {p : List UInt8} (hk : k = 1 ∨ k = 5) (h1 : n2 id) (h2 : n2 n) (hp : p.length ≤ 255) : good ⟨k, id, n, 0, 0, p, [], [], []⟩ = true := by
  have e : fldL k = [0, 1, 4] := by rcases hk with rfl | rfl <;> rfl
  refine good_def (by show 1 ≤ k; omega) (by show k ≤ 22; omega) (by simp [inL, hp]) ?_
  simp [norm, setX, setN, step0, e, setF, msk, getN, getX, wd, two6, Int.emod_eq_of_lt h1.1 h1.2, Int.emod_eq_of_lt h2.1 h2.2]
theorem gd_drop {k id : Int} {p : List UInt8} (hk : k = 2 ∨ k = 7 ∨ k = 8) (h1 : n2 id) (hp : p.length ≤ 255) : good ⟨k, id, 0, 0, 0, p, [], [], []⟩ = true := by
  have e : fldL k = [0, 4] := by rcases hk with rfl | rfl | rfl <;> rfl
  refine good_def (by show 1 ≤ k; omega) (by show k ≤ 22; omega) (by simp [inL, hp]) ?_
  simp [norm, setX, setN, step0, e, setF, msk, getN, getX, wd, two6, Int.emod_eq_of_lt h1.1 h1.2]
theorem gd_move {id : Int} {p q : List UInt8} (h1 : n2 id) (hp : p.length ≤ 255) (hq : q.length ≤ 255) : good ⟨3, id, 0, 0, 0, p, q, [], []⟩ = true := by
  have e : fldL 3 = [0, 4, 5] := rfl
  refine good_def (by show (1 : Int) ≤ 3; omega) (by show (3 : Int) ≤ 22; omega) (by simp [inL, hp, hq]) ?_
  simp [norm, setX, setN, step0, e, setF, msk, getN, getX, wd, two6, Int.emod_eq_of_lt h1.1 h1.2]
theorem gd_write {id n : Int} {p q : List UInt8} (h1 : n2 id) (h2 : n2 n) (hp : p.length ≤ 255) (hq : q.length ≤ 255) : good ⟨4, id, n, 0, 0, p, [], q, []⟩ = true := by
  have e : fldL 4 = [0, 1, 4, 6] := rfl
  refine good_def (by show (1 : Int) ≤ 4; omega) (by show (4 : Int) ≤ 22; omega) (by simp [inL, hp, hq]) ?_
  simp [norm, setX, setN, step0, e, setF, msk, getN, getX, wd, two6, Int.emod_eq_of_lt h1.1 h1.2, Int.emod_eq_of_lt h2.1 h2.2]
theorem gd_read {id n m : Int} {p : List UInt8} (h1 : n2 id) (h2 : n2 n) (h3 : n2 m) (hp : p.length ≤ 255) : good ⟨6, id, n, m, 0, p, [], [], []⟩ = true := by
  have e : fldL 6 = [0, 1, 2, 4] := rfl
  refine good_def (by show (1 : Int) ≤ 6; omega) (by show (6 : Int) ≤ 22; omega) (by simp [inL, hp]) ?_
  simp [norm, setX, setN, step0, e, setF, msk, getN, getX, wd, two6, Int.emod_eq_of_lt h1.1 h1.2, Int.emod_eq_of_lt h2.1 h2.2, Int.emod_eq_of_lt h3.1 h3.2]
theorem gd_n {k n : Int} (hk : k = 9 ∨ k = 15 ∨ k = 18 ∨ k = 19 ∨ k = 20) (h2 : n2 n) : good ⟨k, 0, n, 0, 0, [], [], [], []⟩ = true := by
  have e : fldL k = [1] := by rcases hk with rfl | rfl | rfl | rfl | rfl <;> rfl
  refine good_def (by show 1 ≤ k; omega) (by show k ≤ 22; omega) (by simp [inL]) ?_
  simp [norm, setX, setN, step0, e, setF, msk, getN, getX, wd, two6, Int.emod_eq_of_lt h2.1 h2.2]
theorem gd_id {k id : Int} (hk : k = 10 ∨ k = 11 ∨ k = 12 ∨ k = 14) (h1 : n2 id) : good ⟨k, id, 0, 0, 0, [], [], [], []⟩ = true := by
  have e : fldL k = [0] := by rcases hk with rfl | rfl | rfl | rfl <;> rfl
  refine good_def (by show 1 ≤ k; omega) (by show k ≤ 22; omega) (by simp [inL]) ?_
  simp [norm, setX, setN, step0, e, setF, msk, getN, getX, wd, two6, Int.emod_eq_of_lt h1.1 h1.2]
theorem gd_back {id n : Int} (h1 : n2 id) (h2 : n2 n) : good ⟨13, id, n, 0, 0, [], [], [], []⟩ = true := by
  have e : fldL 13 = [0, 1] := rfl
  refine good_def (by show (1 : Int) ≤ 13; omega) (by show (13 : Int) ≤ 22; omega) (by simp [inL]) ?_
  simp [norm, setX, setN, step0, e, setF, msk, getN, getX, wd, two6, Int.emod_eq_of_lt h1.1 h1.2, Int.emod_eq_of_lt h2.1 h2.2]
theorem gd_none {k : Int} (hk : k = 16 ∨ k = 17) : good ⟨k, 0, 0, 0, 0, [], [], [], []⟩ = true := by
  have e : fldL k = [] := by rcases hk with rfl | rfl <;> rfl
  refine good_def (by show 1 ≤ k; omega) (by show k ≤ 22; omega) (by simp [inL]) ?_
  simp [norm, step0, e]
theorem gd_turn {n m b : Int} (h1 : n2 n) (h2 : n2 m) (h3 : 0 ≤ b ∧ b < 256) : good ⟨22, 0, n, m, b, [], [], [], []⟩ = true := by
  have e : fldL 22 = [1, 2, 3] := rfl
  refine good_def (by show (1 : Int) ≤ 22; omega) (by show (22 : Int) ≤ 22; omega) (by simp [inL]) ?_
  simp [norm, setX, setN, step0, e, setF, msk, getN, getX, wd, two6, Int.emod_eq_of_lt h1.1 h1.2, Int.emod_eq_of_lt h2.1 h2.2, Int.emod_eq_of_lt h3.1 h3.2]
theorem gd_keep {l : List Int} (h : ∀ k ∈ l, 0 ≤ k ∧ k < 4) (hl : l.length ≤ 60) : good ⟨21, 0, 0, 0, 0, [], [], [], l⟩ = true := by
  have e : fldL 21 = [7] := rfl
  refine good_def (by show (1 : Int) ≤ 21; omega) (by show (21 : Int) ≤ 22; omega) (by simp [inL, hl]) ?_
  have : l.map (fun k => k % 4) = l := by
    rw [← List.map_id l, List.map_map]
    refine List.map_congr_left fun k hk => ?_
    have := h k (by simpa using hk)
    simp only [Function.comp_apply, id]; omega
  simp only [norm, step0, e, setF, List.foldl_cons, List.foldl_nil, List.nil_append, this]; simp
def stepP (r : AV) : Prop := ∃ x : TStep, good x = true ∧ x.Keep = [] ∧ r = .agg (stC x (.t .nilS))
theorem stepP_ex : ∃ r, stepP r := ⟨_, _, gd_none (k := 16) (.inl rfl), rfl, rfl⟩
def G_made_Picks_set : GCode := .seq (.region [⟨(some 4), none, .alloc 24⟩]) (.seq (.region [⟨(some 6), none, .move (.tmp 0)⟩, ⟨(some 7), none, .call ⟨.value (.func 28), #[.tmp 6, .const (.int .i64 6)], #[40, 3]⟩⟩, ⟨(some 8), none, .binOp .add 3 (.const (.int .i64 9)) (.tmp 7) 3⟩, ⟨(some 9), none, .move (.tmp 1)⟩, ⟨(some 10), none, .build 24 #[(0, .tmp 8), (1, .tmp 9)]⟩, ⟨(some 5), none, .alloc 24⟩, ⟨none, none, .store 24 (.tmp 5) (.tmp 10)⟩]) (.seq (.seq (.region [⟨(some 11), none, .fieldAddr 24 (.tmp 5) 0⟩, ⟨(some 12), none, .load 3 (.tmp 11)⟩]) (.block 0 (.seq (.region [⟨(some 14), none, .binOp .eql 3 (.tmp 12) (.const (.int .i64 9)) 3⟩, ⟨(some 13), none, .assign (.tmp 14)⟩]) (.cond (.tmp 13) (.region [⟨(some 15), none, .move (.tmp 0)⟩, ⟨(some 16), none, .call ⟨.value (.func 28), #[.tmp 15, .const (.int .i64 9)], #[40, 3]⟩⟩, ⟨(some 17), none, .fieldAddr 24 (.tmp 5) 1⟩, ⟨none, none, .store 3 (.tmp 17) (.const (.int .i64 0))⟩, ⟨(some 18), none, .fieldAddr 24 (.tmp 5) 2⟩, ⟨none, none, .store 3 (.tmp 18) (.tmp 16)⟩]) (.seq (.region [⟨(some 20), none, .binOp .eql 3 (.tmp 12) (.const (.int .i64 13)) 3⟩, ⟨(some 19), none, .assign (.tmp 20)⟩]) (.cond (.tmp 19) (.region [⟨(some 21), none, .move (.tmp 0)⟩, ⟨(some 22), none, .call ⟨.value (.func 28), #[.tmp 21, .const (.int .i64 8)], #[40, 3]⟩⟩, ⟨(some 23), none, .binOp .add 3 (.const (.int .i64 1)) (.tmp 22) 3⟩, ⟨(some 24), none, .fieldAddr 24 (.tmp 5) 2⟩, ⟨none, none, .store 3 (.tmp 24) (.tmp 23)⟩]) (.skip))))))) (.seq (.region [⟨(some 25), none, .load 24 (.tmp 5)⟩, ⟨none, none, .store 24 (.tmp 4) (.tmp 25)⟩]) (.ret))))
noncomputable def l_made_Picks_set : List (Nat × Con) := [(28, c_made_Picks_Num)]
noncomputable abbrev K_made_Picks_set : Ctx := ctx (cl l_made_Picks_set)
theorem geq_made_Picks_set : gof K_made_Picks_set Try.f40 = some G_made_Picks_set.strip := by kernel_rfl
theorem sys_made_Picks_set : Go.Eng.Sys Try.prog K_made_Picks_set := sys_of' ⟨ok_made_Picks_Num, trivial⟩
theorem hm_made_Picks_set : ConMono K_made_Picks_set := conMono_of sys_made_Picks_set.con
noncomputable def k_made_Picks_set_made_Picks_Num := PLift.up (call_gen (C := K_made_Picks_set) (f := 28) (modes := m_made_Picks_Num) (F := F_made_Picks_Num) rfl)
def m_made_Picks_set : List Bool := [true, false]
def F_made_Picks_set (xs : List AV) (s : Store) (Q : AV → Store → Prop) : Prop := ∃ g id, xs = [.ptr g 0, .t (.int .i64 id)] ∧ n2 id ∧ pkF stepP g s Q
theorem mono_made_Picks_set (xs : List AV) (s : Store) (Q Q' : AV → Store → Prop) (hq : ∀ r t, Q r t → Q' r t) : F_made_Picks_set xs s Q → F_made_Picks_set xs s Q' := fun ⟨g, i, a, c, b⟩ => ⟨g, i, a, c, pkF_mono hq b⟩
theorem ex_made_Picks_set (xs : List AV) (s : Store) (Q : AV → Store → Prop) : F_made_Picks_set xs s Q → ∃ r t, Q r t := fun ⟨_, _, _, _, b⟩ => pkF_ex stepP_ex b
set_option maxRecDepth 10000 in
set_option maxHeartbeats 4000000 in
theorem body_made_Picks_set (xs : List AV) (s : Store) (Q : AV → Store → Prop) (h : F_made_Picks_set xs s Q) : xs.length ≤ 26 ∧ avp K_made_Picks_set G_made_Picks_set (Ret K_made_Picks_set [.cell 4 24] fun r s' => ∃ s'', Sub s'' s' ∧ Q r s'') (entry xs s) := by
  obtain ⟨g, id, rfl, hid, l, h, hq⟩ := h
  refine ⟨by simp, ?_⟩
  unfold G_made_Picks_set
  simp only [vQ.down, vZ.down, vS.down, vE.down, Nat.reduceEqDiff, Nat.reduceAdd, Nat.reduceSub, Nat.reduceMul, Nat.reduceLeDiff, Nat.reduceLT, ne_eq, not_false_eq_true, not_true_eq_false, Int.reduceToNat, reduceIte, reduceCtorEq, true_and, and_true, implies_true, forall_const, decide_eq_true_eq, decide_eq_false_iff_not, Decidable.not_not, imp_self, and_self, decide_true, decide_false, Int.reduceEq, Int.reduceLT, Int.reduceLE, eq_self, ↓avp_condG, condG_bool, ↓tf_arrow, ↓ft_arrow]
  intro g4 hg4
  simp only [vQ.down, vZ.down, vS.down, vE.down, Nat.reduceEqDiff, Nat.reduceAdd, Nat.reduceSub, Nat.reduceMul, Nat.reduceLeDiff, Nat.reduceLT, ne_eq, not_false_eq_true, not_true_eq_false, Int.reduceToNat, reduceIte, reduceCtorEq, true_and, and_true, implies_true, forall_const, decide_eq_true_eq, decide_eq_false_iff_not, Decidable.not_not, imp_self, and_self, decide_true, decide_false, Int.reduceEq, Int.reduceLT, Int.reduceLE, eq_self, ↓avp_condG, condG_bool, ↓tf_arrow, ↓ft_arrow, k_made_Picks_set_made_Picks_Num.down, m_made_Picks_Num]
  have h1 := h.fresh (e := some (stE step0 (.t .nilS))) hg4
  have n4 := h.ne hg4
  refine num_any h1.refl' (by omega) fun v S hv0 hv1 h2 => ?_
  have h3 := h1.trans h2
  have f4 := h2.keep (Store.set_same _ _ _) n4
  have w1 : IntKind.i64.wrap (9 + v) = 9 + v := IntWalk.i64_in _ (by omega)
  have z4 := hg4
  by_cases c0 : 9 + v = 9
  · have w9 : IntKind.i64.wrap 9 = 9 := by decide
    simp only [vQ.down, vZ.down, vS.down, vE.down, Nat.reduceEqDiff, Nat.reduceAdd, Nat.reduceSub, Nat.reduceMul, Nat.reduceLeDiff, Nat.reduceLT, ne_eq, not_false_eq_true, not_true_eq_false, Int.reduceToNat, reduceIte, reduceCtorEq, true_and, and_true, implies_true, forall_const, decide_eq_true_eq, decide_eq_false_iff_not, Decidable.not_not, imp_self, and_self, decide_true, decide_false, Int.reduceEq, Int.reduceLT, Int.reduceLE, eq_self, ↓avp_condG, condG_bool, ↓tf_arrow, ↓ft_arrow, w9, c0, k_made_Picks_set_made_Picks_Num.down, m_made_Picks_Num]
    intro g5 hg5
    have h5 := h3.fresh (e := some (stE ⟨9, id, 0, 0, 0, [], [], [], []⟩ (.t .nilS))) hg5
    have n5 := h3.ne hg5
    have n54 : g5 ≠ g4 := fun e => by rw [e, f4] at hg5; cases hg5
    have o4 : ∀ (T : Store) x, (T.set g5 x).f g4 = T.f g4 := fun _ _ => Store.set_other _ _ n54.symm
    have z5 := h3.old hg5
    refine num_any h5.refl' (by omega) fun n S2 hn0 hn1 h6 => ?_
    have h7 := h5.trans h6
    have f5 := h6.keep (Store.set_same _ _ _) n5
    have f4' := h6.keep ((Store.set_other _ _ n54.symm).trans f4) n4
    simp only [vQ.down, vZ.down, vS.down, vE.down, Nat.reduceEqDiff, Nat.reduceAdd, Nat.reduceSub, Nat.reduceMul, Nat.reduceLeDiff, Nat.reduceLT, ne_eq, not_false_eq_true, not_true_eq_false, Int.reduceToNat, reduceIte, reduceCtorEq, true_and, and_true, implies_true, forall_const, decide_eq_true_eq, decide_eq_false_iff_not, Decidable.not_not, imp_self, and_self, decide_true, decide_false, Int.reduceEq, Int.reduceLT, Int.reduceLE, eq_self, ↓avp_condG, condG_bool, ↓tf_arrow, ↓ft_arrow, f5, f4', o4, Store.set_same]
    simp only [vQ.down, vZ.down, vS.down, vE.down, Nat.reduceEqDiff, Nat.reduceAdd, Nat.reduceSub, Nat.reduceMul, Nat.reduceLeDiff, Nat.reduceLT, ne_eq, not_false_eq_true, not_true_eq_false, Int.reduceToNat, reduceIte, reduceCtorEq, true_and, and_true, implies_true, forall_const, decide_eq_true_eq, decide_eq_false_iff_not, Decidable.not_not, imp_self, and_self, decide_true, decide_false, Int.reduceEq, Int.reduceLT, Int.reduceLE, eq_self, ↓avp_condG, condG_bool, ↓tf_arrow, ↓ft_arrow, vT.down]
    exact ⟨_, fun _ _ h => h, hq _ _ ⟨⟨9, 0, n, 0, 0, [], [], [], []⟩, gd_n (.inl rfl) ⟨hn0, by omega⟩, rfl, rfl⟩ ((h7.box z5 n5).box z4 n4)⟩
  by_cases c4 : 9 + v = 13
  · have w9 : IntKind.i64.wrap 13 = 13 := by decide
    simp only [vQ.down, vZ.down, vS.down, vE.down, Nat.reduceEqDiff, Nat.reduceAdd, Nat.reduceSub, Nat.reduceMul, Nat.reduceLeDiff, Nat.reduceLT, ne_eq, not_false_eq_true, not_true_eq_false, Int.reduceToNat, reduceIte, reduceCtorEq, true_and, and_true, implies_true, forall_const, decide_eq_true_eq, decide_eq_false_iff_not, Decidable.not_not, imp_self, and_self, decide_true, decide_false, Int.reduceEq, Int.reduceLT, Int.reduceLE, eq_self, ↓avp_condG, condG_bool, ↓tf_arrow, ↓ft_arrow, w9, c4, k_made_Picks_set_made_Picks_Num.down, m_made_Picks_Num]
    intro g5 hg5
    have h5 := h3.fresh (e := some (stE ⟨13, id, 0, 0, 0, [], [], [], []⟩ (.t .nilS))) hg5
    have n5 := h3.ne hg5
    have n54 : g5 ≠ g4 := fun e => by rw [e, f4] at hg5; cases hg5
    have o4 : ∀ (T : Store) x, (T.set g5 x).f g4 = T.f g4 := fun _ _ => Store.set_other _ _ n54.symm
    have z5 := h3.old hg5
    refine num_any h5.refl' (by omega) fun n S2 hn0 hn1 h6 => ?_
    have h7 := h5.trans h6
    have f5 := h6.keep (Store.set_same _ _ _) n5
    have f4' := h6.keep ((Store.set_other _ _ n54.symm).trans f4) n4
    have w2 : IntKind.i64.wrap (1 + n) = 1 + n := IntWalk.i64_in _ (by omega)
    simp only [vQ.down, vZ.down, vS.down, vE.down, Nat.reduceEqDiff, Nat.reduceAdd, Nat.reduceSub, Nat.reduceMul, Nat.reduceLeDiff, Nat.reduceLT, ne_eq, not_false_eq_true, not_true_eq_false, Int.reduceToNat, reduceIte, reduceCtorEq, true_and, and_true, implies_true, forall_const, decide_eq_true_eq, decide_eq_false_iff_not, Decidable.not_not, imp_self, and_self, decide_true, decide_false, Int.reduceEq, Int.reduceLT, Int.reduceLE, eq_self, ↓avp_condG, condG_bool, ↓tf_arrow, ↓ft_arrow, f5, f4', o4, Store.set_same, w2]
    simp only [vQ.down, vZ.down, vS.down, vE.down, Nat.reduceEqDiff, Nat.reduceAdd, Nat.reduceSub, Nat.reduceMul, Nat.reduceLeDiff, Nat.reduceLT, ne_eq, not_false_eq_true, not_true_eq_false, Int.reduceToNat, reduceIte, reduceCtorEq, true_and, and_true, implies_true, forall_const, decide_eq_true_eq, decide_eq_false_iff_not, Decidable.not_not, imp_self, and_self, decide_true, decide_false, Int.reduceEq, Int.reduceLT, Int.reduceLE, eq_self, ↓avp_condG, condG_bool, ↓tf_arrow, ↓ft_arrow, vT.down]
    exact ⟨_, fun _ _ h => h, hq _ _ ⟨⟨13, id, 1 + n, 0, 0, [], [], [], []⟩, gd_back hid ⟨by omega, by omega⟩, rfl, rfl⟩ ((h7.box z5 n5).box z4 n4)⟩
  · simp only [vQ.down, vZ.down, vS.down, vE.down, Nat.reduceEqDiff, Nat.reduceAdd, Nat.reduceSub, Nat.reduceMul, Nat.reduceLeDiff, Nat.reduceLT, ne_eq, not_false_eq_true, not_true_eq_false, Int.reduceToNat, reduceIte, reduceCtorEq, true_and, and_true, implies_true, forall_const, decide_eq_true_eq, decide_eq_false_iff_not, Decidable.not_not, imp_self, and_self, decide_true, decide_false, Int.reduceEq, Int.reduceLT, Int.reduceLE, eq_self, ↓avp_condG, condG_bool, ↓tf_arrow, ↓ft_arrow, w1, c0, c4]
    intro g5 hg5
    have h5 := h3.fresh (e := some (stE ⟨9 + v, id, 0, 0, 0, [], [], [], []⟩ (.t .nilS))) hg5
    have n5 := h3.ne hg5
    have n54 : g5 ≠ g4 := fun e => by rw [e, f4] at hg5; cases hg5
    have o4 : ∀ (T : Store) x, (T.set g5 x).f g4 = T.f g4 := fun _ _ => Store.set_other _ _ n54.symm
    have z5 := h3.old hg5
    simp only [vQ.down, vZ.down, vS.down, vE.down, Nat.reduceEqDiff, Nat.reduceAdd, Nat.reduceSub, Nat.reduceMul, Nat.reduceLeDiff, Nat.reduceLT, ne_eq, not_false_eq_true, not_true_eq_false, Int.reduceToNat, reduceIte, reduceCtorEq, true_and, and_true, implies_true, forall_const, decide_eq_true_eq, decide_eq_false_iff_not, Decidable.not_not, imp_self, and_self, decide_true, decide_false, Int.reduceEq, Int.reduceLT, Int.reduceLE, eq_self, ↓avp_condG, condG_bool, ↓tf_arrow, ↓ft_arrow, f4, o4, Store.set_same]
    simp only [vQ.down, vZ.down, vS.down, vE.down, Nat.reduceEqDiff, Nat.reduceAdd, Nat.reduceSub, Nat.reduceMul, Nat.reduceLeDiff, Nat.reduceLT, ne_eq, not_false_eq_true, not_true_eq_false, Int.reduceToNat, reduceIte, reduceCtorEq, true_and, and_true, implies_true, forall_const, decide_eq_true_eq, decide_eq_false_iff_not, Decidable.not_not, imp_self, and_self, decide_true, decide_false, Int.reduceEq, Int.reduceLT, Int.reduceLE, eq_self, ↓avp_condG, condG_bool, ↓tf_arrow, ↓ft_arrow, vT.down]
    exact ⟨_, fun _ _ h => h, hq _ _ ⟨⟨9 + v, id, 0, 0, 0, [], [], [], []⟩, gd_id (by omega) hid, rfl, rfl⟩ (h5.box z4 n4)⟩
noncomputable def c_made_Picks_set : Con := .gen m_made_Picks_set F_made_Picks_set
theorem ok_made_Picks_set : COk Try.prog 40 c_made_Picks_set := fn_gok sys_made_Picks_set mixed Try.func40 (by kernel_rfl) geq_made_Picks_set Try.ntmps40 (by rw [Try.results40]) mono_made_Picks_set ex_made_Picks_set body_made_Picks_set
end Go.Proofs.Ythhgaeeeppipnaa

