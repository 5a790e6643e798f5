/-
  Bits of bytes; may, size.
-/
import Derived.Test.YtgdaibdfjhchbaaFnsC
set_option linter.unusedSimpArgs false
set_option linter.unusedVariables false
namespace Go.Proofs.Ytgdaibdfjhchbaa
open Go Go.Eng
set_option maxRecDepth 100000
def bt (x : UInt8) (k : Nat) : Bool := x.toNat.testBit k
def orb (x : UInt8) (k : Nat) : UInt8 := UInt8.ofNat (x.toNat ||| 2 ^ k)
theorem orb_nat : ∀ n : Nat, n < 256 → ∀ k : Nat, k < 8 → IntKind.u8.wrap ((BitVec.ofInt IntKind.u8.bits (n : Int) ||| BitVec.ofInt IntKind.u8.bits (IntKind.u8.wrap (1 * 2 ^ min k IntKind.u8.bits))).toNat : Int) = (((UInt8.ofNat (n ||| 2 ^ k)).toNat : Nat) : Int) := by decide +kernel
theorem orb_eq (x : UInt8) {k : Nat} (h : k < 8) : IntKind.u8.wrap ((BitVec.ofInt IntKind.u8.bits (x.toNat : Int) ||| BitVec.ofInt IntKind.u8.bits (IntKind.u8.wrap (1 * 2 ^ min k IntKind.u8.bits))).toNat : Int) = ((orb x k).toNat : Int) := orb_nat x.toNat x.toNat_lt k h
theorem bt_nat : ∀ n : Nat, n < 256 → ∀ k : Nat, k < 8 → IntKind.u8.wrap ((BitVec.ofInt IntKind.u8.bits (IntKind.u8.wrap ((n : Int).fdiv (2 ^ min k IntKind.u8.bits))) &&& BitVec.ofInt IntKind.u8.bits 1).toNat : Int) = if n.testBit k = true then 1 else 0 := by decide +kernel
theorem bt_eq (x : UInt8) {k : Nat} (h : k < 8) : IntKind.u8.wrap ((BitVec.ofInt IntKind.u8.bits (IntKind.u8.wrap ((x.toNat : Int).fdiv (2 ^ min k IntKind.u8.bits))) &&& BitVec.ofInt IntKind.u8.bits 1).toNat : Int) = if bt x k = true then 1 else 0 := bt_nat x.toNat x.toNat_lt k h
theorem bt_orb {x : UInt8} {k m : Nat} (hk : k < 8) : bt (orb x k) m = (bt x m || decide (m = k)) := by
  unfold bt orb
  have h1 := x.toNat_lt
  have h2 : x.toNat ||| 2 ^ k < 2 ^ 8 := Nat.or_lt_two_pow (by omega) (Nat.pow_lt_pow_right (by omega) hk)
  rw [UInt8.toNat_ofNat', Nat.mod_eq_of_lt h2, Nat.testBit_or, Nat.testBit_two_pow]
  congr 1
  exact decide_eq_decide.2 ⟨fun h => h.symm, fun h => h.symm⟩
theorem bt_ext {x y : UInt8} (h : ∀ k, k < 8 → bt x k = bt y k) : x = y := by
  apply UInt8.toNat_inj.1
  apply Nat.eq_of_testBit_eq
  intro k
  by_cases hk : k < 8
  · exact h k hk
  · rw [Nat.testBit_lt_two_pow, Nat.testBit_lt_two_pow]
    · exact Nat.lt_of_lt_of_le y.toNat_lt (Nat.pow_le_pow_right (n := 2) (i := 8) (by omega) (by omega))
    · exact Nat.lt_of_lt_of_le x.toNat_lt (Nat.pow_le_pow_right (n := 2) (i := 8) (by omega) (by omega))
/-- Bits are set, one by one. -/
def mapS (f : Nat → Bool) (B : List Byt) : Nat → List Byt
  | 0 => B
  | i + 1 => if f i = true then (mapS f B i).set (i / 8) ⟨orb ((mapS f B i).getD (i / 8) default).v (i % 8)⟩ else mapS f B i
theorem mapS_len {f : Nat → Bool} {B : List Byt} : ∀ i, (mapS f B i).length = B.length
  | 0 => rfl
  | i + 1 => by
    unfold mapS
    split
    · rw [List.length_set, mapS_len]
    · exact mapS_len i
def dataOk (n : Int) : Bool := decide (40 ≤ n) && decide (n ≤ 240)
theorem dataOk_iff {n : Int} : dataOk n = true ↔ 40 ≤ n ∧ n ≤ 240 := by simp [dataOk]
theorem tdiv_nat (a : Nat) : (a : Int).tdiv 8 = ((a / 8 : Nat) : Int) := by
  rw [Int.tdiv_eq_ediv_of_nonneg (by omega)]; exact (Int.natCast_ediv a 8).symm
theorem tmod_nat (a : Nat) : (a : Int).tmod 8 = ((a % 8 : Nat) : Int) := by
  rw [Int.tmod_eq_emod_of_nonneg (by omega)]; exact (Int.natCast_emod a 8).symm
def G_ref8_mayData : GCode := .seq (.region [⟨(some 2), none, .assign (.const (.bool false))⟩]) (.seq (.region [⟨(some 3), none, .move (.tmp 0)⟩, ⟨(some 4), none, .binOp .geq 3 (.tmp 3) (.const (.int .i64 40)) 3⟩, ⟨(some 5), none, .move (.tmp 4)⟩, ⟨(some 6), (some (5, true)), .move (.tmp 0)⟩, ⟨(some 7), (some (5, true)), .binOp .leq 3 (.tmp 6) (.const (.int .i64 240)) 3⟩, ⟨(some 8), none, .pick (.tmp 5) (.tmp 7) (.const (.bool false))⟩, ⟨(some 2), none, .assign (.tmp 8)⟩]) (.ret))
noncomputable def l_ref8_mayData : List (Nat × Con) := []
noncomputable abbrev K_ref8_mayData : Ctx := ctx (cl l_ref8_mayData)
theorem geq_ref8_mayData : gof K_ref8_mayData Try.f37 = some G_ref8_mayData.strip := by kernel_rfl
theorem sys_ref8_mayData : Go.Eng.Sys Try.prog K_ref8_mayData := sys_of' (l := []) trivial
theorem hm_ref8_mayData : ConMono K_ref8_mayData := conMono_of sys_ref8_mayData.con
def A_ref8_mayData := Arms.cons (argT Int) Arms.nil
def p_ref8_mayData (_ : Int × Unit) : Prop := True
def r_ref8_mayData (x : Int × Unit) : AV := .t (.bool (dataOk x.1))
theorem body_ref8_mayData (x : Int × Unit) (hp : p_ref8_mayData x) : avp K_ref8_mayData G_ref8_mayData (Ret K_ref8_mayData [.tmp 2] fun v _ => v = r_ref8_mayData x) (entry (A_ref8_mayData.enc x) .empty) := by
  obtain ⟨n, ⟨⟩⟩ := x
  change avp _ _ (Ret _ _ fun v _ => v = .t (.bool (dataOk n))) (entry [.t (.int .i64 n)] .empty)
  unfold G_ref8_mayData dataOk
  by_cases c1 : 40 ≤ n
  · simp only [vP.down, vS.down, vE.down, Nat.reduceEqDiff, Nat.reduceAdd, Nat.reduceSub, Nat.reduceMul, Nat.reduceLeDiff, Nat.reduceLT, Int.reduceToNat, reduceIte, reduceCtorEq, Int.reduceEq, Int.reduceLT, Int.reduceLE, ↓avp_condG, ↓tf_arrow, ↓ft_arrow, c1, ge_iff_le, pick_of, pick_ot]
    simp only [vP.down, vS.down, vE.down, Nat.reduceEqDiff, Nat.reduceAdd, Nat.reduceSub, Nat.reduceMul, Nat.reduceLeDiff, Nat.reduceLT, Int.reduceToNat, reduceIte, reduceCtorEq, Int.reduceEq, Int.reduceLT, Int.reduceLE, ↓avp_condG, ↓tf_arrow, ↓ft_arrow, vT.down]
  · simp only [vP.down, vS.down, vE.down, Nat.reduceEqDiff, Nat.reduceAdd, Nat.reduceSub, Nat.reduceMul, Nat.reduceLeDiff, Nat.reduceLT, Int.reduceToNat, reduceIte, reduceCtorEq, Int.reduceEq, Int.reduceLT, Int.reduceLE, ↓avp_condG, ↓tf_arrow, ↓ft_arrow, c1, ge_iff_le, pick_of, pick_ot]
    simp only [vP.down, vS.down, vE.down, Nat.reduceEqDiff, Nat.reduceAdd, Nat.reduceSub, Nat.reduceMul, Nat.reduceLeDiff, Nat.reduceLT, Int.reduceToNat, reduceIte, reduceCtorEq, Int.reduceEq, Int.reduceLT, Int.reduceLE, ↓avp_condG, ↓tf_arrow, ↓ft_arrow, vT.down]
noncomputable def c_ref8_mayData : Con := fnScal A_ref8_mayData p_ref8_mayData r_ref8_mayData
theorem ok_ref8_mayData : COk Try.prog 37 c_ref8_mayData := fn_sok sys_ref8_mayData mixed Try.func37 (by kernel_rfl) geq_ref8_mayData Try.ntmps37 (by rw [Try.results37]) (fun x => by unfold r_ref8_mayData; simp [AV.scal]) fun x hx => ⟨Nat.le_of_ble_eq_true rfl, body_ref8_mayData x hx⟩
/-! ### Within the data -/
def wit (n : Int) (l : List TRun) : Bool := mayR (-1) l && (decide (l.length = 0) || (decide (14 ≤ (l.getD 0 default).From) && decide ((l.getD (l.length - 1) default).To ≤ 14 + n)))
theorem wit_eq {n : Int} (hn : 0 ≤ n) {l : List TRun} (hm : mayR (-1) l = true) : wit n l = decide (whereL .less l [⟨14, 14 + n⟩] = []) := by
  obtain ⟨_, nf, _⟩ := mayR_ok (by omega) hm
  have ev : ∀ i, hasR [(⟨14, 14 + n⟩ : TRun)] i = (decide (14 ≤ i) && decide (i < 14 + n)) := fun i => by simp [hasR, inR]
  have hset : whereL .less l [⟨14, 14 + n⟩] = [] ↔ ∀ i, hasR l i = true → 14 ≤ i ∧ i < 14 + n := by
    constructor
    · intro h i hi
      have h1 : hasR (whereL .less l [⟨14, 14 + n⟩]) i = false := by rw [h]; rfl
      rw [where_has, hi, ev] at h1
      simp only [How.op, Bool.true_and, Bool.not_eq_false', Bool.and_eq_true, decide_eq_true_eq] at h1
      exact h1
    · intro h
      refine nf_ext where_nf .nil fun i => ?_
      rw [where_has, ev]
      cases hi : hasR l i with
      | false => rfl
      | true =>
        have := h i hi
        have e : (decide (14 ≤ i) && decide (i < 14 + n)) = true := by simp only [Bool.and_eq_true, decide_eq_true_eq]; exact this
        rw [e]; rfl
  rw [wit, hm, Bool.true_and, Bool.eq_iff_iff, decide_eq_true_eq, hset]
  simp only [Bool.or_eq_true, Bool.and_eq_true, decide_eq_true_eq]
  have hat : ∀ j, j < l.length → l.getD j default ∈ l := fun j hj => by
    rw [List.getD_eq_getElem?_getD, List.getElem?_eq_getElem hj]; exact List.getElem_mem _
  constructor
  · rintro (h | ⟨h1, h2⟩) i hi
    · rw [List.length_eq_zero_iff.1 h] at hi; cases hi
    · obtain ⟨r, hr, a1, a2⟩ := hasR_iff.1 hi
      obtain ⟨j, hj, rfl⟩ := List.getElem_of_mem hr
      have e0 : l.getD 0 default = l[0] := by rw [List.getD_eq_getElem?_getD, List.getElem?_eq_getElem (by omega)]; rfl
      have e1 : l.getD (l.length - 1) default = l[l.length - 1] := by rw [List.getD_eq_getElem?_getD, List.getElem?_eq_getElem (by omega)]; rfl
      rw [e0] at h1
      rw [e1] at h2
      have pw := List.pairwise_iff_getElem.1 nf.pw
      have n0 := nf.ne l[0] (List.getElem_mem _)
      have nl := nf.ne l[l.length - 1] (List.getElem_mem _)
      have l1 : 14 ≤ (l[j]).From := by
        by_cases hj0 : j = 0
        · subst hj0; exact h1
        · have := pw 0 j (by omega) hj (by omega); omega
      have l2 : (l[j]).To ≤ 14 + n := by
        by_cases hjl : j = l.length - 1
        · have : l[j] = l[l.length - 1] := by congr
          rw [this]; exact h2
        · have := pw j (l.length - 1) hj (by omega) (by omega); omega
      omega
  · intro h
    by_cases h0 : l.length = 0
    · exact .inl h0
    · right
      have m0 := hat 0 (by omega)
      have ml := hat (l.length - 1) (by omega)
      have n0 := nf.ne _ m0
      have nl := nf.ne _ ml
      have g0 := h _ (hasR_iff.2 ⟨_, m0, Int.le_refl _, n0⟩)
      have gl := h ((l.getD (l.length - 1) default).To - 1) (hasR_iff.2 ⟨_, ml, by omega, by omega⟩)
      omega
end Go.Proofs.Ytgdaibdfjhchbaa


namespace Go.Proofs.Ytgdaibdfjhchbaa
open Go Go.Eng
set_option maxRecDepth 100000
def G_ref8_within : GCode := .seq (.region [⟨(some 4), none, .assign (.const (.bool false))⟩]) (.seq (.region [⟨(some 5), none, .move (.tmp 1)⟩, ⟨(some 6), none, .call ⟨.value (.func 48), #[.tmp 5], #[23]⟩⟩, ⟨(some 7), none, .move (.tmp 6)⟩, ⟨(some 8), (some (7, true)), .move (.tmp 1)⟩, ⟨(some 9), (some (7, true)), .call ⟨.builtin .len, #[.tmp 8], #[23]⟩⟩, ⟨(some 10), (some (7, true)), .binOp .eql 3 (.tmp 9) (.const (.int .i64 0)) 3⟩, ⟨(some 11), (some (7, true)), .move (.tmp 10)⟩, ⟨(some 12), (some (11, false)), .move (.tmp 1)⟩, ⟨(some 13), (some (11, false)), .indexAddr 23 (.tmp 12) (.const (.int .i64 0))⟩, ⟨(some 14), (some (11, false)), .fieldAddr 48 (.tmp 13) 0⟩, ⟨(some 15), (some (11, false)), .load 3 (.tmp 14)⟩, ⟨(some 16), (some (11, false)), .binOp .geq 3 (.tmp 15) (.const (.int .i64 14)) 3⟩, ⟨(some 17), (some (11, false)), .move (.tmp 16)⟩, ⟨(some 18), (some (17, true)), .move (.tmp 1)⟩, ⟨(some 19), (some (17, true)), .move (.tmp 1)⟩, ⟨(some 20), (some (17, true)), .call ⟨.builtin .len, #[.tmp 19], #[23]⟩⟩, ⟨(some 21), (some (17, true)), .binOp .sub 3 (.tmp 20) (.const (.int .i64 1)) 3⟩, ⟨(some 22), (some (17, true)), .indexAddr 23 (.tmp 18) (.tmp 21)⟩, ⟨(some 23), (some (17, true)), .fieldAddr 48 (.tmp 22) 1⟩, ⟨(some 24), (some (17, true)), .load 3 (.tmp 23)⟩, ⟨(some 25), (some (17, true)), .move (.tmp 0)⟩, ⟨(some 26), (some (17, true)), .binOp .add 3 (.const (.int .i64 14)) (.tmp 25) 3⟩, ⟨(some 27), (some (17, true)), .binOp .leq 3 (.tmp 24) (.tmp 26) 3⟩, ⟨(some 28), (some (11, false)), .pick (.tmp 17) (.tmp 27) (.const (.bool false))⟩, ⟨(some 29), (some (7, true)), .pick (.tmp 11) (.const (.bool true)) (.tmp 28)⟩, ⟨(some 30), none, .pick (.tmp 7) (.tmp 29) (.const (.bool false))⟩, ⟨(some 4), none, .assign (.tmp 30)⟩]) (.ret))
noncomputable def l_ref8_within : List (Nat × Con) := [(48, c_ref8_MayRuns)]
noncomputable abbrev K_ref8_within : Ctx := ctx (cl l_ref8_within)
theorem geq_ref8_within : gof K_ref8_within Try.f38 = some G_ref8_within.strip := by kernel_rfl
theorem sys_ref8_within : Go.Eng.Sys Try.prog K_ref8_within := sys_of' ⟨ok_ref8_MayRuns, trivial⟩
theorem hm_ref8_within : ConMono K_ref8_within := conMono_of sys_ref8_within.con
noncomputable def k_ref8_within_ref8_MayRuns := PLift.up (call_scal (C := K_ref8_within) (f := 48) (A := A_ref8_MayRuns) (p := p_ref8_MayRuns) (r := r_ref8_MayRuns) rfl)
def A_ref8_within := Arms.cons (argT Int) (Arms.cons (argT (List TRun)) Arms.nil)
def p_ref8_within (x : Int × List TRun × Unit) : Prop := dataOk x.1 = true ∧ x.2.1.length ≤ 1000000
def r_ref8_within (x : Int × List TRun × Unit) : AV := .t (.bool (wit x.1 x.2.1))
set_option maxHeartbeats 1000000 in
theorem body_ref8_within (x : Int × List TRun × Unit) (hp : p_ref8_within x) : avp K_ref8_within G_ref8_within (Ret K_ref8_within [.tmp 4] fun v _ => v = r_ref8_within x) (entry (A_ref8_within.enc x) .empty) := by
  obtain ⟨n, l, ⟨⟩⟩ := x
  obtain ⟨hd, hl⟩ : dataOk n = true ∧ l.length ≤ 1000000 := hp
  obtain ⟨h1, h2⟩ := dataOk_iff.1 hd
  change avp _ _ (Ret _ _ fun v _ => v = .t (.bool (wit n l))) (entry [.t (.int .i64 n), .t (sl l)] .empty)
  unfold G_ref8_within
  have p1 : l.length < 4611686018427387904 := by omega
  have w1 : IntKind.i64.wrap (14 + n) = 14 + n := IntWalk.i64_in _ (by omega)
  unfold wit
  cases hm : mayR (-1) l with
  | false =>
    simp only [vP.down, vS.down, vE.down, Nat.reduceEqDiff, Nat.reduceAdd, Nat.reduceSub, Nat.reduceMul, Nat.reduceLeDiff, Nat.reduceLT, Int.reduceToNat, reduceIte, reduceCtorEq, Int.reduceEq, Int.reduceLT, Int.reduceLE, ↓avp_condG, ↓tf_arrow, ↓ft_arrow, p1, hm, live_fi, pick_of, pick_ot, false_implies, k_ref8_within_ref8_MayRuns.down, A_ref8_MayRuns, p_ref8_MayRuns, r_ref8_MayRuns]
    simp only [vP.down, vS.down, vE.down, Nat.reduceEqDiff, Nat.reduceAdd, Nat.reduceSub, Nat.reduceMul, Nat.reduceLeDiff, Nat.reduceLT, Int.reduceToNat, reduceIte, reduceCtorEq, Int.reduceEq, Int.reduceLT, Int.reduceLE, ↓avp_condG, ↓tf_arrow, ↓ft_arrow, vT.down]
  | true =>
  by_cases c0 : l.length = 0
  · have c0' : ((l.length : Int) = 0) = True := eq_true (by omega)
    have c0n : (l.length = 0) = True := eq_true c0
    simp only [vP.down, vS.down, vE.down, Nat.reduceEqDiff, Nat.reduceAdd, Nat.reduceSub, Nat.reduceMul, Nat.reduceLeDiff, Nat.reduceLT, Int.reduceToNat, reduceIte, reduceCtorEq, Int.reduceEq, Int.reduceLT, Int.reduceLE, ↓avp_condG, ↓tf_arrow, ↓ft_arrow, p1, hm, c0', c0n, live_fi, pick_of, pick_ot, false_implies, k_ref8_within_ref8_MayRuns.down, A_ref8_MayRuns, p_ref8_MayRuns, r_ref8_MayRuns]
    simp only [vP.down, vS.down, vE.down, Nat.reduceEqDiff, Nat.reduceAdd, Nat.reduceSub, Nat.reduceMul, Nat.reduceLeDiff, Nat.reduceLT, Int.reduceToNat, reduceIte, reduceCtorEq, Int.reduceEq, Int.reduceLT, Int.reduceLE, ↓avp_condG, ↓tf_arrow, ↓ft_arrow, vT.down]
  have c0' : ((l.length : Int) = 0) = False := eq_false (by omega)
  have c0n : (l.length = 0) = False := eq_false c0
  have x0 : idxB K_ref8_within 23 (.t (sl l)) (.t (.int .i64 0)) = .val True (.imm (Cell.enc (l.getD 0 default))) := idx_at (l := l) (i := 0) ty_Lapi_Run ty_api_Run rfl (by omega) .i64
  have x1 := idx_at (C := K_ref8_within) (l := l) (i := l.length - 1) ty_Lapi_Run ty_api_Run rfl (by omega) .i64
  have hw : IntKind.i64.wrap ((l.length : Int) - 1) = ((l.length - 1 : Nat) : Int) := by rw [IntWalk.i64_in _ (by omega)]; omega
  by_cases c1 : 14 ≤ (l.getD 0 default).From
  · simp only [vP.down, vS.down, vE.down, Nat.reduceEqDiff, Nat.reduceAdd, Nat.reduceSub, Nat.reduceMul, Nat.reduceLeDiff, Nat.reduceLT, Int.reduceToNat, reduceIte, reduceCtorEq, Int.reduceEq, Int.reduceLT, Int.reduceLE, ↓avp_condG, ↓tf_arrow, ↓ft_arrow, p1, hm, c0', c0n, c1, x0, x1, hw, w1, live_fi, ge_iff_le, pick_of, pick_ot, false_implies, k_ref8_within_ref8_MayRuns.down, A_ref8_MayRuns, p_ref8_MayRuns, r_ref8_MayRuns]
    simp only [vP.down, vS.down, vE.down, Nat.reduceEqDiff, Nat.reduceAdd, Nat.reduceSub, Nat.reduceMul, Nat.reduceLeDiff, Nat.reduceLT, Int.reduceToNat, reduceIte, reduceCtorEq, Int.reduceEq, Int.reduceLT, Int.reduceLE, ↓avp_condG, ↓tf_arrow, ↓ft_arrow, vT.down]
  · simp only [vP.down, vS.down, vE.down, Nat.reduceEqDiff, Nat.reduceAdd, Nat.reduceSub, Nat.reduceMul, Nat.reduceLeDiff, Nat.reduceLT, Int.reduceToNat, reduceIte, reduceCtorEq, Int.reduceEq, Int.reduceLT, Int.reduceLE, ↓avp_condG, ↓tf_arrow, ↓ft_arrow, p1, hm, c0', c0n, c1, x0, x1, hw, w1, live_fi, ge_iff_le, pick_of, pick_ot, false_implies, k_ref8_within_ref8_MayRuns.down, A_ref8_MayRuns, p_ref8_MayRuns, r_ref8_MayRuns]
    simp only [vP.down, vS.down, vE.down, Nat.reduceEqDiff, Nat.reduceAdd, Nat.reduceSub, Nat.reduceMul, Nat.reduceLeDiff, Nat.reduceLT, Int.reduceToNat, reduceIte, reduceCtorEq, Int.reduceEq, Int.reduceLT, Int.reduceLE, ↓avp_condG, ↓tf_arrow, ↓ft_arrow, vT.down]
noncomputable def c_ref8_within : Con := fnScal A_ref8_within p_ref8_within r_ref8_within
theorem ok_ref8_within : COk Try.prog 38 c_ref8_within := fn_sok sys_ref8_within mixed Try.func38 (by kernel_rfl) geq_ref8_within Try.ntmps38 (by rw [Try.results38]) (fun x => by unfold r_ref8_within; simp [AV.scal]) fun x hx => ⟨Nat.le_of_ble_eq_true rfl, body_ref8_within x hx⟩

def okM (n : Int) (l : List TRun) : Bool := dataOk n && (mayR (-1) l && decide (whereL .less l [⟨14, 14 + n⟩] = []))
def mapL (n : Nat) (l : List TRun) : List Byt := mapS (fun i => hasR l (14 + (i : Nat))) (List.replicate ((n + 7) / 8) ⟨0⟩) n
def putM (n : Int) (l : List TRun) : List UInt8 := if okM n l = true then (mapL n.toNat l).map Byt.v else []
theorem okM_wit {n : Int} {l : List TRun} (h : dataOk n = true) : okM n l = wit n l := by
  rw [okM, h, Bool.true_and]
  cases hm : mayR (-1) l with
  | true => rw [wit_eq (by have := dataOk_iff.1 h; omega) hm, Bool.true_and]
  | false => rw [wit, hm]; rfl
theorem rep_map {N : Nat} {f : Nat → Bool} : List.replicate N [TV.int .u8 0] = (mapS f (List.replicate N ⟨0⟩) 0).map Cell.enc := by
  rw [mapS, List.map_replicate]; rfl
theorem map_put {f : Nat → Bool} {B : List Byt} {i : Nat} (h : i / 8 < B.length) : ((mapS f B i).map Cell.enc).getD (i / 8) [] = [.int .u8 (((mapS f B i).getD (i / 8) default).v.toNat : Int)] ∧
    putRow ((mapS f B i).map Cell.enc) (i / 8) 0 [.int .u8 ((orb ((mapS f B i).getD (i / 8) default).v (i % 8)).toNat : Int)] = ((mapS f B i).set (i / 8) ⟨orb ((mapS f B i).getD (i / 8) default).v (i % 8)⟩).map Cell.enc := by
  have hrg : ((mapS f B i).map Cell.enc).getD (i / 8) [] = [.int .u8 (((mapS f B i).getD (i / 8) default).v.toNat : Int)] := by
    rw [row_get (by rw [mapS_len]; exact h)]; rfl
  refine ⟨hrg, ?_⟩
  rw [List.map_set, putRow, hrg]
  rfl
end Go.Proofs.Ytgdaibdfjhchbaa


namespace Go.Proofs.Ytgdaibdfjhchbaa
open Go Go.Eng
set_option maxRecDepth 100000
def spC (s : TSpace) : List TV := [sl s.Held, sl s.One, sl s.Two, sl s.Kept]
def lenS (s : TSpace) : Prop := s.Held.length ≤ 1000 ∧ s.One.length ≤ 1000 ∧ s.Two.length ≤ 1000 ∧ s.Kept.length ≤ 1000
def turnM (s : TSpace) (h : List TRun) : TSpace := ⟨h, whereL .less s.Held h, whereL .less (whereL .less s.One h) (whereL .less s.Held h), s.Kept⟩
def turnR (s : TSpace) (h : List TRun) : TSpace := ⟨whereL .add h [], whereL .less s.Held h, whereL .less (whereL .less s.One h) (whereL .less s.Held h), whereL .add s.Kept []⟩
def keepM (s : TSpace) : TSpace := ⟨s.Held, s.One, s.Two, s.Held⟩
def foldM (s : TSpace) : TSpace := ⟨whereL .add s.Held s.Kept, whereL .less s.One s.Kept, whereL .less s.Two s.Kept, []⟩
def okSp (n : Int) (s : TSpace) : Bool := dataOk n && (wit n s.Held && (wit n s.One && (wit n s.Two && (wit n s.Kept && (decide (whereL .both s.Held s.One = []) && (decide (whereL .both s.Held s.Two = []) && decide (whereL .both s.One s.Two = [])))))))
def freeM (n : Int) (s : TSpace) : List TRun := if okSp n s = true then whereL .less [⟨14, 14 + n⟩] (whereL .add (whereL .add s.Held s.One) (whereL .add s.Two s.Kept)) else []
theorem where_nil {h : How} {l m : List TRun} : whereL h l m = [] ↔ ∀ i, h.op (hasR l i) (hasR m i) = false := by
  constructor
  · intro e i
    rw [← where_has, e]; rfl
  · intro e
    refine nf_ext where_nf .nil fun i => ?_
    rw [where_has, e]; rfl
theorem len_nil {l : List TRun} : ((l.length : Int) = 0) ↔ l = [] := by
  rw [← List.length_eq_zero_iff]; omega
theorem all_has {n i : Int} : hasR [(⟨14, 14 + n⟩ : TRun)] i = (decide (14 ≤ i) && decide (i < 14 + n)) := by simp [hasR, inR]
def at4 (s : TSpace) (i : Nat) : List TRun := if i = 0 then s.Held else if i = 1 then s.One else if i = 2 then s.Two else s.Kept
theorem drop_sp {s : TSpace} {i : Nat} (h : i < 4) : ((spC s).map AV.t).drop i = .t (sl (at4 s i)) :: ((spC s).map AV.t).drop (i + 1) := by
  rcases (by omega : i = 0 ∨ i = 1 ∨ i = 2 ∨ i = 3) with rfl | rfl | rfl | rfl <;> rfl
theorem at4_len {s : TSpace} (h : lenS s) {i : Nat} : (at4 s i).length ≤ 1000 := by
  obtain ⟨a, b, c, d⟩ := h
  unfold at4
  split
  · exact a
  split
  · exact b
  split
  · exact c
  · exact d
/-- What is in none: by one after the other. -/
theorem less_four {a h o t k : List TRun} : whereL .less (whereL .less (whereL .less (whereL .less a h) o) t) k = whereL .less a (whereL .add (whereL .add h o) (whereL .add t k)) :=
  nf_ext where_nf where_nf fun i => by
    simp only [where_has, How.op]
    cases hasR a i <;> cases hasR h i <;> cases hasR o i <;> cases hasR t i <;> cases hasR k i <;> rfl
theorem both_two {h o t : List TRun} : whereL .both (whereL .add h o) t = [] ↔ whereL .both h t = [] ∧ whereL .both o t = [] := by
  simp only [where_nil, where_has, How.op]
  constructor
  · intro e
    constructor
    · intro i
      have := e i
      revert this
      cases hasR h i <;> cases hasR o i <;> cases hasR t i <;> simp
    · intro i
      have := e i
      revert this
      cases hasR h i <;> cases hasR o i <;> cases hasR t i <;> simp
  · rintro ⟨e, e'⟩ i
    have h1 := e i
    have h2 := e' i
    revert h1 h2
    cases hasR h i <;> cases hasR o i <;> cases hasR t i <;> simp
def G_space_copied : GCode := .seq (.region [⟨(some 2), none, .assign (.const (.slice none 0 0))⟩]) (.seq (.region [⟨(some 3), none, .move (.tmp 0)⟩, ⟨(some 4), none, .call ⟨.builtin .append, #[.const (.slice none 0 0), .tmp 3], #[23, 23]⟩⟩, ⟨(some 2), none, .assign (.tmp 4)⟩]) (.ret))
noncomputable def l_space_copied : List (Nat × Con) := []
noncomputable abbrev K_space_copied : Ctx := ctx (cl l_space_copied)
theorem geq_space_copied : gof K_space_copied Try.f33 = some G_space_copied.strip := by kernel_rfl
theorem sys_space_copied : Go.Eng.Sys Try.prog K_space_copied := sys_of' (l := []) trivial
theorem hm_space_copied : ConMono K_space_copied := conMono_of sys_space_copied.con
def A_space_copied := Arms.cons (argT (List TRun)) Arms.nil
def p_space_copied (x : List TRun × Unit) : Prop := x.1.length ≤ 1000000
def r_space_copied (x : List TRun × Unit) : AV := .t (sl x.1)
theorem body_space_copied (x : List TRun × Unit) (hp : p_space_copied x) : avp K_space_copied G_space_copied (Ret K_space_copied [.tmp 2] fun v s' => Frz s' v (r_space_copied x)) (entry (A_space_copied.enc x) .empty) := by
  obtain ⟨l, ⟨⟩⟩ := x
  change l.length ≤ 1000000 at hp
  change avp _ _ (Ret _ _ fun v s' => Frz1 s' v (sl l)) (entry [.t (sl l)] .empty)
  unfold G_space_copied
  simp only [vP.down, vS.down, vE.down, Nat.reduceEqDiff, Nat.reduceAdd, Nat.reduceSub, Nat.reduceMul, Nat.reduceLeDiff, Nat.reduceLT, Int.reduceToNat, reduceIte, reduceCtorEq, Int.reduceEq, Int.reduceLT, Int.reduceLE, ↓avp_condG, ↓tf_arrow, ↓ft_arrow]
  refine append_lv ty_Lapi_Run ty_api_Run rfl (by decide) (lv_nil (α := TRun)) (shows_sl (l := l)) (by simp; omega) (by simp; omega) fun v S' hv _ _ => ?_
  simp only [vP.down, vS.down, vE.down, Nat.reduceEqDiff, Nat.reduceAdd, Nat.reduceSub, Nat.reduceMul, Nat.reduceLeDiff, Nat.reduceLT, Int.reduceToNat, reduceIte, reduceCtorEq, Int.reduceEq, Int.reduceLT, Int.reduceLE, ↓avp_condG, ↓tf_arrow, ↓ft_arrow, vT.down]
  exact hv.frz
noncomputable def c_space_copied : Con := fnCon A_space_copied p_space_copied r_space_copied
theorem ok_space_copied : COk Try.prog 33 c_space_copied := fn_ok sys_space_copied mixed Try.func33 (by kernel_rfl) geq_space_copied Try.ntmps33 (by rw [Try.results33]) fun x hx => ⟨Nat.le_of_ble_eq_true rfl, body_space_copied x hx⟩
def G_space_taken_all : GCode := .seq (.region [⟨(some 1), none, .box 55 (.tmp 0)⟩, ⟨(some 2), none, .alloc 61⟩]) (.seq (.seq .weak (.region [⟨(some 3), none, .fieldAddr 55 (.tmp 1) 0⟩, ⟨(some 4), none, .fieldAddr 26 (.tmp 3) 0⟩, ⟨(some 5), none, .load 23 (.tmp 4)⟩, ⟨(some 6), none, .fieldAddr 55 (.tmp 1) 0⟩, ⟨(some 7), none, .fieldAddr 26 (.tmp 6) 1⟩, ⟨(some 8), none, .load 23 (.tmp 7)⟩, ⟨(some 9), none, .fieldAddr 55 (.tmp 1) 0⟩, ⟨(some 10), none, .fieldAddr 26 (.tmp 9) 2⟩, ⟨(some 11), none, .load 23 (.tmp 10)⟩, ⟨(some 12), none, .fieldAddr 55 (.tmp 1) 0⟩, ⟨(some 13), none, .fieldAddr 26 (.tmp 12) 3⟩, ⟨(some 14), none, .load 23 (.tmp 13)⟩, ⟨(some 15), none, .build 61 #[(0, .tmp 5), (1, .tmp 8), (2, .tmp 11), (3, .tmp 14)]⟩, ⟨none, none, .store 61 (.tmp 2) (.tmp 15)⟩])) (.ret))
noncomputable def l_space_taken_all : List (Nat × Con) := []
noncomputable abbrev K_space_taken_all : Ctx := ctx (cl l_space_taken_all)
theorem geq_space_taken_all : gof K_space_taken_all Try.f40 = some G_space_taken_all.strip := by kernel_rfl
theorem sys_space_taken_all : Go.Eng.Sys Try.prog K_space_taken_all := sys_of' (l := []) trivial
theorem hm_space_taken_all : ConMono K_space_taken_all := conMono_of sys_space_taken_all.con
def A_space_taken_all := Arms.cons (argA Ttaken) Arms.nil
def p_space_taken_all (_ : Ttaken × Unit) : Prop := True
def r_space_taken_all (x : Ttaken × Unit) : AV := .agg ((spC x.1.Space).map .t)
theorem body_space_taken_all (x : Ttaken × Unit) (hp : p_space_taken_all x) : avp K_space_taken_all G_space_taken_all (Ret K_space_taken_all [.cell 2 61] fun v s' => Frz s' v (r_space_taken_all x)) (entry (A_space_taken_all.enc x) .empty) := by
  obtain ⟨⟨s⟩, ⟨⟩⟩ := x
  change avp _ _ (Ret _ _ fun v s' => Frz s' v (.agg ((spC s).map .t))) (entry [.agg ((spC s).map .t)] .empty)
  unfold G_space_taken_all spC
  simp only [vP.down, vS.down, vE.down, Nat.reduceEqDiff, Nat.reduceAdd, Nat.reduceSub, Nat.reduceMul, Nat.reduceLeDiff, Nat.reduceLT, Int.reduceToNat, reduceIte, reduceCtorEq, Int.reduceEq, Int.reduceLT, Int.reduceLE, ↓avp_condG, ↓tf_arrow, ↓ft_arrow]
  intro g hg g2 hg2
  have n2 := Store.ne_new hg2
  refine weak_here [(1, .ptr g 0), (2, .ptr g2 0)] (by simp only [vP.down, vS.down, vE.down, Nat.reduceEqDiff, Nat.reduceAdd, Nat.reduceSub, Nat.reduceMul, Nat.reduceLeDiff, Nat.reduceLT, Int.reduceToNat, reduceIte, reduceCtorEq, Int.reduceEq, Int.reduceLT, Int.reduceLE, ↓avp_condG, ↓tf_arrow, ↓ft_arrow, wP.down]) fun S hS => ?_
  have f1 : S.f g = some (.box ((spC s).map .t) false) := by rw [hS]; exact (Store.set_other _ _ n2.symm).trans (Store.set_same _ _ _)
  have f2 : S.f g2 = some (.box [.t .nilS, .t .nilS, .t .nilS, .t .nilS] false) := by rw [hS]; exact Store.set_same _ _ _
  unfold spC at f1
  simp only [vP.down, vS.down, vE.down, Nat.reduceEqDiff, Nat.reduceAdd, Nat.reduceSub, Nat.reduceMul, Nat.reduceLeDiff, Nat.reduceLT, Int.reduceToNat, reduceIte, reduceCtorEq, Int.reduceEq, Int.reduceLT, Int.reduceLE, ↓avp_condG, ↓tf_arrow, ↓ft_arrow, f1, f2]
  simp only [vP.down, vS.down, vE.down, Nat.reduceEqDiff, Nat.reduceAdd, Nat.reduceSub, Nat.reduceMul, Nat.reduceLeDiff, Nat.reduceLT, Int.reduceToNat, reduceIte, reduceCtorEq, Int.reduceEq, Int.reduceLT, Int.reduceLE, ↓avp_condG, ↓tf_arrow, ↓ft_arrow, vT.down, Store.set_same]
noncomputable def c_space_taken_all : Con := fnCon A_space_taken_all p_space_taken_all r_space_taken_all
theorem ok_space_taken_all : COk Try.prog 40 c_space_taken_all := fn_ok sys_space_taken_all mixed Try.func40 (by kernel_rfl) geq_space_taken_all Try.ntmps40 (by rw [Try.results40]) fun x hx => ⟨Nat.le_of_ble_eq_true rfl, body_space_taken_all x hx⟩
def G_space_pool_whole : GCode := .seq (.region [⟨(some 1), none, .box 57 (.tmp 0)⟩, ⟨(some 2), none, .assign (.const (.slice none 0 0))⟩]) (.seq (.region [⟨(some 3), none, .fieldAddr 57 (.tmp 1) 1⟩, ⟨(some 4), none, .load 3 (.tmp 3)⟩, ⟨(some 5), none, .binOp .add 3 (.const (.int .i64 14)) (.tmp 4) 3⟩, ⟨(some 6), none, .build 48 #[(0, .const (.int .i64 14)), (1, .tmp 5)]⟩, ⟨(some 7), none, .buildSlice 23 1 #[(0, .tmp 6)]⟩, ⟨(some 2), none, .assign (.tmp 7)⟩]) (.ret))
noncomputable def l_space_pool_whole : List (Nat × Con) := []
noncomputable abbrev K_space_pool_whole : Ctx := ctx (cl l_space_pool_whole)
theorem geq_space_pool_whole : gof K_space_pool_whole Try.f39 = some G_space_pool_whole.strip := by kernel_rfl
theorem sys_space_pool_whole : Go.Eng.Sys Try.prog K_space_pool_whole := sys_of' (l := []) trivial
theorem hm_space_pool_whole : ConMono K_space_pool_whole := conMono_of sys_space_pool_whole.con
def A_space_pool_whole := Arms.cons (argA Tpool) Arms.nil
def p_space_pool_whole (x : Tpool × Unit) : Prop := dataOk x.1.data = true
def r_space_pool_whole (x : Tpool × Unit) : AV := .t (sl [(⟨14, 14 + x.1.data⟩ : TRun)])
def plC (p : Tpool) : List TV := [sl p.taken.Space.Held, sl p.taken.Space.One, sl p.taken.Space.Two, sl p.taken.Space.Kept, .int .i64 p.data]
theorem body_space_pool_whole (x : Tpool × Unit) (hp : p_space_pool_whole x) : avp K_space_pool_whole G_space_pool_whole (Ret K_space_pool_whole [.tmp 2] fun v s' => Frz s' v (r_space_pool_whole x)) (entry (A_space_pool_whole.enc x) .empty) := by
  obtain ⟨p, ⟨⟩⟩ := x
  obtain ⟨h1, h2⟩ := dataOk_iff.1 hp
  change 40 ≤ p.data at h1
  change p.data ≤ 240 at h2
  change avp _ _ (Ret _ _ fun v s' => Frz1 s' v (sl [(⟨14, 14 + p.data⟩ : TRun)])) (entry [.agg ((plC p).map .t)] .empty)
  have w1 : IntKind.i64.wrap (14 + p.data) = 14 + p.data := IntWalk.i64_in _ (by omega)
  unfold G_space_pool_whole plC
  simp only [vP.down, vS.down, vE.down, Nat.reduceEqDiff, Nat.reduceAdd, Nat.reduceSub, Nat.reduceMul, Nat.reduceLeDiff, Nat.reduceLT, Int.reduceToNat, reduceIte, reduceCtorEq, Int.reduceEq, Int.reduceLT, Int.reduceLE, ↓avp_condG, ↓tf_arrow, ↓ft_arrow, w1]
  intro g hg g2 hg2
  simp only [vP.down, vS.down, vE.down, Nat.reduceEqDiff, Nat.reduceAdd, Nat.reduceSub, Nat.reduceMul, Nat.reduceLeDiff, Nat.reduceLT, Int.reduceToNat, reduceIte, reduceCtorEq, Int.reduceEq, Int.reduceLT, Int.reduceLE, ↓avp_condG, ↓tf_arrow, ↓ft_arrow, vT.down]
  exact (lv_at (α := TRun) (l := [⟨14, 14 + p.data⟩]) (ro := false) rfl (Store.set_same _ _ _)).frz
noncomputable def c_space_pool_whole : Con := fnCon A_space_pool_whole p_space_pool_whole r_space_pool_whole
theorem ok_space_pool_whole : COk Try.prog 39 c_space_pool_whole := fn_ok sys_space_pool_whole mixed Try.func39 (by kernel_rfl) geq_space_pool_whole Try.ntmps39 (by rw [Try.results39]) fun x hx => ⟨Nat.le_of_ble_eq_true rfl, body_space_pool_whole x hx⟩
end Go.Proofs.Ytgdaibdfjhchbaa


namespace Go.Proofs.Ytgdaibdfjhchbaa
open Go Go.Eng
set_option maxRecDepth 100000
/-- Four, one by one, as the program asks. -/
def fourOk (n : Int) (s : TSpace) (i : Nat) : Bool := mayR (-1) (at4 s i) && decide (whereL .less (at4 s i) [⟨14, 14 + n⟩] = [])
theorem four_wit {n : Int} {s : TSpace} (hd : dataOk n = true) {i : Nat} : fourOk n s i = wit n (at4 s i) := by
  rw [← okM_wit hd, okM, hd, fourOk, Bool.true_and]
theorem okSp_of {n : Int} {s : TSpace} (hd : dataOk n = true) (h : ∀ i, i < 4 → fourOk n s i = true) : okSp n s = (decide (whereL .both s.Held s.One = []) && decide (whereL .both (whereL .add s.Held s.One) s.Two = [])) := by
  have h0 := h 0 (by omega)
  have h1 := h 1 (by omega)
  have h2 := h 2 (by omega)
  have h3 := h 3 (by omega)
  rw [four_wit hd] at h0 h1 h2 h3
  have e0 : wit n s.Held = true := h0
  have e1 : wit n s.One = true := h1
  have e2 : wit n s.Two = true := h2
  have e3 : wit n s.Kept = true := h3
  rw [okSp, hd, e0, e1, e2, e3, Bool.true_and, Bool.true_and, Bool.true_and, Bool.true_and, Bool.true_and, ← Bool.decide_and, ← Bool.decide_and, ← Bool.decide_and]
  refine decide_eq_decide.2 ?_
  rw [both_two]
theorem okSp_no {n : Int} {s : TSpace} (hd : dataOk n = true) {i : Nat} (hi : i < 4) (h : fourOk n s i = false) : okSp n s = false := by
  rw [four_wit hd] at h
  unfold okSp
  rcases (by omega : i = 0 ∨ i = 1 ∨ i = 2 ∨ i = 3) with rfl | rfl | rfl | rfl
  · rw [show wit n s.Held = false from h]; simp
  · rw [show wit n s.One = false from h]; simp
  · rw [show wit n s.Two = false from h]; simp
  · rw [show wit n s.Kept = false from h]; simp
def G_space_pool_may : GCode := .seq (.region [⟨(some 1), none, .box 57 (.tmp 0)⟩, ⟨(some 2), none, .assign (.const (.bool false))⟩]) (.seq (.seq (.seq .weak (.region [⟨(some 5), none, .fieldAddr 57 (.tmp 1) 1⟩, ⟨(some 6), none, .load 3 (.tmp 5)⟩, ⟨(some 7), none, .binOp .lss 3 (.tmp 6) (.const (.int .i64 40)) 3⟩, ⟨(some 8), none, .move (.tmp 7)⟩, ⟨(some 9), (some (8, false)), .fieldAddr 57 (.tmp 1) 1⟩, ⟨(some 10), (some (8, false)), .load 3 (.tmp 9)⟩, ⟨(some 11), (some (8, false)), .binOp .gtr 3 (.tmp 10) (.const (.int .i64 240)) 3⟩, ⟨(some 12), none, .pick (.tmp 8) (.const (.bool true)) (.tmp 11)⟩])) (.cond (.tmp 12) (.seq (.region [⟨(some 2), none, .assign (.const (.bool false))⟩]) (.ret)) (.skip))) (.seq (.seq (.seq .weak (.region [⟨(some 13), none, .fieldAddr 57 (.tmp 1) 0⟩, ⟨(some 14), none, .load 55 (.tmp 13)⟩, ⟨(some 15), none, .call ⟨.value (.func 40), #[.tmp 14], #[55]⟩⟩, ⟨(some 16), none, .move (.const (.int .i64 0))⟩])) (.block 0 (.loop (.seq .weak (.seq (.region [⟨(some 17), none, .binOp .lss 3 (.tmp 16) (.const (.int .i64 4)) 3⟩]) (.seq (.cond (.tmp 17) (.skip) (.exit 0)) (.seq (.block 1 (.seq (.region [⟨(some 18), none, .index 61 (.tmp 15) (.tmp 16)⟩, ⟨(some 4), none, .assign (.tmp 18)⟩]) (.seq (.seq .weak (.region [⟨(some 19), none, .move (.tmp 4)⟩, ⟨(some 20), none, .call ⟨.value (.func 46), #[.tmp 19], #[23]⟩⟩, ⟨(some 21), none, .unOp .not 4 (.tmp 20)⟩, ⟨(some 22), none, .move (.tmp 21)⟩, ⟨(some 23), (some (22, false)), .move (.tmp 4)⟩, ⟨(some 24), (some (22, false)), .load 57 (.tmp 1)⟩, ⟨(some 25), (some (22, false)), .call ⟨.value (.func 39), #[.tmp 24], #[57]⟩⟩, ⟨(some 26), (some (22, false)), .call ⟨.value (.func 35), #[.tmp 23, .tmp 25], #[23, 23]⟩⟩, ⟨(some 27), (some (22, false)), .call ⟨.builtin .len, #[.tmp 26], #[23]⟩⟩, ⟨(some 28), (some (22, false)), .binOp .gtr 3 (.tmp 27) (.const (.int .i64 0)) 3⟩, ⟨(some 29), none, .pick (.tmp 22) (.const (.bool true)) (.tmp 28)⟩])) (.cond (.tmp 29) (.seq (.region [⟨(some 2), none, .assign (.const (.bool false))⟩]) (.ret)) (.skip))))) (.region [⟨(some 30), none, .binOp .add 3 (.tmp 16) (.const (.int .i64 1)) 3⟩, ⟨(some 16), none, .move (.tmp 30)⟩])))))))) (.seq (.seq .weak (.region [⟨(some 31), none, .fieldAddr 57 (.tmp 1) 0⟩, ⟨(some 32), none, .fieldAddr 55 (.tmp 31) 0⟩, ⟨(some 33), none, .fieldAddr 26 (.tmp 32) 0⟩, ⟨(some 34), none, .load 23 (.tmp 33)⟩, ⟨(some 35), none, .fieldAddr 57 (.tmp 1) 0⟩, ⟨(some 36), none, .fieldAddr 55 (.tmp 35) 0⟩, ⟨(some 37), none, .fieldAddr 26 (.tmp 36) 1⟩, ⟨(some 38), none, .load 23 (.tmp 37)⟩, ⟨(some 39), none, .call ⟨.value (.func 47), #[.tmp 34, .tmp 38], #[23, 23]⟩⟩, ⟨(some 40), none, .call ⟨.builtin .len, #[.tmp 39], #[23]⟩⟩, ⟨(some 41), none, .binOp .eql 3 (.tmp 40) (.const (.int .i64 0)) 3⟩, ⟨(some 42), none, .move (.tmp 41)⟩, ⟨(some 43), (some (42, true)), .fieldAddr 57 (.tmp 1) 0⟩, ⟨(some 44), (some (42, true)), .fieldAddr 55 (.tmp 43) 0⟩, ⟨(some 45), (some (42, true)), .fieldAddr 26 (.tmp 44) 0⟩, ⟨(some 46), (some (42, true)), .load 23 (.tmp 45)⟩, ⟨(some 47), (some (42, true)), .fieldAddr 57 (.tmp 1) 0⟩, ⟨(some 48), (some (42, true)), .fieldAddr 55 (.tmp 47) 0⟩, ⟨(some 49), (some (42, true)), .fieldAddr 26 (.tmp 48) 1⟩, ⟨(some 50), (some (42, true)), .load 23 (.tmp 49)⟩, ⟨(some 51), (some (42, true)), .call ⟨.value (.func 34), #[.tmp 46, .tmp 50], #[23, 23]⟩⟩, ⟨(some 52), (some (42, true)), .fieldAddr 57 (.tmp 1) 0⟩, ⟨(some 53), (some (42, true)), .fieldAddr 55 (.tmp 52) 0⟩, ⟨(some 54), (some (42, true)), .fieldAddr 26 (.tmp 53) 2⟩, ⟨(some 55), (some (42, true)), .load 23 (.tmp 54)⟩, ⟨(some 56), (some (42, true)), .call ⟨.value (.func 47), #[.tmp 51, .tmp 55], #[23, 23]⟩⟩, ⟨(some 57), (some (42, true)), .call ⟨.builtin .len, #[.tmp 56], #[23]⟩⟩, ⟨(some 58), (some (42, true)), .binOp .eql 3 (.tmp 57) (.const (.int .i64 0)) 3⟩, ⟨(some 59), none, .pick (.tmp 42) (.tmp 58) (.const (.bool false))⟩, ⟨(some 2), none, .assign (.tmp 59)⟩])) (.ret))))
noncomputable def l_space_pool_may : List (Nat × Con) := [(40, c_space_taken_all), (46, c_span_May), (39, c_space_pool_whole), (35, c_span_Less), (47, c_span_Both), (34, c_span_Add)]
noncomputable abbrev K_space_pool_may : Ctx := ctx (cl l_space_pool_may)
theorem geq_space_pool_may : gof K_space_pool_may Try.f36 = some G_space_pool_may.strip := by kernel_rfl
theorem sys_space_pool_may : Go.Eng.Sys Try.prog K_space_pool_may := sys_of' ⟨ok_space_taken_all, ok_span_May, ok_space_pool_whole, ok_span_Less, ok_span_Both, ok_span_Add, trivial⟩
theorem hm_space_pool_may : ConMono K_space_pool_may := conMono_of sys_space_pool_may.con
noncomputable def k_space_pool_may_space_taken_all := PLift.up (call_fn (C := K_space_pool_may) (f := 40) (A := A_space_taken_all) (p := p_space_taken_all) (r := r_space_taken_all) rfl)
noncomputable def k_space_pool_may_span_May := PLift.up (call_scal (C := K_space_pool_may) (f := 46) (A := A_span_May) (p := p_span_May) (r := r_span_May) rfl)
noncomputable def k_space_pool_may_space_pool_whole := PLift.up (call_fn (C := K_space_pool_may) (f := 39) (A := A_space_pool_whole) (p := p_space_pool_whole) (r := r_space_pool_whole) rfl)
noncomputable def k_space_pool_may_span_Less := PLift.up (call_fn (C := K_space_pool_may) (f := 35) (A := A_span_Less) (p := p_span_Less) (r := r_span_Less) rfl)
noncomputable def k_space_pool_may_span_Both := PLift.up (call_fn (C := K_space_pool_may) (f := 47) (A := A_span_Both) (p := p_span_Both) (r := r_span_Both) rfl)
noncomputable def k_space_pool_may_span_Add := PLift.up (call_fn (C := K_space_pool_may) (f := 34) (A := A_span_Add) (p := p_span_Add) (r := r_span_Add) rfl)
def A_space_pool_may := Arms.cons (argA Tpool) Arms.nil
def p_space_pool_may (x : Tpool × Unit) : Prop := lenS x.1.taken.Space
def r_space_pool_may (x : Tpool × Unit) : AV := .t (.bool (okSp x.1.data x.1.taken.Space))
set_option maxRecDepth 100000 in
set_option maxHeartbeats 2000000 in
theorem body_space_pool_may (x : Tpool × Unit) (hp : p_space_pool_may x) : avp K_space_pool_may G_space_pool_may (Ret K_space_pool_may [.tmp 2] fun v _ => v = r_space_pool_may x) (entry (A_space_pool_may.enc x) .empty) := by
  obtain ⟨⟨⟨s⟩, n⟩, ⟨⟩⟩ := x
  change lenS s at hp
  change avp _ _ (Ret _ _ fun v s' => v = .t (.bool (okSp n s))) (entry [.agg ((plC ⟨⟨s⟩, n⟩).map .t)] .empty)
  unfold G_space_pool_may
  simp only [vP.down, vS.down, vE.down, Nat.reduceEqDiff, Nat.reduceAdd, Nat.reduceSub, Nat.reduceMul, Nat.reduceLeDiff, Nat.reduceLT, Int.reduceToNat, reduceIte, reduceCtorEq, Int.reduceEq, Int.reduceLT, Int.reduceLE, ↓avp_condG, ↓tf_arrow, ↓ft_arrow, plC]
  intro g hg
  refine weak_at [(1, .imm (plC ⟨⟨s⟩, n⟩))] .empty fewer_empty (by
    simp only [vP.down, vS.down, vE.down, Nat.reduceEqDiff, Nat.reduceAdd, Nat.reduceSub, Nat.reduceMul, Nat.reduceLeDiff, Nat.reduceLT, Int.reduceToNat, reduceIte, reduceCtorEq, Int.reduceEq, Int.reduceLT, Int.reduceLE, ↓avp_condG, ↓tf_arrow, ↓ft_arrow, wP.down]
    exact w2_imm (l := plC ⟨⟨s⟩, n⟩) (Store.set_same _ _ _) rfl) ?_
  have hno : dataOk n = false → okSp n s = false := fun h => by rw [okSp, h]; rfl
  by_cases c1 : n < 40
  · have e := hno (by rw [dataOk, decide_eq_false (by omega)]; rfl)
    simp only [vP.down, vS.down, vE.down, Nat.reduceEqDiff, Nat.reduceAdd, Nat.reduceSub, Nat.reduceMul, Nat.reduceLeDiff, Nat.reduceLT, Int.reduceToNat, reduceIte, reduceCtorEq, Int.reduceEq, Int.reduceLT, Int.reduceLE, ↓avp_condG, ↓tf_arrow, ↓ft_arrow, plC, c1, gt_iff_lt, pick_of, pick_ot]
    simp only [vP.down, vS.down, vE.down, Nat.reduceEqDiff, Nat.reduceAdd, Nat.reduceSub, Nat.reduceMul, Nat.reduceLeDiff, Nat.reduceLT, Int.reduceToNat, reduceIte, reduceCtorEq, Int.reduceEq, Int.reduceLT, Int.reduceLE, ↓avp_condG, ↓tf_arrow, ↓ft_arrow, vT.down, e]
  by_cases c2 : 240 < n
  · have e := hno (by rw [dataOk, decide_eq_false (by omega : ¬ n ≤ 240), Bool.and_false])
    simp only [vP.down, vS.down, vE.down, Nat.reduceEqDiff, Nat.reduceAdd, Nat.reduceSub, Nat.reduceMul, Nat.reduceLeDiff, Nat.reduceLT, Int.reduceToNat, reduceIte, reduceCtorEq, Int.reduceEq, Int.reduceLT, Int.reduceLE, ↓avp_condG, ↓tf_arrow, ↓ft_arrow, plC, c1, c2, gt_iff_lt, pick_of, pick_ot]
    simp only [vP.down, vS.down, vE.down, Nat.reduceEqDiff, Nat.reduceAdd, Nat.reduceSub, Nat.reduceMul, Nat.reduceLeDiff, Nat.reduceLT, Int.reduceToNat, reduceIte, reduceCtorEq, Int.reduceEq, Int.reduceLT, Int.reduceLE, ↓avp_condG, ↓tf_arrow, ↓ft_arrow, vT.down, e]
  have hd : dataOk n = true := dataOk_iff.2 ⟨by omega, by omega⟩
  simp only [vP.down, vS.down, vE.down, Nat.reduceEqDiff, Nat.reduceAdd, Nat.reduceSub, Nat.reduceMul, Nat.reduceLeDiff, Nat.reduceLT, Int.reduceToNat, reduceIte, reduceCtorEq, Int.reduceEq, Int.reduceLT, Int.reduceLE, ↓avp_condG, ↓tf_arrow, ↓ft_arrow, plC, c1, c2, gt_iff_lt, pick_of, pick_ot]
  refine weak_at [(1, .imm (plC ⟨⟨s⟩, n⟩))] .empty fewer_refl (by simp only [vP.down, vS.down, vE.down, Nat.reduceEqDiff, Nat.reduceAdd, Nat.reduceSub, Nat.reduceMul, Nat.reduceLeDiff, Nat.reduceLT, Int.reduceToNat, reduceIte, reduceCtorEq, Int.reduceEq, Int.reduceLT, Int.reduceLE, ↓avp_condG, ↓tf_arrow, ↓ft_arrow, wP.down, plC]) ?_
  simp only [vP.down, vS.down, vE.down, Nat.reduceEqDiff, Nat.reduceAdd, Nat.reduceSub, Nat.reduceMul, Nat.reduceLeDiff, Nat.reduceLT, Int.reduceToNat, reduceIte, reduceCtorEq, Int.reduceEq, Int.reduceLT, Int.reduceLE, ↓avp_condG, ↓tf_arrow, ↓ft_arrow, plC, k_space_pool_may_space_taken_all.down, A_space_taken_all, p_space_taken_all, r_space_taken_all]
  refine loop_weak hm_space_pool_may (fun k σ => ∃ i : Nat, k = 4 - i ∧ i ≤ 4 ∧ (∀ j, j < i → fourOk n s j = true) ∧ σ = mkS [(1, .imm (plC ⟨⟨s⟩, n⟩)), (15, .agg ((spC s).map .t)), (16, .t (.int .i64 (i : Nat)))] .empty)
    ⟨0, rfl, by omega, by omega, rfl⟩ (wk_to fewer_refl (by simp only [vP.down, vS.down, vE.down, Nat.reduceEqDiff, Nat.reduceAdd, Nat.reduceSub, Nat.reduceMul, Nat.reduceLeDiff, Nat.reduceLT, Int.reduceToNat, reduceIte, reduceCtorEq, Int.reduceEq, Int.reduceLT, Int.reduceLE, ↓avp_condG, ↓tf_arrow, ↓ft_arrow, wP.down, plC, Int.natCast_zero])) ?_
  rintro k _ ⟨i, rfl, hi, hlo, rfl⟩
  have hi1 : IntKind.i64.wrap ((i : Int) + 1) = ((i + 1 : Nat) : Int) := by rw [IntWalk.i64_in _ (by omega)]; rfl
  by_cases hlt : i < 4
  case neg =>
    obtain rfl : i = 4 := by omega
    have hge : ¬ ((4 : Int) < 4) := by omega
    have e := okSp_of hd hlo
    simp only [vP.down, vS.down, vE.down, Nat.reduceEqDiff, Nat.reduceAdd, Nat.reduceSub, Nat.reduceMul, Nat.reduceLeDiff, Nat.reduceLT, Int.reduceToNat, reduceIte, reduceCtorEq, Int.reduceEq, Int.reduceLT, Int.reduceLE, ↓avp_condG, ↓tf_arrow, ↓ft_arrow, hge, show ((4 : Nat) : Int) = 4 from rfl]
    refine weak_at [(1, .imm (plC ⟨⟨s⟩, n⟩))] .empty fewer_refl (by simp only [vP.down, vS.down, vE.down, Nat.reduceEqDiff, Nat.reduceAdd, Nat.reduceSub, Nat.reduceMul, Nat.reduceLeDiff, Nat.reduceLT, Int.reduceToNat, reduceIte, reduceCtorEq, Int.reduceEq, Int.reduceLT, Int.reduceLE, ↓avp_condG, ↓tf_arrow, ↓ft_arrow, wP.down]) ?_
    obtain ⟨l1, l2, l3, l4⟩ := hp
    have a1 := where_len .add s.Held s.One
    have p1 : s.Held.length + s.One.length ≤ 1099511627 := by omega
    have p2 : (whereL .add s.Held s.One).length + s.Two.length ≤ 1099511627 := by omega
    obtain ⟨b1, hb1⟩ : ∃ b, b = whereL .both s.Held s.One := ⟨_, rfl⟩
    obtain ⟨b2, hb2⟩ : ∃ b, b = whereL .both (whereL .add s.Held s.One) s.Two := ⟨_, rfl⟩
    rw [← hb1, ← hb2] at e
    by_cases c1 : b1 = []
    case neg =>
      have d1 : ((b1.length : Int) = 0) = False := eq_false fun h => c1 (len_nil.1 h)
      rw [decide_eq_false c1, Bool.false_and] at e
      simp only [vP.down, vS.down, vE.down, Nat.reduceEqDiff, Nat.reduceAdd, Nat.reduceSub, Nat.reduceMul, Nat.reduceLeDiff, Nat.reduceLT, Int.reduceToNat, reduceIte, reduceCtorEq, Int.reduceEq, Int.reduceLT, Int.reduceLE, ↓avp_condG, ↓tf_arrow, ↓ft_arrow, plC, ← hb1, ← hb2, d1, p1, p2, pick_of, pick_ot, false_implies, k_space_pool_may_span_Both.down, A_span_Both, p_span_Both, r_span_Both, k_space_pool_may_span_Add.down, A_span_Add, p_span_Add, r_span_Add]
      simp only [vP.down, vS.down, vE.down, Nat.reduceEqDiff, Nat.reduceAdd, Nat.reduceSub, Nat.reduceMul, Nat.reduceLeDiff, Nat.reduceLT, Int.reduceToNat, reduceIte, reduceCtorEq, Int.reduceEq, Int.reduceLT, Int.reduceLE, ↓avp_condG, ↓tf_arrow, ↓ft_arrow, vT.down, e]
    have d1 : ((b1.length : Int) = 0) = True := eq_true (len_nil.2 c1)
    have d2 : decide ((b2.length : Int) = 0) = decide (b2 = []) := decide_eq_decide.2 len_nil
    rw [decide_eq_true c1, Bool.true_and] at e
    simp only [vP.down, vS.down, vE.down, Nat.reduceEqDiff, Nat.reduceAdd, Nat.reduceSub, Nat.reduceMul, Nat.reduceLeDiff, Nat.reduceLT, Int.reduceToNat, reduceIte, reduceCtorEq, Int.reduceEq, Int.reduceLT, Int.reduceLE, ↓avp_condG, ↓tf_arrow, ↓ft_arrow, plC, ← hb1, ← hb2, d1, d2, p1, p2, pick_of, pick_ot, false_implies, k_space_pool_may_span_Both.down, A_span_Both, p_span_Both, r_span_Both, k_space_pool_may_span_Add.down, A_span_Add, p_span_Add, r_span_Add]
    simp only [vP.down, vS.down, vE.down, Nat.reduceEqDiff, Nat.reduceAdd, Nat.reduceSub, Nat.reduceMul, Nat.reduceLeDiff, Nat.reduceLT, Int.reduceToNat, reduceIte, reduceCtorEq, Int.reduceEq, Int.reduceLT, Int.reduceLE, ↓avp_condG, ↓tf_arrow, ↓ft_arrow, vT.down, e]
  have hlt' : (i : Int) < 4 := by omega
  have h40 : (0 : Int) ≤ (i : Int) := by omega
  have hdr := drop_sp (s := s) hlt
  simp only [vP.down, vS.down, vE.down, Nat.reduceEqDiff, Nat.reduceAdd, Nat.reduceSub, Nat.reduceMul, Nat.reduceLeDiff, Nat.reduceLT, Int.reduceToNat, reduceIte, reduceCtorEq, Int.reduceEq, Int.reduceLT, Int.reduceLE, ↓avp_condG, ↓tf_arrow, ↓ft_arrow, hlt', h40, hdr, Nat.mul_one, Int.toNat_natCast]
  refine weak_at [(1, .imm (plC ⟨⟨s⟩, n⟩)), (4, .t (sl (at4 s i))), (15, .agg ((spC s).map .t)), (16, .t (.int .i64 (i : Nat)))] .empty fewer_refl (by simp only [vP.down, vS.down, vE.down, Nat.reduceEqDiff, Nat.reduceAdd, Nat.reduceSub, Nat.reduceMul, Nat.reduceLeDiff, Nat.reduceLT, Int.reduceToNat, reduceIte, reduceCtorEq, Int.reduceEq, Int.reduceLT, Int.reduceLE, ↓avp_condG, ↓tf_arrow, ↓ft_arrow, wP.down, spC]) ?_
  have la := at4_len hp (i := i)
  have p1 : (at4 s i).length < 4611686018427387904 := by omega
  have p2 : (at4 s i).length + [(⟨14, 14 + n⟩ : TRun)].length ≤ 1099511627 := by
    show _ + 1 ≤ _
    omega
  have p3 : (at4 s i).length ≤ 1099511626 := by omega
  obtain ⟨q, hq⟩ : ∃ q, q = at4 s i := ⟨_, rfl⟩
  have hfo : fourOk n s i = (mayR (-1) q && decide (whereL .less q [⟨14, 14 + n⟩] = [])) := by rw [hq]; rfl
  rw [← hq] at p1 p2 p3 ⊢
  cases hm : mayR (-1) q with
  | false =>
    rw [hm, Bool.false_and] at hfo
    have e := okSp_no hd hlt hfo
    simp only [vP.down, vS.down, vE.down, Nat.reduceEqDiff, Nat.reduceAdd, Nat.reduceSub, Nat.reduceMul, Nat.reduceLeDiff, Nat.reduceLT, Int.reduceToNat, reduceIte, reduceCtorEq, Int.reduceEq, Int.reduceLT, Int.reduceLE, ↓avp_condG, ↓tf_arrow, ↓ft_arrow, plC, hd, hm, p1, p2, p3, pick_of, pick_ot, false_implies, k_space_pool_may_span_May.down, A_span_May, p_span_May, r_span_May, k_space_pool_may_span_Less.down, A_span_Less, p_span_Less, r_span_Less, k_space_pool_may_space_pool_whole.down, A_space_pool_whole, p_space_pool_whole, r_space_pool_whole]
    simp only [vP.down, vS.down, vE.down, Nat.reduceEqDiff, Nat.reduceAdd, Nat.reduceSub, Nat.reduceMul, Nat.reduceLeDiff, Nat.reduceLT, Int.reduceToNat, reduceIte, reduceCtorEq, Int.reduceEq, Int.reduceLT, Int.reduceLE, ↓avp_condG, ↓tf_arrow, ↓ft_arrow, vT.down, e]
  | true =>
  rw [hm, Bool.true_and] at hfo
  obtain ⟨b, hb⟩ : ∃ b, b = whereL .less q [⟨14, 14 + n⟩] := ⟨_, rfl⟩
  rw [← hb] at hfo
  by_cases c1 : b = []
  case neg =>
    rw [decide_eq_false c1] at hfo
    have e := okSp_no hd hlt hfo
    have d1 : (0 : Int) < (b.length : Int) := by
      have : ¬ ((b.length : Int) = 0) := fun h => c1 (len_nil.1 h)
      omega
    simp only [vP.down, vS.down, vE.down, Nat.reduceEqDiff, Nat.reduceAdd, Nat.reduceSub, Nat.reduceMul, Nat.reduceLeDiff, Nat.reduceLT, Int.reduceToNat, reduceIte, reduceCtorEq, Int.reduceEq, Int.reduceLT, Int.reduceLE, ↓avp_condG, ↓tf_arrow, ↓ft_arrow, plC, hd, hm, p1, p2, p3, ← hb, d1, gt_iff_lt, pick_of, pick_ot, false_implies, k_space_pool_may_span_May.down, A_span_May, p_span_May, r_span_May, k_space_pool_may_span_Less.down, A_span_Less, p_span_Less, r_span_Less, k_space_pool_may_space_pool_whole.down, A_space_pool_whole, p_space_pool_whole, r_space_pool_whole]
    simp only [vP.down, vS.down, vE.down, Nat.reduceEqDiff, Nat.reduceAdd, Nat.reduceSub, Nat.reduceMul, Nat.reduceLeDiff, Nat.reduceLT, Int.reduceToNat, reduceIte, reduceCtorEq, Int.reduceEq, Int.reduceLT, Int.reduceLE, ↓avp_condG, ↓tf_arrow, ↓ft_arrow, vT.down, e]
  rw [decide_eq_true c1] at hfo
  have d1 : ¬ (0 : Int) < (b.length : Int) := by
    have := len_nil.2 c1
    omega
  simp only [vP.down, vS.down, vE.down, Nat.reduceEqDiff, Nat.reduceAdd, Nat.reduceSub, Nat.reduceMul, Nat.reduceLeDiff, Nat.reduceLT, Int.reduceToNat, reduceIte, reduceCtorEq, Int.reduceEq, Int.reduceLT, Int.reduceLE, ↓avp_condG, ↓tf_arrow, ↓ft_arrow, plC, hd, hm, p1, p2, p3, ← hb, d1, gt_iff_lt, pick_of, pick_ot, false_implies, k_space_pool_may_span_May.down, A_span_May, p_span_May, r_span_May, k_space_pool_may_span_Less.down, A_span_Less, p_span_Less, r_span_Less, k_space_pool_may_space_pool_whole.down, A_space_pool_whole, p_space_pool_whole, r_space_pool_whole]
  exact round_to (4 - (i + 1)) [(1, .imm (plC ⟨⟨s⟩, n⟩)), (15, .agg ((spC s).map .t)), (16, .t (.int .i64 (i + 1 : Nat)))] .empty (by omega) fewer_refl (by simp only [vP.down, vS.down, vE.down, Nat.reduceEqDiff, Nat.reduceAdd, Nat.reduceSub, Nat.reduceMul, Nat.reduceLeDiff, Nat.reduceLT, Int.reduceToNat, reduceIte, reduceCtorEq, Int.reduceEq, Int.reduceLT, Int.reduceLE, ↓avp_condG, ↓tf_arrow, ↓ft_arrow, wP.down, hi1, spC, plC]) ⟨i + 1, rfl, by omega, fun j hj => (by
    by_cases hji : j = i
    · rw [hji]; exact hfo
    · exact hlo j (by omega)), rfl⟩
noncomputable def c_space_pool_may : Con := fnScal A_space_pool_may p_space_pool_may r_space_pool_may
theorem ok_space_pool_may : COk Try.prog 36 c_space_pool_may := fn_sok sys_space_pool_may mixed Try.func36 (by kernel_rfl) geq_space_pool_may Try.ntmps36 (by rw [Try.results36]) (fun x => by unfold r_space_pool_may; simp [AV.scal]) fun x hx => ⟨Nat.le_of_ble_eq_true rfl, body_space_pool_may x hx⟩
end Go.Proofs.Ytgdaibdfjhchbaa


namespace Go.Proofs.Ytgdaibdfjhchbaa
open Go Go.Eng
set_option maxRecDepth 100000
def G_ref8_MaySpace : GCode := .seq (.region [⟨(some 3), none, .box 26 (.tmp 1)⟩, ⟨(some 4), none, .assign (.const (.bool false))⟩]) (.seq (.seq (.seq .weak (.region [⟨(some 5), none, .move (.tmp 0)⟩, ⟨(some 6), none, .call ⟨.value (.func 37), #[.tmp 5], #[3]⟩⟩, ⟨(some 7), none, .unOp .not 4 (.tmp 6)⟩, ⟨(some 8), none, .move (.tmp 7)⟩, ⟨(some 9), (some (8, false)), .move (.tmp 0)⟩, ⟨(some 10), (some (8, false)), .fieldAddr 26 (.tmp 3) 0⟩, ⟨(some 11), (some (8, false)), .load 23 (.tmp 10)⟩, ⟨(some 12), (some (8, false)), .call ⟨.value (.func 38), #[.tmp 9, .tmp 11], #[3, 23]⟩⟩, ⟨(some 13), (some (8, false)), .unOp .not 4 (.tmp 12)⟩, ⟨(some 14), none, .pick (.tmp 8) (.const (.bool true)) (.tmp 13)⟩, ⟨(some 15), none, .move (.tmp 14)⟩, ⟨(some 16), (some (15, false)), .move (.tmp 0)⟩, ⟨(some 17), (some (15, false)), .fieldAddr 26 (.tmp 3) 1⟩, ⟨(some 18), (some (15, false)), .load 23 (.tmp 17)⟩, ⟨(some 19), (some (15, false)), .call ⟨.value (.func 38), #[.tmp 16, .tmp 18], #[3, 23]⟩⟩, ⟨(some 20), (some (15, false)), .unOp .not 4 (.tmp 19)⟩, ⟨(some 21), none, .pick (.tmp 15) (.const (.bool true)) (.tmp 20)⟩, ⟨(some 22), none, .move (.tmp 21)⟩, ⟨(some 23), (some (22, false)), .move (.tmp 0)⟩, ⟨(some 24), (some (22, false)), .fieldAddr 26 (.tmp 3) 2⟩, ⟨(some 25), (some (22, false)), .load 23 (.tmp 24)⟩, ⟨(some 26), (some (22, false)), .call ⟨.value (.func 38), #[.tmp 23, .tmp 25], #[3, 23]⟩⟩, ⟨(some 27), (some (22, false)), .unOp .not 4 (.tmp 26)⟩, ⟨(some 28), none, .pick (.tmp 22) (.const (.bool true)) (.tmp 27)⟩, ⟨(some 29), none, .move (.tmp 28)⟩, ⟨(some 30), (some (29, false)), .move (.tmp 0)⟩, ⟨(some 31), (some (29, false)), .fieldAddr 26 (.tmp 3) 3⟩, ⟨(some 32), (some (29, false)), .load 23 (.tmp 31)⟩, ⟨(some 33), (some (29, false)), .call ⟨.value (.func 38), #[.tmp 30, .tmp 32], #[3, 23]⟩⟩, ⟨(some 34), (some (29, false)), .unOp .not 4 (.tmp 33)⟩, ⟨(some 35), none, .pick (.tmp 29) (.const (.bool true)) (.tmp 34)⟩])) (.cond (.tmp 35) (.seq (.region [⟨(some 4), none, .assign (.const (.bool false))⟩]) (.ret)) (.skip))) (.seq (.seq .weak (.region [⟨(some 36), none, .fieldAddr 26 (.tmp 3) 0⟩, ⟨(some 37), none, .load 23 (.tmp 36)⟩, ⟨(some 38), none, .fieldAddr 26 (.tmp 3) 1⟩, ⟨(some 39), none, .load 23 (.tmp 38)⟩, ⟨(some 40), none, .call ⟨.value (.func 28), #[.tmp 37, .tmp 39], #[23, 23]⟩⟩, ⟨(some 41), none, .call ⟨.builtin .len, #[.tmp 40], #[23]⟩⟩, ⟨(some 42), none, .binOp .eql 3 (.tmp 41) (.const (.int .i64 0)) 3⟩, ⟨(some 43), none, .move (.tmp 42)⟩, ⟨(some 44), (some (43, true)), .fieldAddr 26 (.tmp 3) 0⟩, ⟨(some 45), (some (43, true)), .load 23 (.tmp 44)⟩, ⟨(some 46), (some (43, true)), .fieldAddr 26 (.tmp 3) 2⟩, ⟨(some 47), (some (43, true)), .load 23 (.tmp 46)⟩, ⟨(some 48), (some (43, true)), .call ⟨.value (.func 28), #[.tmp 45, .tmp 47], #[23, 23]⟩⟩, ⟨(some 49), (some (43, true)), .call ⟨.builtin .len, #[.tmp 48], #[23]⟩⟩, ⟨(some 50), (some (43, true)), .binOp .eql 3 (.tmp 49) (.const (.int .i64 0)) 3⟩, ⟨(some 51), none, .pick (.tmp 43) (.tmp 50) (.const (.bool false))⟩, ⟨(some 52), none, .move (.tmp 51)⟩, ⟨(some 53), (some (52, true)), .fieldAddr 26 (.tmp 3) 1⟩, ⟨(some 54), (some (52, true)), .load 23 (.tmp 53)⟩, ⟨(some 55), (some (52, true)), .fieldAddr 26 (.tmp 3) 2⟩, ⟨(some 56), (some (52, true)), .load 23 (.tmp 55)⟩, ⟨(some 57), (some (52, true)), .call ⟨.value (.func 28), #[.tmp 54, .tmp 56], #[23, 23]⟩⟩, ⟨(some 58), (some (52, true)), .call ⟨.builtin .len, #[.tmp 57], #[23]⟩⟩, ⟨(some 59), (some (52, true)), .binOp .eql 3 (.tmp 58) (.const (.int .i64 0)) 3⟩, ⟨(some 60), none, .pick (.tmp 52) (.tmp 59) (.const (.bool false))⟩, ⟨(some 4), none, .assign (.tmp 60)⟩])) (.ret)))
noncomputable def l_ref8_MaySpace : List (Nat × Con) := [(37, c_ref8_mayData), (38, c_ref8_within), (28, c_ref8_Both)]
noncomputable abbrev K_ref8_MaySpace : Ctx := ctx (cl l_ref8_MaySpace)
theorem geq_ref8_MaySpace : gof K_ref8_MaySpace Try.f17 = some G_ref8_MaySpace.strip := by kernel_rfl
theorem sys_ref8_MaySpace : Go.Eng.Sys Try.prog K_ref8_MaySpace := sys_of' ⟨ok_ref8_mayData, ok_ref8_within, ok_ref8_Both, trivial⟩
theorem hm_ref8_MaySpace : ConMono K_ref8_MaySpace := conMono_of sys_ref8_MaySpace.con
noncomputable def k_ref8_MaySpace_ref8_mayData := PLift.up (call_scal (C := K_ref8_MaySpace) (f := 37) (A := A_ref8_mayData) (p := p_ref8_mayData) (r := r_ref8_mayData) rfl)
noncomputable def k_ref8_MaySpace_ref8_within := PLift.up (call_scal (C := K_ref8_MaySpace) (f := 38) (A := A_ref8_within) (p := p_ref8_within) (r := r_ref8_within) rfl)
noncomputable def k_ref8_MaySpace_ref8_Both := PLift.up (call_fn (C := K_ref8_MaySpace) (f := 28) (A := A_ref8_Both) (p := p_ref8_Both) (r := r_ref8_Both) rfl)
def A_ref8_MaySpace := Arms.cons (argT Int) (Arms.cons (argA TSpace) Arms.nil)
def p_ref8_MaySpace (x : Int × TSpace × Unit) : Prop := lenS x.2.1
def r_ref8_MaySpace (x : Int × TSpace × Unit) : AV := .t (.bool (okSp x.1 x.2.1))
set_option maxHeartbeats 4000000 in
theorem body_ref8_MaySpace (x : Int × TSpace × Unit) (hp : p_ref8_MaySpace x) : avp K_ref8_MaySpace G_ref8_MaySpace (Ret K_ref8_MaySpace [.tmp 4] fun v _ => v = r_ref8_MaySpace x) (entry (A_ref8_MaySpace.enc x) .empty) := by
  obtain ⟨n, s, ⟨⟩⟩ := x
  obtain ⟨l1, l2, l3, l4⟩ : lenS s := hp
  change avp _ _ (Ret _ _ fun v s' => v = .t (.bool (okSp n s))) (entry [.t (.int .i64 n), .agg ((spC s).map .t)] .empty)
  unfold G_ref8_MaySpace
  simp only [vP.down, vS.down, vE.down, Nat.reduceEqDiff, Nat.reduceAdd, Nat.reduceSub, Nat.reduceMul, Nat.reduceLeDiff, Nat.reduceLT, Int.reduceToNat, reduceIte, reduceCtorEq, Int.reduceEq, Int.reduceLT, Int.reduceLE, ↓avp_condG, ↓tf_arrow, ↓ft_arrow, spC]
  intro g hg
  refine weak_at [(0, .t (.int .i64 n)), (3, .imm (spC s))] .empty fewer_empty (by
    simp only [vP.down, vS.down, vE.down, Nat.reduceEqDiff, Nat.reduceAdd, Nat.reduceSub, Nat.reduceMul, Nat.reduceLeDiff, Nat.reduceLT, Int.reduceToNat, reduceIte, reduceCtorEq, Int.reduceEq, Int.reduceLT, Int.reduceLE, ↓avp_condG, ↓tf_arrow, ↓ft_arrow, wP.down]
    exact w2_imm (l := spC s) (Store.set_same _ _ _) rfl) ?_
  have q1 : s.Held.length ≤ 1000000 := by omega
  have q2 : s.One.length ≤ 1000000 := by omega
  have q3 : s.Two.length ≤ 1000000 := by omega
  have q4 : s.Kept.length ≤ 1000000 := by omega
  have u1 : s.Held.length + s.One.length ≤ 1099511627 := by omega
  have u2 : s.Held.length + s.Two.length ≤ 1099511627 := by omega
  have u3 : s.One.length + s.Two.length ≤ 1099511627 := by omega
  unfold okSp
  cases hd : dataOk n with
  | false =>
    simp only [vP.down, vS.down, vE.down, Nat.reduceEqDiff, Nat.reduceAdd, Nat.reduceSub, Nat.reduceMul, Nat.reduceLeDiff, Nat.reduceLT, Int.reduceToNat, reduceIte, reduceCtorEq, Int.reduceEq, Int.reduceLT, Int.reduceLE, ↓avp_condG, ↓tf_arrow, ↓ft_arrow, spC, hd, q1, q2, q3, q4, pick_of, pick_ot, false_implies, k_ref8_MaySpace_ref8_mayData.down, A_ref8_mayData, p_ref8_mayData, r_ref8_mayData, k_ref8_MaySpace_ref8_within.down, A_ref8_within, p_ref8_within, r_ref8_within]
    simp only [vP.down, vS.down, vE.down, Nat.reduceEqDiff, Nat.reduceAdd, Nat.reduceSub, Nat.reduceMul, Nat.reduceLeDiff, Nat.reduceLT, Int.reduceToNat, reduceIte, reduceCtorEq, Int.reduceEq, Int.reduceLT, Int.reduceLE, ↓avp_condG, ↓tf_arrow, ↓ft_arrow, vT.down]
  | true =>
  cases h1 : wit n s.Held with
  | false =>
    simp only [vP.down, vS.down, vE.down, Nat.reduceEqDiff, Nat.reduceAdd, Nat.reduceSub, Nat.reduceMul, Nat.reduceLeDiff, Nat.reduceLT, Int.reduceToNat, reduceIte, reduceCtorEq, Int.reduceEq, Int.reduceLT, Int.reduceLE, ↓avp_condG, ↓tf_arrow, ↓ft_arrow, spC, hd, h1, q1, q2, q3, q4, pick_of, pick_ot, false_implies, k_ref8_MaySpace_ref8_mayData.down, A_ref8_mayData, p_ref8_mayData, r_ref8_mayData, k_ref8_MaySpace_ref8_within.down, A_ref8_within, p_ref8_within, r_ref8_within]
    simp only [vP.down, vS.down, vE.down, Nat.reduceEqDiff, Nat.reduceAdd, Nat.reduceSub, Nat.reduceMul, Nat.reduceLeDiff, Nat.reduceLT, Int.reduceToNat, reduceIte, reduceCtorEq, Int.reduceEq, Int.reduceLT, Int.reduceLE, ↓avp_condG, ↓tf_arrow, ↓ft_arrow, vT.down]
  | true =>
  cases h2 : wit n s.One with
  | false =>
    simp only [vP.down, vS.down, vE.down, Nat.reduceEqDiff, Nat.reduceAdd, Nat.reduceSub, Nat.reduceMul, Nat.reduceLeDiff, Nat.reduceLT, Int.reduceToNat, reduceIte, reduceCtorEq, Int.reduceEq, Int.reduceLT, Int.reduceLE, ↓avp_condG, ↓tf_arrow, ↓ft_arrow, spC, hd, h1, h2, q1, q2, q3, q4, pick_of, pick_ot, false_implies, k_ref8_MaySpace_ref8_mayData.down, A_ref8_mayData, p_ref8_mayData, r_ref8_mayData, k_ref8_MaySpace_ref8_within.down, A_ref8_within, p_ref8_within, r_ref8_within]
    simp only [vP.down, vS.down, vE.down, Nat.reduceEqDiff, Nat.reduceAdd, Nat.reduceSub, Nat.reduceMul, Nat.reduceLeDiff, Nat.reduceLT, Int.reduceToNat, reduceIte, reduceCtorEq, Int.reduceEq, Int.reduceLT, Int.reduceLE, ↓avp_condG, ↓tf_arrow, ↓ft_arrow, vT.down]
  | true =>
  cases h3 : wit n s.Two with
  | false =>
    simp only [vP.down, vS.down, vE.down, Nat.reduceEqDiff, Nat.reduceAdd, Nat.reduceSub, Nat.reduceMul, Nat.reduceLeDiff, Nat.reduceLT, Int.reduceToNat, reduceIte, reduceCtorEq, Int.reduceEq, Int.reduceLT, Int.reduceLE, ↓avp_condG, ↓tf_arrow, ↓ft_arrow, spC, hd, h1, h2, h3, q1, q2, q3, q4, pick_of, pick_ot, false_implies, k_ref8_MaySpace_ref8_mayData.down, A_ref8_mayData, p_ref8_mayData, r_ref8_mayData, k_ref8_MaySpace_ref8_within.down, A_ref8_within, p_ref8_within, r_ref8_within]
    simp only [vP.down, vS.down, vE.down, Nat.reduceEqDiff, Nat.reduceAdd, Nat.reduceSub, Nat.reduceMul, Nat.reduceLeDiff, Nat.reduceLT, Int.reduceToNat, reduceIte, reduceCtorEq, Int.reduceEq, Int.reduceLT, Int.reduceLE, ↓avp_condG, ↓tf_arrow, ↓ft_arrow, vT.down]
  | true =>
  cases h4 : wit n s.Kept with
  | false =>
    simp only [vP.down, vS.down, vE.down, Nat.reduceEqDiff, Nat.reduceAdd, Nat.reduceSub, Nat.reduceMul, Nat.reduceLeDiff, Nat.reduceLT, Int.reduceToNat, reduceIte, reduceCtorEq, Int.reduceEq, Int.reduceLT, Int.reduceLE, ↓avp_condG, ↓tf_arrow, ↓ft_arrow, spC, hd, h1, h2, h3, h4, q1, q2, q3, q4, pick_of, pick_ot, false_implies, k_ref8_MaySpace_ref8_mayData.down, A_ref8_mayData, p_ref8_mayData, r_ref8_mayData, k_ref8_MaySpace_ref8_within.down, A_ref8_within, p_ref8_within, r_ref8_within]
    simp only [vP.down, vS.down, vE.down, Nat.reduceEqDiff, Nat.reduceAdd, Nat.reduceSub, Nat.reduceMul, Nat.reduceLeDiff, Nat.reduceLT, Int.reduceToNat, reduceIte, reduceCtorEq, Int.reduceEq, Int.reduceLT, Int.reduceLE, ↓avp_condG, ↓tf_arrow, ↓ft_arrow, vT.down]
  | true =>
  simp only [vP.down, vS.down, vE.down, Nat.reduceEqDiff, Nat.reduceAdd, Nat.reduceSub, Nat.reduceMul, Nat.reduceLeDiff, Nat.reduceLT, Int.reduceToNat, reduceIte, reduceCtorEq, Int.reduceEq, Int.reduceLT, Int.reduceLE, ↓avp_condG, ↓tf_arrow, ↓ft_arrow, spC, hd, h1, h2, h3, h4, q1, q2, q3, q4, pick_of, pick_ot, false_implies, k_ref8_MaySpace_ref8_mayData.down, A_ref8_mayData, p_ref8_mayData, r_ref8_mayData, k_ref8_MaySpace_ref8_within.down, A_ref8_within, p_ref8_within, r_ref8_within]
  refine weak_at [(0, .t (.int .i64 n)), (3, .imm (spC s))] .empty fewer_refl (by simp only [vP.down, vS.down, vE.down, Nat.reduceEqDiff, Nat.reduceAdd, Nat.reduceSub, Nat.reduceMul, Nat.reduceLeDiff, Nat.reduceLT, Int.reduceToNat, reduceIte, reduceCtorEq, Int.reduceEq, Int.reduceLT, Int.reduceLE, ↓avp_condG, ↓tf_arrow, ↓ft_arrow, wP.down, spC]) ?_
  obtain ⟨b1, hb1⟩ : ∃ b, b = whereL .both s.Held s.One := ⟨_, rfl⟩
  obtain ⟨b2, hb2⟩ : ∃ b, b = whereL .both s.Held s.Two := ⟨_, rfl⟩
  obtain ⟨b3, hb3⟩ : ∃ b, b = whereL .both s.One s.Two := ⟨_, rfl⟩
  rw [← hb1, ← hb2, ← hb3]
  by_cases c1 : b1 = []
  case neg =>
    have d1 : ((b1.length : Int) = 0) = False := eq_false fun h => c1 (len_nil.1 h)
    simp only [vP.down, vS.down, vE.down, Nat.reduceEqDiff, Nat.reduceAdd, Nat.reduceSub, Nat.reduceMul, Nat.reduceLeDiff, Nat.reduceLT, Int.reduceToNat, reduceIte, reduceCtorEq, Int.reduceEq, Int.reduceLT, Int.reduceLE, ↓avp_condG, ↓tf_arrow, ↓ft_arrow, spC, ← hb1, ← hb2, ← hb3, c1, d1, u1, u2, u3, pick_of, pick_ot, false_implies, k_ref8_MaySpace_ref8_Both.down, A_ref8_Both, p_ref8_Both, r_ref8_Both]
    simp only [vP.down, vS.down, vE.down, Nat.reduceEqDiff, Nat.reduceAdd, Nat.reduceSub, Nat.reduceMul, Nat.reduceLeDiff, Nat.reduceLT, Int.reduceToNat, reduceIte, reduceCtorEq, Int.reduceEq, Int.reduceLT, Int.reduceLE, ↓avp_condG, ↓tf_arrow, ↓ft_arrow, vT.down]
  have d1 : ((b1.length : Int) = 0) = True := eq_true (len_nil.2 c1)
  by_cases c2 : b2 = []
  case neg =>
    have d2 : ((b2.length : Int) = 0) = False := eq_false fun h => c2 (len_nil.1 h)
    simp only [vP.down, vS.down, vE.down, Nat.reduceEqDiff, Nat.reduceAdd, Nat.reduceSub, Nat.reduceMul, Nat.reduceLeDiff, Nat.reduceLT, Int.reduceToNat, reduceIte, reduceCtorEq, Int.reduceEq, Int.reduceLT, Int.reduceLE, ↓avp_condG, ↓tf_arrow, ↓ft_arrow, spC, ← hb1, ← hb2, ← hb3, c1, c2, d1, d2, u1, u2, u3, pick_of, pick_ot, false_implies, k_ref8_MaySpace_ref8_Both.down, A_ref8_Both, p_ref8_Both, r_ref8_Both]
    simp only [vP.down, vS.down, vE.down, Nat.reduceEqDiff, Nat.reduceAdd, Nat.reduceSub, Nat.reduceMul, Nat.reduceLeDiff, Nat.reduceLT, Int.reduceToNat, reduceIte, reduceCtorEq, Int.reduceEq, Int.reduceLT, Int.reduceLE, ↓avp_condG, ↓tf_arrow, ↓ft_arrow, vT.down]
  have d2 : ((b2.length : Int) = 0) = True := eq_true (len_nil.2 c2)
  have d3 : decide ((b3.length : Int) = 0) = decide (b3 = []) := decide_eq_decide.2 len_nil
  simp only [vP.down, vS.down, vE.down, Nat.reduceEqDiff, Nat.reduceAdd, Nat.reduceSub, Nat.reduceMul, Nat.reduceLeDiff, Nat.reduceLT, Int.reduceToNat, reduceIte, reduceCtorEq, Int.reduceEq, Int.reduceLT, Int.reduceLE, ↓avp_condG, ↓tf_arrow, ↓ft_arrow, spC, ← hb1, ← hb2, ← hb3, c1, c2, d1, d2, d3, u1, u2, u3, pick_of, pick_ot, false_implies, k_ref8_MaySpace_ref8_Both.down, A_ref8_Both, p_ref8_Both, r_ref8_Both]
  simp only [vP.down, vS.down, vE.down, Nat.reduceEqDiff, Nat.reduceAdd, Nat.reduceSub, Nat.reduceMul, Nat.reduceLeDiff, Nat.reduceLT, Int.reduceToNat, reduceIte, reduceCtorEq, Int.reduceEq, Int.reduceLT, Int.reduceLE, ↓avp_condG, ↓tf_arrow, ↓ft_arrow, vT.down]
noncomputable def c_ref8_MaySpace : Con := fnScal A_ref8_MaySpace p_ref8_MaySpace r_ref8_MaySpace
theorem ok_ref8_MaySpace : COk Try.prog 17 c_ref8_MaySpace := fn_sok sys_ref8_MaySpace mixed Try.func17 (by kernel_rfl) geq_ref8_MaySpace Try.ntmps17 (by rw [Try.results17]) (fun x => by unfold r_ref8_MaySpace; simp [AV.scal]) fun x hx => ⟨Nat.le_of_ble_eq_true rfl, body_ref8_MaySpace x hx⟩
end Go.Proofs.Ytgdaibdfjhchbaa


namespace Go.Proofs.Ytgdaibdfjhchbaa
open Go Go.Eng
set_option maxRecDepth 100000
def G_space_Keep : GCode := .seq (.region [⟨(some 1), none, .box 26 (.tmp 0)⟩, ⟨(some 2), none, .alloc 26⟩]) (.seq (.seq .weak (.region [⟨(some 3), none, .fieldAddr 26 (.tmp 1) 0⟩, ⟨(some 4), none, .load 23 (.tmp 3)⟩, ⟨(some 5), none, .call ⟨.value (.func 33), #[.tmp 4], #[23]⟩⟩, ⟨(some 6), none, .fieldAddr 26 (.tmp 1) 1⟩, ⟨(some 7), none, .load 23 (.tmp 6)⟩, ⟨(some 8), none, .call ⟨.value (.func 33), #[.tmp 7], #[23]⟩⟩, ⟨(some 9), none, .fieldAddr 26 (.tmp 1) 2⟩, ⟨(some 10), none, .load 23 (.tmp 9)⟩, ⟨(some 11), none, .call ⟨.value (.func 33), #[.tmp 10], #[23]⟩⟩, ⟨(some 12), none, .fieldAddr 26 (.tmp 1) 0⟩, ⟨(some 13), none, .load 23 (.tmp 12)⟩, ⟨(some 14), none, .call ⟨.value (.func 33), #[.tmp 13], #[23]⟩⟩, ⟨(some 15), none, .build 26 #[(0, .tmp 5), (1, .tmp 8), (2, .tmp 11), (3, .tmp 14)]⟩, ⟨none, none, .store 26 (.tmp 2) (.tmp 15)⟩])) (.ret))
noncomputable def l_space_Keep : List (Nat × Con) := [(33, c_space_copied)]
noncomputable abbrev K_space_Keep : Ctx := ctx (cl l_space_Keep)
theorem geq_space_Keep : gof K_space_Keep Try.f14 = some G_space_Keep.strip := by kernel_rfl
theorem sys_space_Keep : Go.Eng.Sys Try.prog K_space_Keep := sys_of' ⟨ok_space_copied, trivial⟩
theorem hm_space_Keep : ConMono K_space_Keep := conMono_of sys_space_Keep.con
noncomputable def k_space_Keep_space_copied := PLift.up (call_fn (C := K_space_Keep) (f := 33) (A := A_space_copied) (p := p_space_copied) (r := r_space_copied) rfl)
def A_space_Keep := Arms.cons (argA TSpace) Arms.nil
def p_space_Keep (x : TSpace × Unit) : Prop := lenS x.1
def r_space_Keep (x : TSpace × Unit) : AV := .agg ((spC (keepM x.1)).map .t)
set_option maxHeartbeats 4000000 in
theorem body_space_Keep (x : TSpace × Unit) (hp : p_space_Keep x) : avp K_space_Keep G_space_Keep (Ret K_space_Keep [.cell 2 26] fun v s' => Frz s' v (r_space_Keep x)) (entry (A_space_Keep.enc x) .empty) := by
  obtain ⟨s, ⟨⟩⟩ := x
  obtain ⟨l1, l2, l3, l4⟩ : lenS s := hp
  change avp _ _ (Ret _ _ fun v s' => Frz s' v (.agg ((spC (keepM s)).map .t))) (entry [.agg ((spC s).map .t)] .empty)
  unfold G_space_Keep spC
  simp only [vP.down, vS.down, vE.down, Nat.reduceEqDiff, Nat.reduceAdd, Nat.reduceSub, Nat.reduceMul, Nat.reduceLeDiff, Nat.reduceLT, Int.reduceToNat, reduceIte, reduceCtorEq, Int.reduceEq, Int.reduceLT, Int.reduceLE, ↓avp_condG, ↓tf_arrow, ↓ft_arrow]
  intro g hg g2 hg2
  have n2 := Store.ne_new hg2
  refine weak_here [(1, .ptr g 0), (2, .ptr g2 0)] (by simp only [vP.down, vS.down, vE.down, Nat.reduceEqDiff, Nat.reduceAdd, Nat.reduceSub, Nat.reduceMul, Nat.reduceLeDiff, Nat.reduceLT, Int.reduceToNat, reduceIte, reduceCtorEq, Int.reduceEq, Int.reduceLT, Int.reduceLE, ↓avp_condG, ↓tf_arrow, ↓ft_arrow, wP.down]) fun S hS => ?_
  have f1 : S.f g = some (.box [.t (sl s.Held), .t (sl s.One), .t (sl s.Two), .t (sl s.Kept)] false) := by rw [hS]; exact (Store.set_other _ _ n2.symm).trans (Store.set_same _ _ _)
  have f2 : S.f g2 = some (.box [.t .nilS, .t .nilS, .t .nilS, .t .nilS] false) := by rw [hS]; exact Store.set_same _ _ _
  have q0 : s.Held.length ≤ 1000000 := by omega
  have q1 : s.One.length ≤ 1000000 := by omega
  have q2 : s.Two.length ≤ 1000000 := by omega
  have q3 : s.Kept.length ≤ 1000000 := by omega
  simp only [vP.down, vS.down, vE.down, Nat.reduceEqDiff, Nat.reduceAdd, Nat.reduceSub, Nat.reduceMul, Nat.reduceLeDiff, Nat.reduceLT, Int.reduceToNat, reduceIte, reduceCtorEq, Int.reduceEq, Int.reduceLT, Int.reduceLE, ↓avp_condG, ↓tf_arrow, ↓ft_arrow, f1, f2, q0, q1, q2, q3, k_space_Keep_space_copied.down, A_space_copied, p_space_copied, r_space_copied]
  simp only [vP.down, vS.down, vE.down, Nat.reduceEqDiff, Nat.reduceAdd, Nat.reduceSub, Nat.reduceMul, Nat.reduceLeDiff, Nat.reduceLT, Int.reduceToNat, reduceIte, reduceCtorEq, Int.reduceEq, Int.reduceLT, Int.reduceLE, ↓avp_condG, ↓tf_arrow, ↓ft_arrow, vT.down, Store.set_same, keepM]
noncomputable def c_space_Keep : Con := fnCon A_space_Keep p_space_Keep r_space_Keep
theorem ok_space_Keep : COk Try.prog 14 c_space_Keep := fn_ok sys_space_Keep mixed Try.func14 (by kernel_rfl) geq_space_Keep Try.ntmps14 (by rw [Try.results14]) fun x hx => ⟨Nat.le_of_ble_eq_true rfl, body_space_Keep x hx⟩
def G_ref8_Keep : GCode := .seq (.region [⟨(some 1), none, .box 26 (.tmp 0)⟩, ⟨(some 2), none, .alloc 26⟩]) (.seq (.seq .weak (.region [⟨(some 3), none, .fieldAddr 26 (.tmp 1) 0⟩, ⟨(some 4), none, .load 23 (.tmp 3)⟩, ⟨(some 5), none, .fieldAddr 26 (.tmp 1) 1⟩, ⟨(some 6), none, .load 23 (.tmp 5)⟩, ⟨(some 7), none, .fieldAddr 26 (.tmp 1) 2⟩, ⟨(some 8), none, .load 23 (.tmp 7)⟩, ⟨(some 9), none, .fieldAddr 26 (.tmp 1) 0⟩, ⟨(some 10), none, .load 23 (.tmp 9)⟩, ⟨(some 11), none, .build 26 #[(0, .tmp 4), (1, .tmp 6), (2, .tmp 8), (3, .tmp 10)]⟩, ⟨none, none, .store 26 (.tmp 2) (.tmp 11)⟩])) (.ret))
noncomputable def l_ref8_Keep : List (Nat × Con) := []
noncomputable abbrev K_ref8_Keep : Ctx := ctx (cl l_ref8_Keep)
theorem geq_ref8_Keep : gof K_ref8_Keep Try.f24 = some G_ref8_Keep.strip := by kernel_rfl
theorem sys_ref8_Keep : Go.Eng.Sys Try.prog K_ref8_Keep := sys_of' (l := []) trivial
theorem hm_ref8_Keep : ConMono K_ref8_Keep := conMono_of sys_ref8_Keep.con
def A_ref8_Keep := Arms.cons (argA TSpace) Arms.nil
def p_ref8_Keep (x : TSpace × Unit) : Prop := lenS x.1
def r_ref8_Keep (x : TSpace × Unit) : AV := .agg ((spC (keepM x.1)).map .t)
set_option maxHeartbeats 4000000 in
theorem body_ref8_Keep (x : TSpace × Unit) (hp : p_ref8_Keep x) : avp K_ref8_Keep G_ref8_Keep (Ret K_ref8_Keep [.cell 2 26] fun v s' => Frz s' v (r_ref8_Keep x)) (entry (A_ref8_Keep.enc x) .empty) := by
  obtain ⟨s, ⟨⟩⟩ := x
  obtain ⟨l1, l2, l3, l4⟩ : lenS s := hp
  change avp _ _ (Ret _ _ fun v s' => Frz s' v (.agg ((spC (keepM s)).map .t))) (entry [.agg ((spC s).map .t)] .empty)
  unfold G_ref8_Keep spC
  simp only [vP.down, vS.down, vE.down, Nat.reduceEqDiff, Nat.reduceAdd, Nat.reduceSub, Nat.reduceMul, Nat.reduceLeDiff, Nat.reduceLT, Int.reduceToNat, reduceIte, reduceCtorEq, Int.reduceEq, Int.reduceLT, Int.reduceLE, ↓avp_condG, ↓tf_arrow, ↓ft_arrow]
  intro g hg g2 hg2
  have n2 := Store.ne_new hg2
  refine weak_here [(1, .ptr g 0), (2, .ptr g2 0)] (by simp only [vP.down, vS.down, vE.down, Nat.reduceEqDiff, Nat.reduceAdd, Nat.reduceSub, Nat.reduceMul, Nat.reduceLeDiff, Nat.reduceLT, Int.reduceToNat, reduceIte, reduceCtorEq, Int.reduceEq, Int.reduceLT, Int.reduceLE, ↓avp_condG, ↓tf_arrow, ↓ft_arrow, wP.down]) fun S hS => ?_
  have f1 : S.f g = some (.box [.t (sl s.Held), .t (sl s.One), .t (sl s.Two), .t (sl s.Kept)] false) := by rw [hS]; exact (Store.set_other _ _ n2.symm).trans (Store.set_same _ _ _)
  have f2 : S.f g2 = some (.box [.t .nilS, .t .nilS, .t .nilS, .t .nilS] false) := by rw [hS]; exact Store.set_same _ _ _
  have q0 : s.Held.length ≤ 1000000 := by omega
  have q1 : s.One.length ≤ 1000000 := by omega
  have q2 : s.Two.length ≤ 1000000 := by omega
  have q3 : s.Kept.length ≤ 1000000 := by omega
  simp only [vP.down, vS.down, vE.down, Nat.reduceEqDiff, Nat.reduceAdd, Nat.reduceSub, Nat.reduceMul, Nat.reduceLeDiff, Nat.reduceLT, Int.reduceToNat, reduceIte, reduceCtorEq, Int.reduceEq, Int.reduceLT, Int.reduceLE, ↓avp_condG, ↓tf_arrow, ↓ft_arrow, f1, f2, q0, q1, q2, q3]
  simp only [vP.down, vS.down, vE.down, Nat.reduceEqDiff, Nat.reduceAdd, Nat.reduceSub, Nat.reduceMul, Nat.reduceLeDiff, Nat.reduceLT, Int.reduceToNat, reduceIte, reduceCtorEq, Int.reduceEq, Int.reduceLT, Int.reduceLE, ↓avp_condG, ↓tf_arrow, ↓ft_arrow, vT.down, Store.set_same, keepM]
noncomputable def c_ref8_Keep : Con := fnCon A_ref8_Keep p_ref8_Keep r_ref8_Keep
theorem ok_ref8_Keep : COk Try.prog 24 c_ref8_Keep := fn_ok sys_ref8_Keep mixed Try.func24 (by kernel_rfl) geq_ref8_Keep Try.ntmps24 (by rw [Try.results24]) fun x hx => ⟨Nat.le_of_ble_eq_true rfl, body_ref8_Keep x hx⟩
def G_space_Fold : GCode := .seq (.region [⟨(some 1), none, .box 26 (.tmp 0)⟩, ⟨(some 2), none, .alloc 26⟩]) (.seq (.seq .weak (.region [⟨(some 3), none, .fieldAddr 26 (.tmp 1) 0⟩, ⟨(some 4), none, .load 23 (.tmp 3)⟩, ⟨(some 5), none, .fieldAddr 26 (.tmp 1) 3⟩, ⟨(some 6), none, .load 23 (.tmp 5)⟩, ⟨(some 7), none, .call ⟨.value (.func 34), #[.tmp 4, .tmp 6], #[23, 23]⟩⟩, ⟨(some 8), none, .fieldAddr 26 (.tmp 1) 1⟩, ⟨(some 9), none, .load 23 (.tmp 8)⟩, ⟨(some 10), none, .fieldAddr 26 (.tmp 1) 3⟩, ⟨(some 11), none, .load 23 (.tmp 10)⟩, ⟨(some 12), none, .call ⟨.value (.func 35), #[.tmp 9, .tmp 11], #[23, 23]⟩⟩, ⟨(some 13), none, .fieldAddr 26 (.tmp 1) 2⟩, ⟨(some 14), none, .load 23 (.tmp 13)⟩, ⟨(some 15), none, .fieldAddr 26 (.tmp 1) 3⟩, ⟨(some 16), none, .load 23 (.tmp 15)⟩, ⟨(some 17), none, .call ⟨.value (.func 35), #[.tmp 14, .tmp 16], #[23, 23]⟩⟩, ⟨(some 18), none, .build 26 #[(0, .tmp 7), (1, .tmp 12), (2, .tmp 17)]⟩, ⟨none, none, .store 26 (.tmp 2) (.tmp 18)⟩])) (.ret))
noncomputable def l_space_Fold : List (Nat × Con) := [(34, c_span_Add), (35, c_span_Less)]
noncomputable abbrev K_space_Fold : Ctx := ctx (cl l_space_Fold)
theorem geq_space_Fold : gof K_space_Fold Try.f15 = some G_space_Fold.strip := by kernel_rfl
theorem sys_space_Fold : Go.Eng.Sys Try.prog K_space_Fold := sys_of' ⟨ok_span_Add, ok_span_Less, trivial⟩
theorem hm_space_Fold : ConMono K_space_Fold := conMono_of sys_space_Fold.con
noncomputable def k_space_Fold_span_Add := PLift.up (call_fn (C := K_space_Fold) (f := 34) (A := A_span_Add) (p := p_span_Add) (r := r_span_Add) rfl)
noncomputable def k_space_Fold_span_Less := PLift.up (call_fn (C := K_space_Fold) (f := 35) (A := A_span_Less) (p := p_span_Less) (r := r_span_Less) rfl)
def A_space_Fold := Arms.cons (argA TSpace) Arms.nil
def p_space_Fold (x : TSpace × Unit) : Prop := lenS x.1
def r_space_Fold (x : TSpace × Unit) : AV := .agg ((spC (foldM x.1)).map .t)
set_option maxHeartbeats 4000000 in
theorem body_space_Fold (x : TSpace × Unit) (hp : p_space_Fold x) : avp K_space_Fold G_space_Fold (Ret K_space_Fold [.cell 2 26] fun v s' => Frz s' v (r_space_Fold x)) (entry (A_space_Fold.enc x) .empty) := by
  obtain ⟨s, ⟨⟩⟩ := x
  obtain ⟨l1, l2, l3, l4⟩ : lenS s := hp
  change avp _ _ (Ret _ _ fun v s' => Frz s' v (.agg ((spC (foldM s)).map .t))) (entry [.agg ((spC s).map .t)] .empty)
  unfold G_space_Fold spC
  simp only [vP.down, vS.down, vE.down, Nat.reduceEqDiff, Nat.reduceAdd, Nat.reduceSub, Nat.reduceMul, Nat.reduceLeDiff, Nat.reduceLT, Int.reduceToNat, reduceIte, reduceCtorEq, Int.reduceEq, Int.reduceLT, Int.reduceLE, ↓avp_condG, ↓tf_arrow, ↓ft_arrow]
  intro g hg g2 hg2
  have n2 := Store.ne_new hg2
  refine weak_here [(1, .ptr g 0), (2, .ptr g2 0)] (by simp only [vP.down, vS.down, vE.down, Nat.reduceEqDiff, Nat.reduceAdd, Nat.reduceSub, Nat.reduceMul, Nat.reduceLeDiff, Nat.reduceLT, Int.reduceToNat, reduceIte, reduceCtorEq, Int.reduceEq, Int.reduceLT, Int.reduceLE, ↓avp_condG, ↓tf_arrow, ↓ft_arrow, wP.down]) fun S hS => ?_
  have f1 : S.f g = some (.box [.t (sl s.Held), .t (sl s.One), .t (sl s.Two), .t (sl s.Kept)] false) := by rw [hS]; exact (Store.set_other _ _ n2.symm).trans (Store.set_same _ _ _)
  have f2 : S.f g2 = some (.box [.t .nilS, .t .nilS, .t .nilS, .t .nilS] false) := by rw [hS]; exact Store.set_same _ _ _
  have q0 : s.Held.length + s.Kept.length ≤ 1099511627 := by omega
  have q1 : s.One.length + s.Kept.length ≤ 1099511627 := by omega
  have q2 : s.Two.length + s.Kept.length ≤ 1099511627 := by omega
  simp only [vP.down, vS.down, vE.down, Nat.reduceEqDiff, Nat.reduceAdd, Nat.reduceSub, Nat.reduceMul, Nat.reduceLeDiff, Nat.reduceLT, Int.reduceToNat, reduceIte, reduceCtorEq, Int.reduceEq, Int.reduceLT, Int.reduceLE, ↓avp_condG, ↓tf_arrow, ↓ft_arrow, f1, f2, q0, q1, q2, k_space_Fold_span_Add.down, A_span_Add, p_span_Add, r_span_Add, k_space_Fold_span_Less.down, A_span_Less, p_span_Less, r_span_Less]
  simp only [vP.down, vS.down, vE.down, Nat.reduceEqDiff, Nat.reduceAdd, Nat.reduceSub, Nat.reduceMul, Nat.reduceLeDiff, Nat.reduceLT, Int.reduceToNat, reduceIte, reduceCtorEq, Int.reduceEq, Int.reduceLT, Int.reduceLE, ↓avp_condG, ↓tf_arrow, ↓ft_arrow, vT.down, Store.set_same, foldM]
noncomputable def c_space_Fold : Con := fnCon A_space_Fold p_space_Fold r_space_Fold
theorem ok_space_Fold : COk Try.prog 15 c_space_Fold := fn_ok sys_space_Fold mixed Try.func15 (by kernel_rfl) geq_space_Fold Try.ntmps15 (by rw [Try.results15]) fun x hx => ⟨Nat.le_of_ble_eq_true rfl, body_space_Fold x hx⟩
def G_ref8_Fold : GCode := .seq (.region [⟨(some 1), none, .box 26 (.tmp 0)⟩, ⟨(some 2), none, .alloc 26⟩]) (.seq (.seq .weak (.region [⟨(some 3), none, .fieldAddr 26 (.tmp 1) 0⟩, ⟨(some 4), none, .load 23 (.tmp 3)⟩, ⟨(some 5), none, .fieldAddr 26 (.tmp 1) 3⟩, ⟨(some 6), none, .load 23 (.tmp 5)⟩, ⟨(some 7), none, .call ⟨.value (.func 30), #[.tmp 4, .tmp 6], #[23, 23]⟩⟩, ⟨(some 8), none, .fieldAddr 26 (.tmp 1) 1⟩, ⟨(some 9), none, .load 23 (.tmp 8)⟩, ⟨(some 10), none, .fieldAddr 26 (.tmp 1) 3⟩, ⟨(some 11), none, .load 23 (.tmp 10)⟩, ⟨(some 12), none, .call ⟨.value (.func 31), #[.tmp 9, .tmp 11], #[23, 23]⟩⟩, ⟨(some 13), none, .fieldAddr 26 (.tmp 1) 2⟩, ⟨(some 14), none, .load 23 (.tmp 13)⟩, ⟨(some 15), none, .fieldAddr 26 (.tmp 1) 3⟩, ⟨(some 16), none, .load 23 (.tmp 15)⟩, ⟨(some 17), none, .call ⟨.value (.func 31), #[.tmp 14, .tmp 16], #[23, 23]⟩⟩, ⟨(some 18), none, .build 26 #[(0, .tmp 7), (1, .tmp 12), (2, .tmp 17)]⟩, ⟨none, none, .store 26 (.tmp 2) (.tmp 18)⟩])) (.ret))
noncomputable def l_ref8_Fold : List (Nat × Con) := [(30, c_ref8_Add), (31, c_ref8_Less)]
noncomputable abbrev K_ref8_Fold : Ctx := ctx (cl l_ref8_Fold)
theorem geq_ref8_Fold : gof K_ref8_Fold Try.f25 = some G_ref8_Fold.strip := by kernel_rfl
theorem sys_ref8_Fold : Go.Eng.Sys Try.prog K_ref8_Fold := sys_of' ⟨ok_ref8_Add, ok_ref8_Less, trivial⟩
theorem hm_ref8_Fold : ConMono K_ref8_Fold := conMono_of sys_ref8_Fold.con
noncomputable def k_ref8_Fold_ref8_Add := PLift.up (call_fn (C := K_ref8_Fold) (f := 30) (A := A_ref8_Add) (p := p_ref8_Add) (r := r_ref8_Add) rfl)
noncomputable def k_ref8_Fold_ref8_Less := PLift.up (call_fn (C := K_ref8_Fold) (f := 31) (A := A_ref8_Less) (p := p_ref8_Less) (r := r_ref8_Less) rfl)
def A_ref8_Fold := Arms.cons (argA TSpace) Arms.nil
def p_ref8_Fold (x : TSpace × Unit) : Prop := lenS x.1
def r_ref8_Fold (x : TSpace × Unit) : AV := .agg ((spC (foldM x.1)).map .t)
set_option maxHeartbeats 4000000 in
theorem body_ref8_Fold (x : TSpace × Unit) (hp : p_ref8_Fold x) : avp K_ref8_Fold G_ref8_Fold (Ret K_ref8_Fold [.cell 2 26] fun v s' => Frz s' v (r_ref8_Fold x)) (entry (A_ref8_Fold.enc x) .empty) := by
  obtain ⟨s, ⟨⟩⟩ := x
  obtain ⟨l1, l2, l3, l4⟩ : lenS s := hp
  change avp _ _ (Ret _ _ fun v s' => Frz s' v (.agg ((spC (foldM s)).map .t))) (entry [.agg ((spC s).map .t)] .empty)
  unfold G_ref8_Fold spC
  simp only [vP.down, vS.down, vE.down, Nat.reduceEqDiff, Nat.reduceAdd, Nat.reduceSub, Nat.reduceMul, Nat.reduceLeDiff, Nat.reduceLT, Int.reduceToNat, reduceIte, reduceCtorEq, Int.reduceEq, Int.reduceLT, Int.reduceLE, ↓avp_condG, ↓tf_arrow, ↓ft_arrow]
  intro g hg g2 hg2
  have n2 := Store.ne_new hg2
  refine weak_here [(1, .ptr g 0), (2, .ptr g2 0)] (by simp only [vP.down, vS.down, vE.down, Nat.reduceEqDiff, Nat.reduceAdd, Nat.reduceSub, Nat.reduceMul, Nat.reduceLeDiff, Nat.reduceLT, Int.reduceToNat, reduceIte, reduceCtorEq, Int.reduceEq, Int.reduceLT, Int.reduceLE, ↓avp_condG, ↓tf_arrow, ↓ft_arrow, wP.down]) fun S hS => ?_
  have f1 : S.f g = some (.box [.t (sl s.Held), .t (sl s.One), .t (sl s.Two), .t (sl s.Kept)] false) := by rw [hS]; exact (Store.set_other _ _ n2.symm).trans (Store.set_same _ _ _)
  have f2 : S.f g2 = some (.box [.t .nilS, .t .nilS, .t .nilS, .t .nilS] false) := by rw [hS]; exact Store.set_same _ _ _
  have q0 : s.Held.length + s.Kept.length ≤ 1099511627 := by omega
  have q1 : s.One.length + s.Kept.length ≤ 1099511627 := by omega
  have q2 : s.Two.length + s.Kept.length ≤ 1099511627 := by omega
  simp only [vP.down, vS.down, vE.down, Nat.reduceEqDiff, Nat.reduceAdd, Nat.reduceSub, Nat.reduceMul, Nat.reduceLeDiff, Nat.reduceLT, Int.reduceToNat, reduceIte, reduceCtorEq, Int.reduceEq, Int.reduceLT, Int.reduceLE, ↓avp_condG, ↓tf_arrow, ↓ft_arrow, f1, f2, q0, q1, q2, k_ref8_Fold_ref8_Add.down, A_ref8_Add, p_ref8_Add, r_ref8_Add, k_ref8_Fold_ref8_Less.down, A_ref8_Less, p_ref8_Less, r_ref8_Less]
  simp only [vP.down, vS.down, vE.down, Nat.reduceEqDiff, Nat.reduceAdd, Nat.reduceSub, Nat.reduceMul, Nat.reduceLeDiff, Nat.reduceLT, Int.reduceToNat, reduceIte, reduceCtorEq, Int.reduceEq, Int.reduceLT, Int.reduceLE, ↓avp_condG, ↓tf_arrow, ↓ft_arrow, vT.down, Store.set_same, foldM]
noncomputable def c_ref8_Fold : Con := fnCon A_ref8_Fold p_ref8_Fold r_ref8_Fold
theorem ok_ref8_Fold : COk Try.prog 25 c_ref8_Fold := fn_ok sys_ref8_Fold mixed Try.func25 (by kernel_rfl) geq_ref8_Fold Try.ntmps25 (by rw [Try.results25]) fun x hx => ⟨Nat.le_of_ble_eq_true rfl, body_ref8_Fold x hx⟩
def G_space_Turn : GCode := .seq (.region [⟨(some 2), none, .box 26 (.tmp 0)⟩, ⟨(some 4), none, .alloc 26⟩]) (.seq (.seq .weak (.region [⟨(some 6), none, .fieldAddr 26 (.tmp 2) 0⟩, ⟨(some 7), none, .load 23 (.tmp 6)⟩, ⟨(some 8), none, .move (.tmp 1)⟩, ⟨(some 9), none, .call ⟨.value (.func 35), #[.tmp 7, .tmp 8], #[23, 23]⟩⟩, ⟨(some 5), none, .assign (.tmp 9)⟩])) (.seq (.region [⟨(some 10), none, .move (.tmp 1)⟩, ⟨(some 11), none, .call ⟨.value (.func 33), #[.tmp 10], #[23]⟩⟩, ⟨(some 12), none, .move (.tmp 5)⟩, ⟨(some 13), none, .fieldAddr 26 (.tmp 2) 1⟩, ⟨(some 14), none, .load 23 (.tmp 13)⟩, ⟨(some 15), none, .move (.tmp 1)⟩, ⟨(some 16), none, .call ⟨.value (.func 35), #[.tmp 14, .tmp 15], #[23, 23]⟩⟩, ⟨(some 17), none, .move (.tmp 5)⟩, ⟨(some 18), none, .call ⟨.value (.func 35), #[.tmp 16, .tmp 17], #[23, 23]⟩⟩, ⟨(some 19), none, .fieldAddr 26 (.tmp 2) 3⟩, ⟨(some 20), none, .load 23 (.tmp 19)⟩, ⟨(some 21), none, .call ⟨.value (.func 33), #[.tmp 20], #[23]⟩⟩, ⟨(some 22), none, .build 26 #[(0, .tmp 11), (1, .tmp 12), (2, .tmp 18), (3, .tmp 21)]⟩, ⟨none, none, .store 26 (.tmp 4) (.tmp 22)⟩]) (.ret)))
noncomputable def l_space_Turn : List (Nat × Con) := [(35, c_span_Less), (33, c_space_copied)]
noncomputable abbrev K_space_Turn : Ctx := ctx (cl l_space_Turn)
theorem geq_space_Turn : gof K_space_Turn Try.f22 = some G_space_Turn.strip := by kernel_rfl
theorem sys_space_Turn : Go.Eng.Sys Try.prog K_space_Turn := sys_of' ⟨ok_span_Less, ok_space_copied, trivial⟩
theorem hm_space_Turn : ConMono K_space_Turn := conMono_of sys_space_Turn.con
noncomputable def k_space_Turn_span_Less := PLift.up (call_fn (C := K_space_Turn) (f := 35) (A := A_span_Less) (p := p_span_Less) (r := r_span_Less) rfl)
noncomputable def k_space_Turn_space_copied := PLift.up (call_fn (C := K_space_Turn) (f := 33) (A := A_space_copied) (p := p_space_copied) (r := r_space_copied) rfl)
def A_space_Turn := Arms.cons (argA TSpace) (Arms.cons (argT (List TRun)) Arms.nil)
def p_space_Turn (x : TSpace × List TRun × Unit) : Prop := lenS x.1 ∧ x.2.1.length ≤ 1000
def r_space_Turn (x : TSpace × List TRun × Unit) : AV := .agg ((spC (turnM x.1 x.2.1)).map .t)
set_option maxHeartbeats 4000000 in
theorem body_space_Turn (x : TSpace × List TRun × Unit) (hp : p_space_Turn x) : avp K_space_Turn G_space_Turn (Ret K_space_Turn [.cell 4 26] fun v s' => Frz s' v (r_space_Turn x)) (entry (A_space_Turn.enc x) .empty) := by
  obtain ⟨s, h, ⟨⟩⟩ := x
  obtain ⟨⟨l1, l2, l3, l4⟩, lh⟩ : lenS s ∧ h.length ≤ 1000 := hp
  change avp _ _ (Ret _ _ fun v s' => Frz s' v (.agg ((spC (turnM s h)).map .t))) (entry [.agg ((spC s).map .t), .t (sl h)] .empty)
  unfold G_space_Turn spC
  simp only [vP.down, vS.down, vE.down, Nat.reduceEqDiff, Nat.reduceAdd, Nat.reduceSub, Nat.reduceMul, Nat.reduceLeDiff, Nat.reduceLT, Int.reduceToNat, reduceIte, reduceCtorEq, Int.reduceEq, Int.reduceLT, Int.reduceLE, ↓avp_condG, ↓tf_arrow, ↓ft_arrow]
  intro g hg g2 hg2
  have n2 := Store.ne_new hg2
  refine weak_here [(1, .t (sl h)), (2, .ptr g 0), (4, .ptr g2 0)] (by simp only [vP.down, vS.down, vE.down, Nat.reduceEqDiff, Nat.reduceAdd, Nat.reduceSub, Nat.reduceMul, Nat.reduceLeDiff, Nat.reduceLT, Int.reduceToNat, reduceIte, reduceCtorEq, Int.reduceEq, Int.reduceLT, Int.reduceLE, ↓avp_condG, ↓tf_arrow, ↓ft_arrow, wP.down]) fun S hS => ?_
  have f1 : S.f g = some (.box [.t (sl s.Held), .t (sl s.One), .t (sl s.Two), .t (sl s.Kept)] false) := by rw [hS]; exact (Store.set_other _ _ n2.symm).trans (Store.set_same _ _ _)
  have f2 : S.f g2 = some (.box [.t .nilS, .t .nilS, .t .nilS, .t .nilS] false) := by rw [hS]; exact Store.set_same _ _ _
  have q0 : s.Held.length + h.length ≤ 1099511627 := by omega
  have q1 : s.One.length + h.length ≤ 1099511627 := by omega
  have q2 : h.length ≤ 1000000 := by omega
  have q3 : s.Kept.length ≤ 1000000 := by omega
  have w1 := where_len .less s.Held h
  have w2 := where_len .less s.One h
  have w3 : (whereL .less s.One h).length + (whereL .less s.Held h).length ≤ 1099511627 := by omega
  simp only [vP.down, vS.down, vE.down, Nat.reduceEqDiff, Nat.reduceAdd, Nat.reduceSub, Nat.reduceMul, Nat.reduceLeDiff, Nat.reduceLT, Int.reduceToNat, reduceIte, reduceCtorEq, Int.reduceEq, Int.reduceLT, Int.reduceLE, ↓avp_condG, ↓tf_arrow, ↓ft_arrow, f1, f2, q0, q1, q2, q3, w3, k_space_Turn_space_copied.down, A_space_copied, p_space_copied, r_space_copied, k_space_Turn_span_Less.down, A_span_Less, p_span_Less, r_span_Less]
  simp only [vP.down, vS.down, vE.down, Nat.reduceEqDiff, Nat.reduceAdd, Nat.reduceSub, Nat.reduceMul, Nat.reduceLeDiff, Nat.reduceLT, Int.reduceToNat, reduceIte, reduceCtorEq, Int.reduceEq, Int.reduceLT, Int.reduceLE, ↓avp_condG, ↓tf_arrow, ↓ft_arrow, vT.down, Store.set_same, turnM]
noncomputable def c_space_Turn : Con := fnCon A_space_Turn p_space_Turn r_space_Turn
theorem ok_space_Turn : COk Try.prog 22 c_space_Turn := fn_ok sys_space_Turn mixed Try.func22 (by kernel_rfl) geq_space_Turn Try.ntmps22 (by rw [Try.results22]) fun x hx => ⟨Nat.le_of_ble_eq_true rfl, body_space_Turn x hx⟩
def G_ref8_Turn : GCode := .seq (.region [⟨(some 2), none, .box 26 (.tmp 0)⟩, ⟨(some 4), none, .alloc 26⟩]) (.seq (.seq .weak (.region [⟨(some 6), none, .fieldAddr 26 (.tmp 2) 0⟩, ⟨(some 7), none, .load 23 (.tmp 6)⟩, ⟨(some 8), none, .move (.tmp 1)⟩, ⟨(some 9), none, .call ⟨.value (.func 31), #[.tmp 7, .tmp 8], #[23, 23]⟩⟩, ⟨(some 5), none, .assign (.tmp 9)⟩])) (.seq (.region [⟨(some 10), none, .move (.tmp 1)⟩, ⟨(some 11), none, .call ⟨.value (.func 30), #[.tmp 10, .const (.slice none 0 0)], #[23, 23]⟩⟩, ⟨(some 12), none, .move (.tmp 5)⟩, ⟨(some 13), none, .fieldAddr 26 (.tmp 2) 1⟩, ⟨(some 14), none, .load 23 (.tmp 13)⟩, ⟨(some 15), none, .move (.tmp 1)⟩, ⟨(some 16), none, .call ⟨.value (.func 31), #[.tmp 14, .tmp 15], #[23, 23]⟩⟩, ⟨(some 17), none, .move (.tmp 5)⟩, ⟨(some 18), none, .call ⟨.value (.func 31), #[.tmp 16, .tmp 17], #[23, 23]⟩⟩, ⟨(some 19), none, .fieldAddr 26 (.tmp 2) 3⟩, ⟨(some 20), none, .load 23 (.tmp 19)⟩, ⟨(some 21), none, .call ⟨.value (.func 30), #[.tmp 20, .const (.slice none 0 0)], #[23, 23]⟩⟩, ⟨(some 22), none, .build 26 #[(0, .tmp 11), (1, .tmp 12), (2, .tmp 18), (3, .tmp 21)]⟩, ⟨none, none, .store 26 (.tmp 4) (.tmp 22)⟩]) (.ret)))
noncomputable def l_ref8_Turn : List (Nat × Con) := [(31, c_ref8_Less), (30, c_ref8_Add)]
noncomputable abbrev K_ref8_Turn : Ctx := ctx (cl l_ref8_Turn)
theorem geq_ref8_Turn : gof K_ref8_Turn Try.f23 = some G_ref8_Turn.strip := by kernel_rfl
theorem sys_ref8_Turn : Go.Eng.Sys Try.prog K_ref8_Turn := sys_of' ⟨ok_ref8_Less, ok_ref8_Add, trivial⟩
theorem hm_ref8_Turn : ConMono K_ref8_Turn := conMono_of sys_ref8_Turn.con
noncomputable def k_ref8_Turn_ref8_Less := PLift.up (call_fn (C := K_ref8_Turn) (f := 31) (A := A_ref8_Less) (p := p_ref8_Less) (r := r_ref8_Less) rfl)
noncomputable def k_ref8_Turn_ref8_Add := PLift.up (call_fn (C := K_ref8_Turn) (f := 30) (A := A_ref8_Add) (p := p_ref8_Add) (r := r_ref8_Add) rfl)
def A_ref8_Turn := Arms.cons (argA TSpace) (Arms.cons (argT (List TRun)) Arms.nil)
def p_ref8_Turn (x : TSpace × List TRun × Unit) : Prop := lenS x.1 ∧ x.2.1.length ≤ 1000
def r_ref8_Turn (x : TSpace × List TRun × Unit) : AV := .agg ((spC (turnR x.1 x.2.1)).map .t)
set_option maxHeartbeats 4000000 in
theorem body_ref8_Turn (x : TSpace × List TRun × Unit) (hp : p_ref8_Turn x) : avp K_ref8_Turn G_ref8_Turn (Ret K_ref8_Turn [.cell 4 26] fun v s' => Frz s' v (r_ref8_Turn x)) (entry (A_ref8_Turn.enc x) .empty) := by
  obtain ⟨s, h, ⟨⟩⟩ := x
  obtain ⟨⟨l1, l2, l3, l4⟩, lh⟩ : lenS s ∧ h.length ≤ 1000 := hp
  change avp _ _ (Ret _ _ fun v s' => Frz s' v (.agg ((spC (turnR s h)).map .t))) (entry [.agg ((spC s).map .t), .t (sl h)] .empty)
  unfold G_ref8_Turn spC
  simp only [vP.down, vS.down, vE.down, Nat.reduceEqDiff, Nat.reduceAdd, Nat.reduceSub, Nat.reduceMul, Nat.reduceLeDiff, Nat.reduceLT, Int.reduceToNat, reduceIte, reduceCtorEq, Int.reduceEq, Int.reduceLT, Int.reduceLE, ↓avp_condG, ↓tf_arrow, ↓ft_arrow]
  intro g hg g2 hg2
  have n2 := Store.ne_new hg2
  refine weak_here [(1, .t (sl h)), (2, .ptr g 0), (4, .ptr g2 0)] (by simp only [vP.down, vS.down, vE.down, Nat.reduceEqDiff, Nat.reduceAdd, Nat.reduceSub, Nat.reduceMul, Nat.reduceLeDiff, Nat.reduceLT, Int.reduceToNat, reduceIte, reduceCtorEq, Int.reduceEq, Int.reduceLT, Int.reduceLE, ↓avp_condG, ↓tf_arrow, ↓ft_arrow, wP.down]) fun S hS => ?_
  have f1 : S.f g = some (.box [.t (sl s.Held), .t (sl s.One), .t (sl s.Two), .t (sl s.Kept)] false) := by rw [hS]; exact (Store.set_other _ _ n2.symm).trans (Store.set_same _ _ _)
  have f2 : S.f g2 = some (.box [.t .nilS, .t .nilS, .t .nilS, .t .nilS] false) := by rw [hS]; exact Store.set_same _ _ _
  have q0 : s.Held.length + h.length ≤ 1099511627 := by omega
  have q1 : s.One.length + h.length ≤ 1099511627 := by omega
  have q2 : h.length ≤ 1000000 := by omega
  have q3 : s.Kept.length ≤ 1000000 := by omega
  have q4 : h.length ≤ 1099511627 := by omega
  have q5 : s.Kept.length ≤ 1099511627 := by omega
  have q6 : h.length + 0 ≤ 1099511627 := by omega
  have q7 : s.Kept.length + 0 ≤ 1099511627 := by omega
  have w1 := where_len .less s.Held h
  have w2 := where_len .less s.One h
  have w3 : (whereL .less s.One h).length + (whereL .less s.Held h).length ≤ 1099511627 := by omega
  simp only [vP.down, vS.down, vE.down, Nat.reduceEqDiff, Nat.reduceAdd, Nat.reduceSub, Nat.reduceMul, Nat.reduceLeDiff, Nat.reduceLT, Int.reduceToNat, reduceIte, reduceCtorEq, Int.reduceEq, Int.reduceLT, Int.reduceLE, ↓avp_condG, ↓tf_arrow, ↓ft_arrow, f1, f2, q0, q1, q2, q3, q4, q5, q6, q7, w3, k_ref8_Turn_ref8_Add.down, A_ref8_Add, p_ref8_Add, r_ref8_Add, k_ref8_Turn_ref8_Less.down, A_ref8_Less, p_ref8_Less, r_ref8_Less]
  simp only [vP.down, vS.down, vE.down, Nat.reduceEqDiff, Nat.reduceAdd, Nat.reduceSub, Nat.reduceMul, Nat.reduceLeDiff, Nat.reduceLT, Int.reduceToNat, reduceIte, reduceCtorEq, Int.reduceEq, Int.reduceLT, Int.reduceLE, ↓avp_condG, ↓tf_arrow, ↓ft_arrow, vT.down, Store.set_same, turnR]
noncomputable def c_ref8_Turn : Con := fnCon A_ref8_Turn p_ref8_Turn r_ref8_Turn
theorem ok_ref8_Turn : COk Try.prog 23 c_ref8_Turn := fn_ok sys_ref8_Turn mixed Try.func23 (by kernel_rfl) geq_ref8_Turn Try.ntmps23 (by rw [Try.results23]) fun x hx => ⟨Nat.le_of_ble_eq_true rfl, body_ref8_Turn x hx⟩
end Go.Proofs.Ytgdaibdfjhchbaa

