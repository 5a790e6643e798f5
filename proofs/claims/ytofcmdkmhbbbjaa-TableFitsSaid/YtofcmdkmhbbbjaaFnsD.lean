/-
  Bits of bytes; may, size.
-/
import Derived.Test.YtofcmdkmhbbbjaaFnsC
set_option linter.unusedSimpArgs false
set_option linter.unusedVariables false
open Nat renaming reduceEqDiff → qA, reduceAdd → qB, reduceSub → qC, reduceMul → qD, reduceLeDiff → qE, reduceLT → qF
open Int renaming reduceToNat → qG, reduceEq → qH, reduceLT → qI, reduceLE → qJ
namespace Go.Proofs.Ytofcmdkmhbbbjaa
open Go Go.Eng
set_option maxRecDepth 100000
def bt (x : UInt8) (k : Nat) : Bool := x.toNat.testBit k
def orb (x : UInt8) (k : Nat) : UInt8 := UInt8.ofNat (x.toNat ||| 2 ^ k)
theorem orb_nat : ∀ n : Nat, n < 256 → ∀ k : Nat, k < 8 → IntKind.u8.wrap ((BitVec.ofInt IntKind.u8.bits (n : Int) ||| BitVec.ofInt IntKind.u8.bits (IntKind.u8.wrap (1 * 2 ^ min k IntKind.u8.bits))).toNat : Int) = (((UInt8.ofNat (n ||| 2 ^ k)).toNat : Nat) : Int) := by decide +kernel
theorem orb_eq (x : UInt8) {k : Nat} (h : k < 8) : IntKind.u8.wrap ((BitVec.ofInt IntKind.u8.bits (x.toNat : Int) ||| BitVec.ofInt IntKind.u8.bits (IntKind.u8.wrap (1 * 2 ^ min k IntKind.u8.bits))).toNat : Int) = ((orb x k).toNat : Int) := orb_nat x.toNat x.toNat_lt k h
theorem bt_orb {x : UInt8} {k m : Nat} (hk : k < 8) : bt (orb x k) m = (bt x m || decide (m = k)) := by
  unfold bt orb
  have h1 := x.toNat_lt
  have h2 : x.toNat ||| 2 ^ k < 2 ^ 8 := Nat.or_lt_two_pow (by omega) (Nat.pow_lt_pow_right (by omega) hk)
  rw [UInt8.toNat_ofNat', Nat.mod_eq_of_lt h2, Nat.testBit_or, Nat.testBit_two_pow]
  congr 1
  exact decide_eq_decide.2 ⟨fun h => h.symm, fun h => h.symm⟩
theorem bt_ext {x y : UInt8} (h : ∀ k, k < 8 → bt x k = bt y k) : x = y := by
  apply UInt8.toNat_inj.1
  apply Nat.eq_of_testBit_eq
  intro k
  by_cases hk : k < 8
  · exact h k hk
  · rw [Nat.testBit_lt_two_pow, Nat.testBit_lt_two_pow]
    · exact Nat.lt_of_lt_of_le y.toNat_lt (Nat.pow_le_pow_right (n := 2) (i := 8) (by omega) (by omega))
    · exact Nat.lt_of_lt_of_le x.toNat_lt (Nat.pow_le_pow_right (n := 2) (i := 8) (by omega) (by omega))
def mapS (f : Nat → Bool) (B : List Byt) : Nat → List Byt
  | 0 => B
  | i + 1 => if f i = true then (mapS f B i).set (i / 8) ⟨orb ((mapS f B i).getD (i / 8) default).v (i % 8)⟩ else mapS f B i
theorem mapS_len {f : Nat → Bool} {B : List Byt} : ∀ i, (mapS f B i).length = B.length
  | 0 => rfl
  | i + 1 => by
    unfold mapS
    split
    · rw [List.length_set, mapS_len]
    · exact mapS_len i
def dataOk (n : Int) : Bool := decide (40 ≤ n) && decide (n ≤ 240)
theorem dataOk_iff {n : Int} : dataOk n = true ↔ 40 ≤ n ∧ n ≤ 240 := by simp [dataOk]
theorem tdiv_nat (a : Nat) : (a : Int).tdiv 8 = ((a / 8 : Nat) : Int) := by
  rw [Int.tdiv_eq_ediv_of_nonneg (by omega)]; exact (Int.natCast_ediv a 8).symm
theorem tmod_nat (a : Nat) : (a : Int).tmod 8 = ((a % 8 : Nat) : Int) := by
  rw [Int.tmod_eq_emod_of_nonneg (by omega)]; exact (Int.natCast_emod a 8).symm
def G_smap_may : GCode := .seq (.region [⟨(some 2), none, .assign (.const (.bool false))⟩]) (.seq (.region [⟨(some 3), none, .move (.tmp 0)⟩, ⟨(some 4), none, .binOp .geq 3 (.tmp 3) (.const (.int .i64 40)) 3⟩, ⟨(some 5), none, .move (.tmp 4)⟩, ⟨(some 6), (some (5, true)), .move (.tmp 0)⟩, ⟨(some 7), (some (5, true)), .binOp .leq 3 (.tmp 6) (.const (.int .i64 240)) 3⟩, ⟨(some 8), none, .pick (.tmp 5) (.tmp 7) (.const (.bool false))⟩, ⟨(some 2), none, .assign (.tmp 8)⟩]) (.ret))
noncomputable def l_smap_may : List (Nat × Con) := []
noncomputable abbrev K_smap_may : Ctx := ctx (cl l_smap_may)
theorem geq_smap_may : gof K_smap_may Try.f69 = some G_smap_may.strip := by kernel_rfl
theorem sys_smap_may : Go.Eng.Sys Try.prog K_smap_may := sys_of' (l := []) trivial
def A_smap_may := Arms.cons (argT Int) Arms.nil
def p_smap_may (_ : Int × Unit) : Prop := True
def r_smap_may (x : Int × Unit) : AV := .t (.bool (dataOk x.1))
theorem body_smap_may (x : Int × Unit) (hp : p_smap_may x) : avp K_smap_may G_smap_may (Ret K_smap_may [.tmp 2] fun v _ => v = r_smap_may x) (entry (A_smap_may.enc x) .empty) := by
  obtain ⟨n, ⟨⟩⟩ := x
  change avp _ _ (Ret _ _ fun v _ => v = .t (.bool (dataOk n))) (entry [.t (.int .i64 n)] .empty)
  unfold G_smap_may dataOk
  by_cases c1 : 40 ≤ n
  · simp only [vP.down, vS.down, vE.down, qA, qB, qC, qD, qE, qF, qG, reduceIte, reduceCtorEq, qH, qI, qJ, ↓avp_condG, ↓tf_arrow, ↓ft_arrow, c1, ge_iff_le, pick_of, pick_ot]
    simp only [vP.down, vS.down, vE.down, qA, qB, qC, qD, qE, qF, qG, reduceIte, reduceCtorEq, qH, qI, qJ, ↓avp_condG, ↓tf_arrow, ↓ft_arrow, vT.down]
  · simp only [vP.down, vS.down, vE.down, qA, qB, qC, qD, qE, qF, qG, reduceIte, reduceCtorEq, qH, qI, qJ, ↓avp_condG, ↓tf_arrow, ↓ft_arrow, c1, ge_iff_le, pick_of, pick_ot]
    simp only [vP.down, vS.down, vE.down, qA, qB, qC, qD, qE, qF, qG, reduceIte, reduceCtorEq, qH, qI, qJ, ↓avp_condG, ↓tf_arrow, ↓ft_arrow, vT.down]
noncomputable def c_smap_may : Con := fnScal A_smap_may p_smap_may r_smap_may
theorem ok_smap_may : COk Try.prog 69 c_smap_may := fn_sok sys_smap_may mixed Try.func69 (by kernel_rfl) geq_smap_may Try.ntmps69 (by rw [Try.results69]) (fun x => by unfold r_smap_may; simp [AV.scal]) fun x hx => ⟨Nat.le_of_ble_eq_true rfl, body_smap_may x hx⟩
def G_smap_size : GCode := .seq (.region [⟨(some 2), none, .assign (.const (.int .i64 0))⟩]) (.seq (.region [⟨(some 3), none, .move (.tmp 0)⟩, ⟨(some 4), none, .binOp .add 3 (.tmp 3) (.const (.int .i64 8)) 3⟩, ⟨(some 5), none, .binOp .sub 3 (.tmp 4) (.const (.int .i64 1)) 3⟩, ⟨(some 6), none, .binOp .quo 3 (.tmp 5) (.const (.int .i64 8)) 3⟩, ⟨(some 2), none, .assign (.tmp 6)⟩]) (.ret))
noncomputable def l_smap_size : List (Nat × Con) := []
noncomputable abbrev K_smap_size : Ctx := ctx (cl l_smap_size)
theorem geq_smap_size : gof K_smap_size Try.f72 = some G_smap_size.strip := by kernel_rfl
theorem sys_smap_size : Go.Eng.Sys Try.prog K_smap_size := sys_of' (l := []) trivial
def A_smap_size := Arms.cons (argT Int) Arms.nil
def p_smap_size (x : Int × Unit) : Prop := dataOk x.1 = true
def r_smap_size (x : Int × Unit) : AV := .t (.int .i64 (((x.1.toNat + 7) / 8 : Nat) : Int))
theorem body_smap_size (x : Int × Unit) (hp : p_smap_size x) : avp K_smap_size G_smap_size (Ret K_smap_size [.tmp 2] fun v _ => v = r_smap_size x) (entry (A_smap_size.enc x) .empty) := by
  obtain ⟨n, ⟨⟩⟩ := x
  obtain ⟨h1, h2⟩ := dataOk_iff.1 hp
  obtain ⟨n, rfl⟩ : ∃ k : Nat, n = k := ⟨n.toNat, by omega⟩
  change avp _ _ (Ret _ _ fun v _ => v = .t (.int .i64 (((n + 7) / 8 : Nat) : Int))) (entry [.t (.int .i64 (n : Int))] .empty)
  unfold G_smap_size
  have w1 : IntKind.i64.wrap ((n : Int) + 8) = (n : Int) + 8 := IntWalk.i64_in _ (by omega)
  have w2 : IntKind.i64.wrap ((n : Int) + 8 - 1) = ((n + 7 : Nat) : Int) := by rw [IntWalk.i64_in _ (by omega)]; omega
  have w3 := tdiv_nat (n + 7)
  have w4 : IntKind.i64.wrap (((n + 7) / 8 : Nat) : Int) = (((n + 7) / 8 : Nat) : Int) := IntWalk.i64_in _ (by omega)
  simp only [vP.down, vS.down, vE.down, qA, qB, qC, qD, qE, qF, qG, reduceIte, reduceCtorEq, qH, qI, qJ, ↓avp_condG, ↓tf_arrow, ↓ft_arrow, w1, w2, w3, w4]
  simp only [vP.down, vS.down, vE.down, qA, qB, qC, qD, qE, qF, qG, reduceIte, reduceCtorEq, qH, qI, qJ, ↓avp_condG, ↓tf_arrow, ↓ft_arrow, vT.down]
noncomputable def c_smap_size : Con := fnScal A_smap_size p_smap_size r_smap_size
theorem ok_smap_size : COk Try.prog 72 c_smap_size := fn_sok sys_smap_size mixed Try.func72 (by kernel_rfl) geq_smap_size Try.ntmps72 (by rw [Try.results72]) (fun x => by unfold r_smap_size; simp [AV.scal]) fun x hx => ⟨Nat.le_of_ble_eq_true rfl, body_smap_size x hx⟩
/-! ### Within the data -/
def wit (n : Int) (l : List TRun) : Bool := mayR (-1) l && (decide (l.length = 0) || (decide (14 ≤ (l.getD 0 default).From) && decide ((l.getD (l.length - 1) default).To ≤ 14 + n)))
theorem wit_eq {n : Int} (hn : 0 ≤ n) {l : List TRun} (hm : mayR (-1) l = true) : wit n l = decide (whereL .less l [⟨14, 14 + n⟩] = []) := by
  obtain ⟨_, nf, _⟩ := mayR_ok (by omega) hm
  have ev : ∀ i, hasR [(⟨14, 14 + n⟩ : TRun)] i = (decide (14 ≤ i) && decide (i < 14 + n)) := fun i => by simp [hasR, inR]
  have hset : whereL .less l [⟨14, 14 + n⟩] = [] ↔ ∀ i, hasR l i = true → 14 ≤ i ∧ i < 14 + n := by
    constructor
    · intro h i hi
      have h1 : hasR (whereL .less l [⟨14, 14 + n⟩]) i = false := by rw [h]; rfl
      rw [where_has, hi, ev] at h1
      simp only [How.op, Bool.true_and, Bool.not_eq_false', Bool.and_eq_true, decide_eq_true_eq] at h1
      exact h1
    · intro h
      refine nf_ext where_nf .nil fun i => ?_
      rw [where_has, ev]
      cases hi : hasR l i with
      | false => rfl
      | true =>
        have := h i hi
        have e : (decide (14 ≤ i) && decide (i < 14 + n)) = true := by simp only [Bool.and_eq_true, decide_eq_true_eq]; exact this
        rw [e]; rfl
  rw [wit, hm, Bool.true_and, Bool.eq_iff_iff, decide_eq_true_eq, hset]
  simp only [Bool.or_eq_true, Bool.and_eq_true, decide_eq_true_eq]
  have hat : ∀ j, j < l.length → l.getD j default ∈ l := fun j hj => by
    rw [List.getD_eq_getElem?_getD, List.getElem?_eq_getElem hj]; exact List.getElem_mem _
  constructor
  · rintro (h | ⟨h1, h2⟩) i hi
    · rw [List.length_eq_zero_iff.1 h] at hi; cases hi
    · obtain ⟨r, hr, a1, a2⟩ := hasR_iff.1 hi
      obtain ⟨j, hj, rfl⟩ := List.getElem_of_mem hr
      have e0 : l.getD 0 default = l[0] := by rw [List.getD_eq_getElem?_getD, List.getElem?_eq_getElem (by omega)]; rfl
      have e1 : l.getD (l.length - 1) default = l[l.length - 1] := by rw [List.getD_eq_getElem?_getD, List.getElem?_eq_getElem (by omega)]; rfl
      rw [e0] at h1
      rw [e1] at h2
      have pw := List.pairwise_iff_getElem.1 nf.pw
      have n0 := nf.ne l[0] (List.getElem_mem _)
      have nl := nf.ne l[l.length - 1] (List.getElem_mem _)
      have l1 : 14 ≤ (l[j]).From := by
        by_cases hj0 : j = 0
        · subst hj0; exact h1
        · have := pw 0 j (by omega) hj (by omega); omega
      have l2 : (l[j]).To ≤ 14 + n := by
        by_cases hjl : j = l.length - 1
        · have : l[j] = l[l.length - 1] := by congr
          rw [this]; exact h2
        · have := pw j (l.length - 1) hj (by omega) (by omega); omega
      omega
  · intro h
    by_cases h0 : l.length = 0
    · exact .inl h0
    · right
      have m0 := hat 0 (by omega)
      have ml := hat (l.length - 1) (by omega)
      have n0 := nf.ne _ m0
      have nl := nf.ne _ ml
      have g0 := h _ (hasR_iff.2 ⟨_, m0, Int.le_refl _, n0⟩)
      have gl := h ((l.getD (l.length - 1) default).To - 1) (hasR_iff.2 ⟨_, ml, by omega, by omega⟩)
      omega
end Go.Proofs.Ytofcmdkmhbbbjaa
namespace Go.Proofs.Ytofcmdkmhbbbjaa
open Go Go.Eng
set_option maxRecDepth 100000
def okM (n : Int) (l : List TRun) : Bool := dataOk n && (mayR (-1) l && decide (whereL .less l [⟨14, 14 + n⟩] = []))
def mapL (n : Nat) (l : List TRun) : List Byt := mapS (fun i => hasR l (14 + (i : Nat))) (List.replicate ((n + 7) / 8) ⟨0⟩) n
def putM (n : Int) (l : List TRun) : List UInt8 := if okM n l = true then (mapL n.toNat l).map Byt.v else []
theorem okM_wit {n : Int} {l : List TRun} (h : dataOk n = true) : okM n l = wit n l := by
  rw [okM, h, Bool.true_and]
  cases hm : mayR (-1) l with
  | true => rw [wit_eq (by have := dataOk_iff.1 h; omega) hm, Bool.true_and]
  | false => rw [wit, hm]; rfl
theorem rep_map {N : Nat} {f : Nat → Bool} : List.replicate N [TV.int .u8 0] = (mapS f (List.replicate N ⟨0⟩) 0).map Cell.enc := by
  rw [mapS, List.map_replicate]; rfl
theorem map_put {f : Nat → Bool} {B : List Byt} {i : Nat} (h : i / 8 < B.length) : ((mapS f B i).map Cell.enc).getD (i / 8) [] = [.int .u8 (((mapS f B i).getD (i / 8) default).v.toNat : Int)] ∧
    putRow ((mapS f B i).map Cell.enc) (i / 8) 0 [.int .u8 ((orb ((mapS f B i).getD (i / 8) default).v (i % 8)).toNat : Int)] = ((mapS f B i).set (i / 8) ⟨orb ((mapS f B i).getD (i / 8) default).v (i % 8)⟩).map Cell.enc := by
  have hrg : ((mapS f B i).map Cell.enc).getD (i / 8) [] = [.int .u8 (((mapS f B i).getD (i / 8) default).v.toNat : Int)] := by
    rw [row_get (by rw [mapS_len]; exact h)]; rfl
  refine ⟨hrg, ?_⟩
  rw [List.map_set, putRow, hrg]
  rfl
def G_smap_Put : GCode := .seq (.region [⟨(some 4), none, .assign (.const (.string ⟨#[]⟩))⟩]) (.seq (.region [⟨(some 8), none, .move (.tmp 0)⟩, ⟨(some 9), none, .binOp .add 3 (.const (.int .i64 14)) (.tmp 8) 3⟩, ⟨(some 10), none, .build 69 #[(0, .const (.int .i64 14)), (1, .tmp 9)]⟩, ⟨(some 11), none, .buildSlice 52 1 #[(0, .tmp 10)]⟩, ⟨(some 5), none, .assign (.tmp 11)⟩]) (.seq (.seq (.seq .weak (.region [⟨(some 12), none, .move (.tmp 0)⟩, ⟨(some 13), none, .call ⟨.value (.func 69), #[.tmp 12], #[3]⟩⟩, ⟨(some 14), none, .unOp .not 4 (.tmp 13)⟩, ⟨(some 15), none, .move (.tmp 14)⟩, ⟨(some 16), (some (15, false)), .move (.tmp 1)⟩, ⟨(some 17), (some (15, false)), .call ⟨.value (.func 70), #[.tmp 16], #[52]⟩⟩, ⟨(some 18), (some (15, false)), .unOp .not 4 (.tmp 17)⟩, ⟨(some 19), none, .pick (.tmp 15) (.const (.bool true)) (.tmp 18)⟩, ⟨(some 20), none, .move (.tmp 19)⟩, ⟨(some 21), (some (20, false)), .move (.tmp 1)⟩, ⟨(some 22), (some (20, false)), .move (.tmp 5)⟩, ⟨(some 23), (some (20, false)), .call ⟨.value (.func 71), #[.tmp 21, .tmp 22], #[52, 52]⟩⟩, ⟨(some 24), (some (20, false)), .call ⟨.builtin .len, #[.tmp 23], #[52]⟩⟩, ⟨(some 25), (some (20, false)), .binOp .gtr 3 (.tmp 24) (.const (.int .i64 0)) 3⟩, ⟨(some 26), none, .pick (.tmp 20) (.const (.bool true)) (.tmp 25)⟩])) (.cond (.tmp 26) (.seq (.region [⟨(some 4), none, .assign (.const (.string ⟨#[]⟩))⟩]) (.ret)) (.skip))) (.seq (.region [⟨(some 27), none, .move (.tmp 0)⟩, ⟨(some 28), none, .call ⟨.value (.func 72), #[.tmp 27], #[3]⟩⟩, ⟨(some 29), none, .makeSlice 22 (.tmp 28) (.tmp 28)⟩, ⟨(some 6), none, .assign (.tmp 29)⟩]) (.seq (.seq (.region [⟨(some 30), none, .move (.tmp 0)⟩, ⟨(some 31), none, .move (.const (.int .i64 0))⟩]) (.block 0 (.loop (.seq .weak (.seq (.region [⟨(some 32), none, .binOp .lss 3 (.tmp 31) (.tmp 30) 3⟩]) (.seq (.cond (.tmp 32) (.skip) (.exit 0)) (.seq (.block 1 (.seq (.region [⟨(some 33), none, .move (.tmp 31)⟩, ⟨(some 7), none, .assign (.tmp 33)⟩]) (.seq (.region [⟨(some 34), none, .move (.tmp 1)⟩, ⟨(some 35), none, .move (.tmp 7)⟩, ⟨(some 36), none, .binOp .add 3 (.const (.int .i64 14)) (.tmp 35) 3⟩, ⟨(some 37), none, .call ⟨.value (.func 73), #[.tmp 34, .tmp 36], #[52, 3]⟩⟩]) (.cond (.tmp 37) (.region [⟨(some 38), none, .move (.tmp 6)⟩, ⟨(some 39), none, .move (.tmp 7)⟩, ⟨(some 40), none, .binOp .quo 3 (.tmp 39) (.const (.int .i64 8)) 3⟩, ⟨(some 41), none, .indexAddr 22 (.tmp 38) (.tmp 40)⟩, ⟨(some 42), none, .load 5 (.tmp 41)⟩, ⟨(some 43), none, .move (.tmp 7)⟩, ⟨(some 44), none, .binOp .rem 3 (.tmp 43) (.const (.int .i64 8)) 3⟩, ⟨(some 45), none, .binOp .shl 5 (.const (.int .u8 1)) (.tmp 44) 3⟩, ⟨(some 46), none, .binOp .or 5 (.tmp 42) (.tmp 45) 5⟩, ⟨(some 47), none, .indexAddr 22 (.tmp 38) (.tmp 40)⟩, ⟨none, none, .store 5 (.tmp 47) (.tmp 46)⟩]) (.skip))))) (.region [⟨(some 48), none, .binOp .add 3 (.tmp 31) (.const (.int .i64 1)) 3⟩, ⟨(some 31), none, .move (.tmp 48)⟩])))))))) (.seq (.region [⟨(some 49), none, .move (.tmp 6)⟩, ⟨(some 50), none, .convert 22 9 (.tmp 49)⟩, ⟨(some 4), none, .assign (.tmp 50)⟩]) (.ret))))))
noncomputable def l_smap_Put : List (Nat × Con) := [(69, c_smap_may), (70, c_span_May), (71, c_span_Less), (72, c_smap_size), (73, c_span_Has)]
noncomputable abbrev K_smap_Put : Ctx := ctx (cl l_smap_Put)
theorem geq_smap_Put : gof K_smap_Put Try.f52 = some G_smap_Put.strip := by kernel_rfl
theorem sys_smap_Put : Go.Eng.Sys Try.prog K_smap_Put := sys_of' ⟨ok_smap_may, ok_span_May, ok_span_Less, ok_smap_size, ok_span_Has, trivial⟩
theorem hm_smap_Put : ConMono K_smap_Put := conMono_of sys_smap_Put.con
noncomputable def k_smap_Put_smap_may := PLift.up (call_scal (C := K_smap_Put) (f := 69) (A := A_smap_may) (p := p_smap_may) (r := r_smap_may) rfl)
noncomputable def k_smap_Put_span_May := PLift.up (call_scal (C := K_smap_Put) (f := 70) (A := A_span_May) (p := p_span_May) (r := r_span_May) rfl)
noncomputable def k_smap_Put_span_Less := PLift.up (call_fn (C := K_smap_Put) (f := 71) (A := A_span_Less) (p := p_span_Less) (r := r_span_Less) rfl)
noncomputable def k_smap_Put_smap_size := PLift.up (call_scal (C := K_smap_Put) (f := 72) (A := A_smap_size) (p := p_smap_size) (r := r_smap_size) rfl)
noncomputable def k_smap_Put_span_Has := PLift.up (call_scal (C := K_smap_Put) (f := 73) (A := A_span_Has) (p := p_span_Has) (r := r_span_Has) rfl)
def A_smap_Put := Arms.cons (argT Int) (Arms.cons (argT (List TRun)) Arms.nil)
def p_smap_Put (x : Int × List TRun × Unit) : Prop := x.2.1.length ≤ 1000000
def r_smap_Put (x : Int × List TRun × Unit) : AV := .t (.str (putM x.1 x.2.1))
set_option maxRecDepth 100000 in
set_option maxHeartbeats 1000000 in
theorem body_smap_Put (x : Int × List TRun × Unit) (hp : p_smap_Put x) : avp K_smap_Put G_smap_Put (Ret K_smap_Put [.tmp 4] fun v _ => v = r_smap_Put x) (entry (A_smap_Put.enc x) .empty) := by
  obtain ⟨n, l, ⟨⟩⟩ := x
  change l.length ≤ 1000000 at hp
  change avp _ _ (Ret _ _ fun v _ => v = .t (.str (putM n l))) (entry [.t (.int .i64 n), .t (sl l)] .empty)
  unfold G_smap_Put
  have p1 : l.length < 4611686018427387904 := by omega
  simp only [vP.down, vS.down, vE.down, qA, qB, qC, qD, qE, qF, qG, reduceIte, reduceCtorEq, qH, qI, qJ, ↓avp_condG, ↓tf_arrow, ↓ft_arrow]
  intro g hg
  refine weak_at [(0, .t (.int .i64 n)), (1, .t (sl l)), (5, .t (sl [(⟨14, IntKind.i64.wrap (14 + n)⟩ : TRun)]))] .empty fewer_empty (by
    simp only [vP.down, vS.down, vE.down, qA, qB, qC, qD, qE, qF, qG, reduceIte, reduceCtorEq, qH, qI, qJ, ↓avp_condG, ↓tf_arrow, ↓ft_arrow, wP.down]
    exact (lv_at (α := TRun) (l := [⟨14, IntKind.i64.wrap (14 + n)⟩]) (ro := false) rfl (Store.set_same _ _ _)).w2 fun _ _ => rfl) ?_
  have p2 : l.length + 1 ≤ 1099511627 := by omega
  have p2' : l.length + [(⟨14, IntKind.i64.wrap (14 + n)⟩ : TRun)].length ≤ 1099511627 := p2
  cases hd : dataOk n with
  | false =>
    have e : putM n l = [] := by rw [putM, okM, hd]; rfl
    simp only [vP.down, vS.down, vE.down, qA, qB, qC, qD, qE, qF, qG, reduceIte, reduceCtorEq, qH, qI, qJ, ↓avp_condG, ↓tf_arrow, ↓ft_arrow, hd, p1, p2, pick_of, pick_ot, false_implies, k_smap_Put_smap_may.down, A_smap_may, p_smap_may, r_smap_may, k_smap_Put_span_May.down, A_span_May, p_span_May, r_span_May, k_smap_Put_span_Less.down, A_span_Less, p_span_Less, r_span_Less]
    simp only [vP.down, vS.down, vE.down, qA, qB, qC, qD, qE, qF, qG, reduceIte, reduceCtorEq, qH, qI, qJ, ↓avp_condG, ↓tf_arrow, ↓ft_arrow, vT.down, e]
  | true =>
  obtain ⟨d1, d2⟩ := dataOk_iff.1 hd
  have w1 : IntKind.i64.wrap (14 + n) = 14 + n := IntWalk.i64_in _ (by omega)
  cases hm : mayR (-1) l with
  | false =>
    have e : putM n l = [] := by rw [putM, okM, hd, hm]; rfl
    simp only [vP.down, vS.down, vE.down, qA, qB, qC, qD, qE, qF, qG, reduceIte, reduceCtorEq, qH, qI, qJ, ↓avp_condG, ↓tf_arrow, ↓ft_arrow, hd, hm, p1, p2, pick_of, pick_ot, false_implies, k_smap_Put_smap_may.down, A_smap_may, p_smap_may, r_smap_may, k_smap_Put_span_May.down, A_span_May, p_span_May, r_span_May, k_smap_Put_span_Less.down, A_span_Less, p_span_Less, r_span_Less]
    simp only [vP.down, vS.down, vE.down, qA, qB, qC, qD, qE, qF, qG, reduceIte, reduceCtorEq, qH, qI, qJ, ↓avp_condG, ↓tf_arrow, ↓ft_arrow, vT.down, e]
  | true =>
  rw [w1]
  obtain ⟨R, hR⟩ : ∃ R, R = whereL .less l [⟨14, 14 + n⟩] := ⟨_, rfl⟩
  by_cases c0 : 0 < R.length
  · have e : putM n l = [] := by
      have : R ≠ [] := fun h => by rw [h] at c0; simp at c0
      rw [putM, okM, hd, hm, ← hR, decide_eq_false this]; rfl
    have c0' : (0 : Int) < (R.length : Int) := by omega
    simp only [vP.down, vS.down, vE.down, qA, qB, qC, qD, qE, qF, qG, reduceIte, reduceCtorEq, qH, qI, qJ, ↓avp_condG, ↓tf_arrow, ↓ft_arrow, hd, hm, p1, p2, c0', ← hR, gt_iff_lt, pick_of, pick_ot, false_implies, k_smap_Put_smap_may.down, A_smap_may, p_smap_may, r_smap_may, k_smap_Put_span_May.down, A_span_May, p_span_May, r_span_May, k_smap_Put_span_Less.down, A_span_Less, p_span_Less, r_span_Less]
    simp only [vP.down, vS.down, vE.down, qA, qB, qC, qD, qE, qF, qG, reduceIte, reduceCtorEq, qH, qI, qJ, ↓avp_condG, ↓tf_arrow, ↓ft_arrow, vT.down, e]
  have c0' : ¬ (0 : Int) < (R.length : Int) := by omega
  have e : putM n l = (mapL n.toNat l).map Byt.v := by
    have : R = [] := List.length_eq_zero_iff.1 (by omega)
    rw [putM, okM, hd, hm, ← hR, decide_eq_true this]; rfl
  obtain ⟨n, rfl⟩ : ∃ k : Nat, n = k := ⟨n.toNat, by omega⟩
  rw [Int.toNat_natCast] at e
  simp only [vP.down, vS.down, vE.down, qA, qB, qC, qD, qE, qF, qG, reduceIte, reduceCtorEq, qH, qI, qJ, ↓avp_condG, ↓tf_arrow, ↓ft_arrow, hd, hm, p1, p2, c0', ← hR, gt_iff_lt, pick_of, pick_ot, false_implies, k_smap_Put_smap_may.down, A_smap_may, p_smap_may, r_smap_may, k_smap_Put_span_May.down, A_span_May, p_span_May, r_span_May, k_smap_Put_span_Less.down, A_span_Less, p_span_Less, r_span_Less, k_smap_Put_smap_size.down, A_smap_size, p_smap_size, r_smap_size]
  refine ⟨by omega, fun g2 hg2 => ?_⟩
  rw [rep_map (f := fun i => hasR l (14 + (i : Nat)))]
  obtain ⟨f, hf⟩ : ∃ f : Nat → Bool, f = fun i => hasR l (14 + (i : Nat)) := ⟨_, rfl⟩
  have hBl : (List.replicate ((n + 7) / 8) (⟨0⟩ : Byt)).length = (n + 7) / 8 := List.length_replicate
  have em : mapL n l = mapS f (List.replicate ((n + 7) / 8) ⟨0⟩) n := by rw [hf]; rfl
  rw [← hf]
  obtain ⟨B, hB⟩ : ∃ B, B = List.replicate ((n + 7) / 8) (⟨0⟩ : Byt) := ⟨_, rfl⟩
  rw [← hB] at hBl em ⊢
  refine loop_weak hm_smap_Put (fun k σ => ∃ (i : Nat), k = n - i ∧ i ≤ n ∧ σ = mkS [(0, .t (.int .i64 (n : Nat))), (1, .t (sl l)), (6, .tok g2 1 0 ((n + 7) / 8)), (30, .t (.int .i64 (n : Nat))), (31, .t (.int .i64 (i : Nat)))] (Store.empty.set g2 (some (.row 1 ((mapS f B i).map Cell.enc) false))))
    ⟨0, rfl, by omega, rfl⟩ (wk_to fewer_refl (by simp only [vP.down, vS.down, vE.down, qA, qB, qC, qD, qE, qF, qG, reduceIte, reduceCtorEq, qH, qI, qJ, ↓avp_condG, ↓tf_arrow, ↓ft_arrow, wP.down, Int.natCast_zero])) ?_
  rintro k _ ⟨i, rfl, hi, rfl⟩
  have hlen : (mapS f B i).length = (n + 7) / 8 := by rw [mapS_len, hBl]
  by_cases hlt : i < n
  case neg =>
    obtain rfl : i = n := by omega
    have hge : ¬ (((i : Nat) : Int) < ((i : Nat) : Int)) := by omega
    have hlv : LV (Store.empty.set g2 (some (.row 1 ((mapS f B i).map Cell.enc) false))) (.tok g2 1 0 ((i + 7) / 8)) (mapS f B i) := .inr ⟨g2, by rw [hlen]; rfl, false, Store.set_same _ _ _⟩
    simp only [vP.down, vS.down, vE.down, qA, qB, qC, qD, qE, qF, qG, reduceIte, reduceCtorEq, qH, qI, qJ, ↓avp_condG, ↓tf_arrow, ↓ft_arrow, hge, conv_lv ty_Luint8 ty_string ty_uint8 hlv]
    simp only [vP.down, vS.down, vE.down, qA, qB, qC, qD, qE, qF, qG, reduceIte, reduceCtorEq, qH, qI, qJ, ↓avp_condG, ↓tf_arrow, ↓ft_arrow, vT.down, e, em]
  have hlt' : (i : Int) < (n : Int) := by omega
  have w5 : IntKind.i64.wrap (14 + (i : Int)) = 14 + (i : Int) := IntWalk.i64_in _ (by omega)
  have hi1 : IntKind.i64.wrap ((i : Int) + 1) = ((i + 1 : Nat) : Int) := by rw [IntWalk.i64_in _ (by omega)]; rfl
  have t1 := tdiv_nat i
  have t2 := tmod_nat i
  have t3 : IntKind.i64.wrap ((i / 8 : Nat) : Int) = ((i / 8 : Nat) : Int) := IntWalk.i64_in _ (by omega)
  have t4 : IntKind.i64.wrap ((i % 8 : Nat) : Int) = ((i % 8 : Nat) : Int) := IntWalk.i64_in _ (by omega)
  have hfi : hasR l (14 + (i : Int)) = f i := by rw [hf]
  have hll : l.length < 4611686018427387904 := by omega
  have hstep : mapS f B (i + 1) = if f i = true then (mapS f B i).set (i / 8) ⟨orb ((mapS f B i).getD (i / 8) default).v (i % 8)⟩ else mapS f B i := rfl
  cases hb : f i with
  | false =>
    rw [hb, if_neg (by simp)] at hstep
    simp only [vP.down, vS.down, vE.down, qA, qB, qC, qD, qE, qF, qG, reduceIte, reduceCtorEq, qH, qI, qJ, ↓avp_condG, ↓tf_arrow, ↓ft_arrow, hlt', w5, hfi, hb, hll, false_implies, k_smap_Put_span_Has.down, A_span_Has, p_span_Has, r_span_Has]
    refine round_to (n - (i + 1)) [(0, .t (.int .i64 (n : Nat))), (1, .t (sl l)), (6, .tok g2 1 0 ((n + 7) / 8)), (30, .t (.int .i64 (n : Nat))), (31, .t (.int .i64 (i + 1 : Nat)))] (Store.empty.set g2 (some (.row 1 ((mapS f B (i + 1)).map Cell.enc) false))) (by omega) ?_ (by rw [hstep]; simp only [vP.down, vS.down, vE.down, qA, qB, qC, qD, qE, qF, qG, reduceIte, reduceCtorEq, qH, qI, qJ, ↓avp_condG, ↓tf_arrow, ↓ft_arrow, wP.down, hi1]) ⟨i + 1, rfl, by omega, rfl⟩
    rw [hstep]; exact fewer_refl
  | true =>
    rw [hb, if_pos rfl] at hstep
    obtain ⟨hrg, epr⟩ := map_put (f := f) (B := B) (i := i) (by omega)
    have ho := orb_eq ((mapS f B i).getD (i / 8) default).v (k := i % 8) (by omega)
    have h8 : (i / 8 : Nat) < (n + 7) / 8 := by omega
    have h8' : ((i / 8 : Nat) : Int) < (((n + 7) / 8 : Nat) : Int) := by omega
    have h80 : (0 : Int) ≤ ((i / 8 : Nat) : Int) := by omega
    have h81 : (0 : Int) ≤ ((i % 8 : Nat) : Int) := by omega
    have hlm : ((mapS f B i).map Cell.enc).length = (n + 7) / 8 := by rw [List.length_map, hlen]
    simp only [vP.down, vS.down, vE.down, qA, qB, qC, qD, qE, qF, qG, reduceIte, reduceCtorEq, qH, qI, qJ, ↓avp_condG, ↓tf_arrow, ↓ft_arrow, hlt', w5, hfi, hb, hll, t1, t2, t3, t4, hrg, ho, h8, h8', h80, h81, hlm, epr, ← hstep, false_implies, Store.set_same, k_smap_Put_span_Has.down, A_span_Has, p_span_Has, r_span_Has]
    refine ⟨by omega, by omega, by simp, ?_⟩
    exact round_to (n - (i + 1)) [(0, .t (.int .i64 (n : Nat))), (1, .t (sl l)), (6, .tok g2 1 0 ((n + 7) / 8)), (30, .t (.int .i64 (n : Nat))), (31, .t (.int .i64 (i + 1 : Nat)))] (Store.empty.set g2 (some (.row 1 ((mapS f B (i + 1)).map Cell.enc) false))) (by omega) fewer_refl (by simp only [vP.down, vS.down, vE.down, qA, qB, qC, qD, qE, qF, qG, reduceIte, reduceCtorEq, qH, qI, qJ, ↓avp_condG, ↓tf_arrow, ↓ft_arrow, wP.down, hi1]) ⟨i + 1, rfl, by omega, rfl⟩
noncomputable def c_smap_Put : Con := fnScal A_smap_Put p_smap_Put r_smap_Put
theorem ok_smap_Put : COk Try.prog 52 c_smap_Put := fn_sok sys_smap_Put mixed Try.func52 (by kernel_rfl) geq_smap_Put Try.ntmps52 (by rw [Try.results52]) (fun x => by unfold r_smap_Put; simp [AV.scal]) fun x hx => ⟨Nat.le_of_ble_eq_true rfl, body_smap_Put x hx⟩
end Go.Proofs.Ytofcmdkmhbbbjaa
namespace Go.Proofs.Ytofcmdkmhbbbjaa
open Go Go.Eng
set_option maxRecDepth 100000
theorem bt_nat2 : ∀ n : Nat, n < 256 → ∀ k : Nat, k < 8 → IntKind.u8.wrap ((BitVec.ofInt IntKind.u8.bits ((n : Int).fdiv (2 ^ min k IntKind.u8.bits)) &&& BitVec.ofInt IntKind.u8.bits 1).toNat : Int) = if n.testBit k = true then 1 else 0 := by decide +kernel
theorem bt_eq2 (x : UInt8) {k : Nat} (h : k < 8) : IntKind.u8.wrap ((BitVec.ofInt IntKind.u8.bits ((x.toNat : Int).fdiv (2 ^ min k IntKind.u8.bits)) &&& BitVec.ofInt IntKind.u8.bits 1).toNat : Int) = if bt x k = true then 1 else 0 := bt_nat2 x.toNat x.toNat_lt k h
def bitA (s : List UInt8) (i : Nat) : Bool := bt (s.getD (i / 8) 0) (i % 8)
def idsB (s : List UInt8) : Nat → List Int
  | 0 => []
  | i + 1 => if bitA s i = true then idsB s i ++ [14 + (i : Int)] else idsB s i
theorem idsB_len {s : List UInt8} : ∀ i, (idsB s i).length ≤ i
  | 0 => Nat.le_refl _
  | i + 1 => by
    have := idsB_len (s := s) i
    unfold idsB
    split
    · simp; omega
    · omega
def takeOkM (n : Int) (s : List UInt8) : Bool := dataOk n && (decide ((n.toNat + 7) / 8 ≤ s.length) && decide (∀ i, i < 8 * ((n.toNat + 7) / 8) → bitA s i = true → i < n.toNat))
def takeM (n : Int) (s : List UInt8) : List TRun × List UInt8 × Bool := if takeOkM n s = true then (ofL (idsB s (8 * ((n.toNat + 7) / 8))), s.drop ((n.toNat + 7) / 8), true) else ([], [], false)
def G_smap_Take : GCode := .seq (.region [⟨(some 4), none, .assign (.const (.slice none 0 0))⟩, ⟨(some 5), none, .assign (.const (.string ⟨#[]⟩))⟩, ⟨(some 6), none, .assign (.const (.bool false))⟩]) (.seq (.seq (.region [⟨(some 9), none, .move (.tmp 0)⟩, ⟨(some 10), none, .call ⟨.value (.func 69), #[.tmp 9], #[3]⟩⟩, ⟨(some 11), none, .unOp .not 4 (.tmp 10)⟩, ⟨(some 12), none, .move (.tmp 11)⟩, ⟨(some 13), (some (12, false)), .move (.tmp 1)⟩, ⟨(some 14), (some (12, false)), .call ⟨.builtin .len, #[.tmp 13], #[9]⟩⟩, ⟨(some 15), (some (12, false)), .move (.tmp 0)⟩, ⟨(some 16), (some (12, false)), .call ⟨.value (.func 72), #[.tmp 15], #[3]⟩⟩, ⟨(some 17), (some (12, false)), .binOp .lss 3 (.tmp 14) (.tmp 16) 3⟩, ⟨(some 18), none, .pick (.tmp 12) (.const (.bool true)) (.tmp 17)⟩]) (.cond (.tmp 18) (.seq (.region [⟨(some 4), none, .assign (.const (.slice none 0 0))⟩, ⟨(some 5), none, .assign (.const (.string ⟨#[]⟩))⟩, ⟨(some 6), none, .assign (.const (.bool false))⟩]) (.ret)) (.skip))) (.seq (.region [⟨(some 7), none, .assign (.const (.slice none 0 0))⟩]) (.seq (.seq (.region [⟨(some 19), none, .move (.tmp 0)⟩, ⟨(some 20), none, .call ⟨.value (.func 72), #[.tmp 19], #[3]⟩⟩, ⟨(some 21), none, .binOp .mul 3 (.const (.int .i64 8)) (.tmp 20) 3⟩, ⟨(some 22), none, .move (.const (.int .i64 0))⟩]) (.block 0 (.loop (.seq .weak (.seq (.region [⟨(some 23), none, .binOp .lss 3 (.tmp 22) (.tmp 21) 3⟩]) (.seq (.cond (.tmp 23) (.skip) (.exit 0)) (.seq (.block 1 (.seq (.region [⟨(some 24), none, .move (.tmp 22)⟩, ⟨(some 8), none, .assign (.tmp 24)⟩]) (.seq (.seq (.region [⟨(some 25), none, .move (.tmp 1)⟩, ⟨(some 26), none, .move (.tmp 8)⟩, ⟨(some 27), none, .binOp .quo 3 (.tmp 26) (.const (.int .i64 8)) 3⟩, ⟨(some 28), none, .index 9 (.tmp 25) (.tmp 27)⟩, ⟨(some 29), none, .move (.tmp 8)⟩, ⟨(some 30), none, .binOp .rem 3 (.tmp 29) (.const (.int .i64 8)) 3⟩, ⟨(some 31), none, .binOp .shr 5 (.tmp 28) (.tmp 30) 3⟩, ⟨(some 32), none, .binOp .and 5 (.tmp 31) (.const (.int .u8 1)) 5⟩, ⟨(some 33), none, .binOp .eql 5 (.tmp 32) (.const (.int .u8 0)) 5⟩]) (.cond (.tmp 33) (.exit 1) (.skip))) (.seq (.seq (.region [⟨(some 34), none, .move (.tmp 8)⟩, ⟨(some 35), none, .move (.tmp 0)⟩, ⟨(some 36), none, .binOp .geq 3 (.tmp 34) (.tmp 35) 3⟩]) (.cond (.tmp 36) (.seq (.region [⟨(some 4), none, .assign (.const (.slice none 0 0))⟩, ⟨(some 5), none, .assign (.const (.string ⟨#[]⟩))⟩, ⟨(some 6), none, .assign (.const (.bool false))⟩]) (.ret)) (.skip))) (.region [⟨(some 37), none, .move (.tmp 7)⟩, ⟨(some 38), none, .move (.tmp 8)⟩, ⟨(some 39), none, .binOp .add 3 (.const (.int .i64 14)) (.tmp 38) 3⟩, ⟨(some 40), none, .buildSlice 58 1 #[(0, .tmp 39)]⟩, ⟨(some 41), none, .call ⟨.builtin .append, #[.tmp 37, .tmp 40], #[58, 58]⟩⟩, ⟨(some 7), none, .assign (.tmp 41)⟩]))))) (.region [⟨(some 42), none, .binOp .add 3 (.tmp 22) (.const (.int .i64 1)) 3⟩, ⟨(some 22), none, .move (.tmp 42)⟩])))))))) (.seq (.seq .weak (.region [⟨(some 43), none, .move (.tmp 7)⟩, ⟨(some 44), none, .call ⟨.value (.func 77), #[.tmp 43], #[58]⟩⟩, ⟨(some 45), none, .move (.tmp 1)⟩, ⟨(some 46), none, .move (.tmp 0)⟩, ⟨(some 47), none, .call ⟨.value (.func 72), #[.tmp 46], #[3]⟩⟩, ⟨(some 48), none, .slice 9 (.tmp 45) (some (.tmp 47)) none none⟩, ⟨(some 4), none, .assign (.tmp 44)⟩, ⟨(some 5), none, .assign (.tmp 48)⟩, ⟨(some 6), none, .assign (.const (.bool true))⟩])) (.ret)))))
noncomputable def l_smap_Take : List (Nat × Con) := [(69, c_smap_may), (72, c_smap_size), (77, c_span_Of)]
noncomputable abbrev K_smap_Take : Ctx := ctx (cl l_smap_Take)
theorem geq_smap_Take : gof K_smap_Take Try.f55 = some G_smap_Take.strip := by kernel_rfl
theorem sys_smap_Take : Go.Eng.Sys Try.prog K_smap_Take := sys_of' ⟨ok_smap_may, ok_smap_size, ok_span_Of, trivial⟩
theorem hm_smap_Take : ConMono K_smap_Take := conMono_of sys_smap_Take.con
noncomputable def k_smap_Take_smap_may := PLift.up (call_scal (C := K_smap_Take) (f := 69) (A := A_smap_may) (p := p_smap_may) (r := r_smap_may) rfl)
noncomputable def k_smap_Take_smap_size := PLift.up (call_scal (C := K_smap_Take) (f := 72) (A := A_smap_size) (p := p_smap_size) (r := r_smap_size) rfl)
noncomputable def k_smap_Take_span_Of := PLift.up (call_fn (C := K_smap_Take) (f := 77) (A := A_span_Of) (p := p_span_Of) (r := r_span_Of) rfl)
def A_smap_Take := Arms.cons (argT Int) (Arms.cons (argT (List UInt8)) Arms.nil)
def p_smap_Take (x : Int × List UInt8 × Unit) : Prop := x.2.1.length ≤ 1000000
def r_smap_Take (x : Int × List UInt8 × Unit) : AV := .tup [.t (sl (takeM x.1 x.2.1).1), .t (.str (takeM x.1 x.2.1).2.1), .t (.bool (takeM x.1 x.2.1).2.2)]
set_option maxRecDepth 100000 in
set_option maxHeartbeats 1000000 in
theorem body_smap_Take (x : Int × List UInt8 × Unit) (hp : p_smap_Take x) : avp K_smap_Take G_smap_Take (Ret K_smap_Take [.tmp 4, .tmp 5, .tmp 6] fun v s' => Frz s' v (r_smap_Take x)) (entry (A_smap_Take.enc x) .empty) := by
  obtain ⟨n, s, ⟨⟩⟩ := x
  change s.length ≤ 1000000 at hp
  change avp _ _ (Ret _ _ fun v s' => Frz s' v (.tup [.t (sl (takeM n s).1), .t (.str (takeM n s).2.1), .t (.bool (takeM n s).2.2)])) (entry [.t (.int .i64 n), .t (.str s)] .empty)
  unfold G_smap_Take
  cases hd : dataOk n with
  | false =>
    have e : takeM n s = ([], [], false) := by rw [takeM, takeOkM, hd]; rfl
    simp only [vP.down, vS.down, vE.down, qA, qB, qC, qD, qE, qF, qG, reduceIte, reduceCtorEq, qH, qI, qJ, ↓avp_condG, ↓tf_arrow, ↓ft_arrow, hd, pick_of, pick_ot, false_implies, k_smap_Take_smap_may.down, A_smap_may, p_smap_may, r_smap_may, k_smap_Take_smap_size.down, A_smap_size, p_smap_size, r_smap_size]
    simp only [vP.down, vS.down, vE.down, qA, qB, qC, qD, qE, qF, qG, reduceIte, reduceCtorEq, qH, qI, qJ, ↓avp_condG, ↓tf_arrow, ↓ft_arrow, vT.down]
    simp only [e, frz1_nilS, frz1_t, and_self]
  | true =>
  obtain ⟨d1, d2⟩ := dataOk_iff.1 hd
  obtain ⟨n, rfl⟩ : ∃ k : Nat, n = k := ⟨n.toNat, by omega⟩
  by_cases c0 : s.length < (n + 7) / 8
  · have e : takeM n s = ([], [], false) := by
      rw [takeM, takeOkM, hd, decide_eq_false (by rw [Int.toNat_natCast]; omega)]; rfl
    have c0' : (s.length : Int) < (((n + 7) / 8 : Nat) : Int) := by omega
    simp only [vP.down, vS.down, vE.down, qA, qB, qC, qD, qE, qF, qG, reduceIte, reduceCtorEq, qH, qI, qJ, ↓avp_condG, ↓tf_arrow, ↓ft_arrow, hd, c0', pick_of, pick_ot, false_implies, k_smap_Take_smap_may.down, A_smap_may, p_smap_may, r_smap_may, k_smap_Take_smap_size.down, A_smap_size, p_smap_size, r_smap_size]
    simp only [vP.down, vS.down, vE.down, qA, qB, qC, qD, qE, qF, qG, reduceIte, reduceCtorEq, qH, qI, qJ, ↓avp_condG, ↓tf_arrow, ↓ft_arrow, vT.down]
    simp only [e, frz1_nilS, frz1_t, and_self]
  have c0' : ¬ (s.length : Int) < (((n + 7) / 8 : Nat) : Int) := by omega
  have w8 : IntKind.i64.wrap (8 * (((n + 7) / 8 : Nat) : Int)) = ((8 * ((n + 7) / 8) : Nat) : Int) := by rw [IntWalk.i64_in _ (by omega)]; omega
  simp only [vP.down, vS.down, vE.down, qA, qB, qC, qD, qE, qF, qG, reduceIte, reduceCtorEq, qH, qI, qJ, ↓avp_condG, ↓tf_arrow, ↓ft_arrow, hd, c0', w8, pick_of, pick_ot, false_implies, k_smap_Take_smap_may.down, A_smap_may, p_smap_may, r_smap_may, k_smap_Take_smap_size.down, A_smap_size, p_smap_size, r_smap_size]
  obtain ⟨N, hN⟩ : ∃ N, N = (n + 7) / 8 := ⟨_, rfl⟩
  refine loop_weak hm_smap_Take (fun k σ => ∃ (i : Nat) (x : AV) (S : Store), k = 8 * N - i ∧ i ≤ 8 * N ∧ (∀ j, j < i → bitA s j = true → j < n) ∧ LV S x (idsB s i) ∧
      σ = mkS [(0, .t (.int .i64 (n : Nat))), (1, .t (.str s)), (7, x), (21, .t (.int .i64 (8 * N : Nat))), (22, .t (.int .i64 (i : Nat)))] S)
    ⟨0, .t .nilS, .empty, rfl, by omega, by omega, lv_nil, rfl⟩ (wk_to fewer_refl (by simp only [vP.down, vS.down, vE.down, qA, qB, qC, qD, qE, qF, qG, reduceIte, reduceCtorEq, qH, qI, qJ, ↓avp_condG, ↓tf_arrow, ↓ft_arrow, wP.down, hN, Int.natCast_zero])) ?_
  rintro k _ ⟨i, x, S, rfl, hi, hlo, hx, rfl⟩
  have hi1 : IntKind.i64.wrap ((i : Int) + 1) = ((i + 1 : Nat) : Int) := by rw [IntWalk.i64_in _ (by omega)]; rfl
  have hil := idsB_len (s := s) i
  by_cases hlt : i < 8 * N
  case neg =>
    obtain rfl : i = 8 * N := by omega
    have hge : ¬ (((8 * N : Nat) : Int) < ((8 * N : Nat) : Int)) := by omega
    have e : takeM n s = (ofL (idsB s (8 * N)), s.drop N, true) := by
      rw [takeM, takeOkM, hd, Int.toNat_natCast, ← hN, decide_eq_true (by omega), decide_eq_true hlo]; rfl
    obtain ⟨o, ho⟩ : ∃ o, o = idsB s (8 * N) := ⟨_, rfl⟩
    rw [← ho] at hx e hil
    have hoi : o.length ≤ 1099511627776 := by omega
    simp only [vP.down, vS.down, vE.down, qA, qB, qC, qD, qE, qF, qG, reduceIte, reduceCtorEq, qH, qI, qJ, ↓avp_condG, ↓tf_arrow, ↓ft_arrow, hge]
    refine weak_at [(0, .t (.int .i64 (n : Nat))), (1, .t (.str s)), (7, .t (sl o))] .empty fewer_empty (by
      simp only [vP.down, vS.down, vE.down, qA, qB, qC, qD, qE, qF, qG, reduceIte, reduceCtorEq, qH, qI, qJ, ↓avp_condG, ↓tf_arrow, ↓ft_arrow, wP.down]
      exact hx.w2 fun _ _ => rfl) ?_
    have c1 : N ≤ s.length := by omega
    have c1' : (N : Int) ≤ (s.length : Int) := by omega
    simp only [vP.down, vS.down, vE.down, qA, qB, qC, qD, qE, qF, qG, reduceIte, reduceCtorEq, qH, qI, qJ, ↓avp_condG, ↓tf_arrow, ↓ft_arrow, hoi, hd, ← hN, c1, c1', k_smap_Take_span_Of.down, A_span_Of, p_span_Of, r_span_Of, k_smap_Take_smap_size.down, A_smap_size, p_smap_size, r_smap_size]
    refine ⟨by omega, ?_⟩
    simp only [vP.down, vS.down, vE.down, qA, qB, qC, qD, qE, qF, qG, reduceIte, reduceCtorEq, qH, qI, qJ, ↓avp_condG, ↓tf_arrow, ↓ft_arrow, vT.down]
    simp only [e, frz1_t, and_self]
  have hlt' : (i : Int) < ((8 * N : Nat) : Int) := by omega
  have w5 : IntKind.i64.wrap (14 + (i : Int)) = 14 + (i : Int) := IntWalk.i64_in _ (by omega)
  have t1 := tdiv_nat i
  have t2 := tmod_nat i
  have t3 : IntKind.i64.wrap ((i / 8 : Nat) : Int) = ((i / 8 : Nat) : Int) := IntWalk.i64_in _ (by omega)
  have t4 : IntKind.i64.wrap ((i % 8 : Nat) : Int) = ((i % 8 : Nat) : Int) := IntWalk.i64_in _ (by omega)
  have hbt := bt_eq2 (s.getD (i / 8) 0) (k := i % 8) (by omega)
  have h8 : (i / 8 : Nat) < s.length := by omega
  have h8' : ((i / 8 : Nat) : Int) < (s.length : Int) := by omega
  have h80 : (0 : Int) ≤ ((i / 8 : Nat) : Int) := by omega
  have h81 : (0 : Int) ≤ ((i % 8 : Nat) : Int) := by omega
  have hids : idsB s (i + 1) = if bitA s i = true then idsB s i ++ [14 + (i : Int)] else idsB s i := rfl
  cases hb : bitA s i with
  | false =>
    have hb' : bt (s.getD (i / 8) 0) (i % 8) = false := hb
    rw [hb, if_neg (by simp)] at hids
    rw [hb', if_neg (by simp)] at hbt
    simp only [vP.down, vS.down, vE.down, qA, qB, qC, qD, qE, qF, qG, reduceIte, reduceCtorEq, qH, qI, qJ, ↓avp_condG, ↓tf_arrow, ↓ft_arrow, hlt', w5, t1, t2, t3, t4, h8, h8', h80, h81, hbt, false_implies]
    exact round_to (8 * N - (i + 1)) [(0, .t (.int .i64 (n : Nat))), (1, .t (.str s)), (7, x), (21, .t (.int .i64 (8 * N : Nat))), (22, .t (.int .i64 (i + 1 : Nat)))] S (by omega) fewer_refl (by simp only [vP.down, vS.down, vE.down, qA, qB, qC, qD, qE, qF, qG, reduceIte, reduceCtorEq, qH, qI, qJ, ↓avp_condG, ↓tf_arrow, ↓ft_arrow, wP.down, hi1])
      ⟨i + 1, x, S, rfl, by omega, fun j hj hbj => (by
        by_cases hji : j = i
        · subst hji; rw [hb] at hbj; cases hbj
        · exact hlo j (by omega) hbj), by rw [hids]; exact hx, rfl⟩
  | true =>
    have hb' : bt (s.getD (i / 8) 0) (i % 8) = true := hb
    rw [hb, if_pos rfl] at hids
    rw [hb', if_pos rfl] at hbt
    have h10 : ((1 : Int) = 0) = False := by simp
    by_cases c1 : n ≤ i
    · have c1' : (n : Int) ≤ (i : Int) := by omega
      have e : takeM n s = ([], [], false) := by
        rw [takeM, takeOkM, hd, Int.toNat_natCast, ← hN, decide_eq_true (show N ≤ s.length by omega), decide_eq_false (fun h => absurd (h i hlt hb) (by omega))]; rfl
      simp only [vP.down, vS.down, vE.down, qA, qB, qC, qD, qE, qF, qG, reduceIte, reduceCtorEq, qH, qI, qJ, ↓avp_condG, ↓tf_arrow, ↓ft_arrow, hlt', w5, t1, t2, t3, t4, h8, h8', h80, h81, hbt, h10, c1', ge_iff_le, false_implies]
      simp only [vP.down, vS.down, vE.down, qA, qB, qC, qD, qE, qF, qG, reduceIte, reduceCtorEq, qH, qI, qJ, ↓avp_condG, ↓tf_arrow, ↓ft_arrow, vT.down]
      simp only [e, frz1_nilS, frz1_t, and_self]
    · have c1' : ¬ (n : Int) ≤ (i : Int) := by omega
      simp only [vP.down, vS.down, vE.down, qA, qB, qC, qD, qE, qF, qG, reduceIte, reduceCtorEq, qH, qI, qJ, ↓avp_condG, ↓tf_arrow, ↓ft_arrow, hlt', w5, t1, t2, t3, t4, h8, h8', h80, h81, hbt, h10, c1', ge_iff_le, false_implies]
      intro g hg
      refine append_lv ty_Lint ty_int rfl (by decide) (hx.fresh hg) (shows_one (x := (14 + (i : Int))) rfl rfl rfl) (by simp; omega) (by simp; omega) fun v S' hv _ _ => ?_
      exact round_to (8 * N - (i + 1)) [(0, .t (.int .i64 (n : Nat))), (1, .t (.str s)), (7, v), (21, .t (.int .i64 (8 * N : Nat))), (22, .t (.int .i64 (i + 1 : Nat)))] S' (by omega) fewer_refl (by simp only [vP.down, vS.down, vE.down, qA, qB, qC, qD, qE, qF, qG, reduceIte, reduceCtorEq, qH, qI, qJ, ↓avp_condG, ↓tf_arrow, ↓ft_arrow, wP.down, hi1])
        ⟨i + 1, v, S', rfl, by omega, fun j hj hbj => (by
          by_cases hji : j = i
          · omega
          · exact hlo j (by omega) hbj), by rw [hids]; exact hv, rfl⟩
noncomputable def c_smap_Take : Con := fnCon A_smap_Take p_smap_Take r_smap_Take
theorem ok_smap_Take : COk Try.prog 55 c_smap_Take := fn_ok sys_smap_Take mixed Try.func55 (by kernel_rfl) geq_smap_Take Try.ntmps55 (by rw [Try.results55]) fun x hx => ⟨Nat.le_of_ble_eq_true rfl, body_smap_Take x hx⟩
end Go.Proofs.Ytofcmdkmhbbbjaa
namespace Go.Proofs.Ytofcmdkmhbbbjaa
open Go Go.Eng
set_option maxRecDepth 100000
end Go.Proofs.Ytofcmdkmhbbbjaa
namespace Go.Proofs.Ytofcmdkmhbbbjaa
open Go Go.Eng
set_option maxRecDepth 100000
theorem mapS_bit {f : Nat → Bool} {N : Nat} : ∀ i, i ≤ 8 * N → ∀ j k, k < 8 → j < N → bt ((mapS f (List.replicate N ⟨0⟩) i).getD j default).v k = (decide (8 * j + k < i) && f (8 * j + k))
  | 0, _, j, k, hk, hj => by
    have : (List.replicate N (⟨0⟩ : Byt)).getD j default = ⟨0⟩ := by
      rw [List.getD_eq_getElem?_getD, List.getElem?_replicate, if_pos hj]; rfl
    rw [mapS, this, decide_eq_false (by omega), Bool.false_and]
    show (0 : Nat).testBit k = false
    exact Nat.zero_testBit k
  | i + 1, hi, j, k, hk, hj => by
    have ih := mapS_bit (f := f) (N := N) i (by omega)
    have hl : (mapS f (List.replicate N ⟨0⟩) i).length = N := by rw [mapS_len, List.length_replicate]
    unfold mapS
    cases hf : f i with
    | false =>
      rw [if_neg (by simp), ih j k hk hj]
      by_cases h : 8 * j + k = i
      · rw [h, hf, Bool.and_false, Bool.and_false]
      · congr 1
        exact decide_eq_decide.2 (by omega)
    | true =>
      rw [if_pos rfl]
      by_cases hji : j = i / 8
      · have e : ((mapS f (List.replicate N ⟨0⟩) i).set (i / 8) ⟨orb ((mapS f (List.replicate N ⟨0⟩) i).getD (i / 8) default).v (i % 8)⟩).getD j default = ⟨orb ((mapS f (List.replicate N ⟨0⟩) i).getD (i / 8) default).v (i % 8)⟩ := by
          rw [List.getD_eq_getElem?_getD, hji, List.getElem?_set_self (by omega)]; rfl
        rw [e, bt_orb (by omega), ← hji, ih j k hk hj]
        by_cases h : 8 * j + k = i
        · rw [h, hf, decide_eq_true (by omega : k = i % 8), decide_eq_true (by omega : i < i + 1), Bool.or_true]; rfl
        · rw [decide_eq_false (by omega : ¬ k = i % 8), Bool.or_false]
          congr 1
          exact decide_eq_decide.2 (by omega)
      · have e : ((mapS f (List.replicate N ⟨0⟩) i).set (i / 8) ⟨orb ((mapS f (List.replicate N ⟨0⟩) i).getD (i / 8) default).v (i % 8)⟩).getD j default = (mapS f (List.replicate N ⟨0⟩) i).getD j default := by
          rw [List.getD_eq_getElem?_getD, List.getElem?_set_ne (fun h => hji h.symm), ← List.getD_eq_getElem?_getD]
        rw [e, ih j k hk hj]
        congr 1
        exact decide_eq_decide.2 (by omega)
theorem v_at (B : List Byt) (j : Nat) : (B.map Byt.v).getD j 0 = (B.getD j default).v := by
  rw [List.getD_eq_getElem?_getD, List.getD_eq_getElem?_getD, List.getElem?_map]
  cases B[j]? <;> rfl
theorem less_nil {n : Int} {l : List TRun} : whereL .less l [⟨14, 14 + n⟩] = [] ↔ ∀ i, hasR l i = true → 14 ≤ i ∧ i < 14 + n := by
  have ev : ∀ i, hasR [(⟨14, 14 + n⟩ : TRun)] i = (decide (14 ≤ i) && decide (i < 14 + n)) := fun i => by simp [hasR, inR]
  constructor
  · intro h i hi
    have h1 : hasR (whereL .less l [⟨14, 14 + n⟩]) i = false := by rw [h]; rfl
    rw [where_has, hi, ev] at h1
    simp only [How.op, Bool.true_and, Bool.not_eq_false', Bool.and_eq_true, decide_eq_true_eq] at h1
    exact h1
  · intro h
    refine nf_ext where_nf .nil fun i => ?_
    rw [where_has, ev]
    cases hi : hasR l i with
    | false => rfl
    | true =>
      have := h i hi
      have e : (decide (14 ≤ i) && decide (i < 14 + n)) = true := by simp only [Bool.and_eq_true, decide_eq_true_eq]; exact this
      rw [e]; rfl
structure Ok9 (n : Nat) (l : List TRun) : Prop where
  d : dataOk n = true
  nf : Nf l
  wn : Wn 14 n l
theorem Ok9.bd {n : Nat} {l : List TRun} (h : Ok9 n l) : 40 ≤ n ∧ n ≤ 240 := by have := dataOk_iff.1 h.d; omega
theorem Ok9.isM {n : Nat} {l : List TRun} (h : Ok9 n l) : okM n l = true := by
  have := h.bd
  rw [okM, h.d, may_of h.nf h.wn (by omega) (by omega), decide_eq_true (less_nil.2 fun i hi => h.wn i hi)]; rfl
theorem Ok9.put {n : Nat} {l : List TRun} (h : Ok9 n l) : putM n l = (mapL n l).map Byt.v := by rw [putM, if_pos h.isM, Int.toNat_natCast]
theorem Ok9.len {n : Nat} {l : List TRun} (h : Ok9 n l) : (putM n l).length = (n + 7) / 8 := by
  rw [h.put, List.length_map, mapL, mapS_len, List.length_replicate]
theorem Ok9.byt {n : Nat} {l : List TRun} (h : Ok9 n l) {j k : Nat} (hj : j < (n + 7) / 8) (hk : k < 8) : bt ((putM n l).getD j 0) k = hasR l (14 + ((8 * j + k : Nat) : Int)) := by
  rw [h.put, v_at, mapL, mapS_bit n (by omega) j k hk hj]
  by_cases hlt : 8 * j + k < n
  · rw [decide_eq_true hlt, Bool.true_and]
  · rw [decide_eq_false hlt, Bool.false_and]
    cases hh : hasR l (14 + ((8 * j + k : Nat) : Int)) with
    | false => rfl
    | true => have := h.wn _ hh; omega
theorem Ok9.bit {n : Nat} {l : List TRun} (h : Ok9 n l) {i : Nat} (hi : i < 8 * ((n + 7) / 8)) : bitA (putM n l) i = hasR l (14 + (i : Int)) := by
  rw [bitA, h.byt (by omega) (by omega)]
  congr 2
  omega
theorem ids_mem {s : List UInt8} {a : Int} : ∀ {i : Nat}, a ∈ idsB s i ↔ ∃ j : Nat, j < i ∧ bitA s j = true ∧ a = 14 + (j : Int)
  | 0 => by simp [idsB]
  | i + 1 => by
    unfold idsB
    cases hb : bitA s i with
    | false =>
      rw [if_neg (by simp), ids_mem]
      constructor
      · rintro ⟨j, h1, h2, h3⟩; exact ⟨j, by omega, h2, h3⟩
      · rintro ⟨j, h1, h2, h3⟩
        have : j ≠ i := fun e => by rw [e, hb] at h2; cases h2
        exact ⟨j, by omega, h2, h3⟩
    | true =>
      rw [if_pos rfl, List.mem_append, ids_mem, List.mem_singleton]
      constructor
      · rintro (⟨j, h1, h2, h3⟩ | rfl)
        · exact ⟨j, by omega, h2, h3⟩
        · exact ⟨i, by omega, hb, rfl⟩
      · rintro ⟨j, h1, h2, h3⟩
        by_cases hji : j = i
        · subst hji; exact .inr h3
        · exact .inl ⟨j, by omega, h2, h3⟩
theorem ids_has {s : List UInt8} {k : Nat} (hk : k ≤ 1000000) {i : Nat} : hasR (ofL (idsB s k)) (14 + (i : Int)) = (decide (i < k) && bitA s i) := by
  rw [(ofL_set _).2, Bool.eq_iff_iff]
  simp only [Bool.and_eq_true, List.contains_iff_mem, ids_mem, decide_eq_true_eq, okS8]
  constructor
  · rintro ⟨⟨j, h1, h2, h3⟩, _⟩
    obtain rfl : i = j := by omega
    exact ⟨h1, h2⟩
  · rintro ⟨h1, h2⟩
    exact ⟨⟨i, h1, h2, rfl⟩, by omega, by omega⟩
theorem ids_lo {s : List UInt8} {k : Nat} {a : Int} (h : hasR (ofL (idsB s k)) a = true) : ∃ j : Nat, j < k ∧ bitA s j = true ∧ a = 14 + (j : Int) := by
  rw [(ofL_set _).2, Bool.and_eq_true, List.contains_iff_mem, ids_mem] at h
  exact h.1
theorem bitA_app {s t : List UInt8} {i : Nat} (h : i / 8 < s.length) : bitA (s ++ t) i = bitA s i := by
  rw [bitA, bitA, List.getD_eq_getElem?_getD, List.getElem?_append_left h, ← List.getD_eq_getElem?_getD]
theorem Ok9.take {n : Nat} {l : List TRun} (h : Ok9 n l) (t : List UInt8) : takeM n (putM n l ++ t) = (l, t, true) := by
  have hl := h.len
  have hbd := h.bd
  have hb : ∀ i, i < 8 * ((n + 7) / 8) → bitA (putM n l ++ t) i = hasR l (14 + (i : Int)) := fun i hi => by rw [bitA_app (by omega), h.bit hi]
  have hok : takeOkM n (putM n l ++ t) = true := by
    rw [takeOkM, h.d, Int.toNat_natCast, decide_eq_true (by rw [List.length_append]; omega), decide_eq_true (fun i hi hbi => by
      rw [hb i hi] at hbi
      have := h.wn _ hbi
      omega)]; rfl
  rw [takeM, if_pos hok, Int.toNat_natCast, List.drop_left' hl]
  refine congrArg (fun x => (x, t, true)) (nf_ext (ofL_set _).1 h.nf fun a => ?_)
  rw [Bool.eq_iff_iff]
  constructor
  · intro ha
    obtain ⟨j, h1, h2, rfl⟩ := ids_lo ha
    rw [hb j h1] at h2
    exact h2
  · intro ha
    have h1 := h.wn a ha
    obtain ⟨i, rfl⟩ : ∃ i : Nat, a = 14 + (i : Int) := ⟨(a - 14).toNat, by omega⟩
    rw [ids_has (by omega), decide_eq_true (by omega), hb i (by omega), ha]; rfl
theorem took {n : Nat} {s : List UInt8} (h : takeOkM n s = true) : Ok9 n (takeM n s).1 ∧ (takeM n s).2.1 = s.drop ((n + 7) / 8) ∧ (takeM n s).2.2 = true ∧ (n + 7) / 8 ≤ s.length ∧ (∀ i, i < n → hasR (takeM n s).1 (14 + (i : Int)) = bitA s i) ∧ ∀ i, i < 8 * ((n + 7) / 8) → bitA s i = true → i < n := by
  have h' := h
  simp only [takeOkM, Bool.and_eq_true, decide_eq_true_eq, Int.toNat_natCast] at h'
  obtain ⟨h1, h2, h3⟩ := h'
  have hb := dataOk_iff.1 h1
  rw [takeM, if_pos h, Int.toNat_natCast]
  refine ⟨⟨h1, (ofL_set _).1, fun a ha => ?_⟩, rfl, rfl, h2, fun i hi => ?_, h3⟩
  · obtain ⟨j, j1, j2, rfl⟩ := ids_lo ha
    have := h3 j j1 j2
    omega
  · rw [ids_has (by omega), decide_eq_true (by omega), Bool.true_and]
theorem put_took {n : Nat} {s : List UInt8} (h : takeOkM n s = true) : putM n (takeM n s).1 = s.take ((n + 7) / 8) := by
  obtain ⟨o, _, _, hl, hi, hz⟩ := took h
  have e1 := o.len
  have hbd := o.bd
  refine List.ext_getElem? fun j => ?_
  by_cases hj : j < (n + 7) / 8
  · have e2 : (putM n (takeM n s).1).getD j 0 = s.getD j 0 := by
      refine bt_ext fun k hk => ?_
      rw [o.byt hj hk]
      have e3 : bt (s.getD j 0) k = bitA s (8 * j + k) := by
        rw [bitA, show (8 * j + k) / 8 = j from by omega, show (8 * j + k) % 8 = k from by omega]
      rw [e3]
      by_cases hlt : 8 * j + k < n
      · exact hi _ hlt
      · have a1 : bitA s (8 * j + k) = false := by
          cases hb : bitA s (8 * j + k) with
          | false => rfl
          | true => exact absurd (hz _ (by omega) hb) hlt
        rw [a1]
        cases hh : hasR (takeM n s).1 (14 + ((8 * j + k : Nat) : Int)) with
        | false => rfl
        | true => have := o.wn _ hh; omega
    rw [List.getElem?_take, if_pos hj]
    rw [List.getD_eq_getElem?_getD, List.getD_eq_getElem?_getD, List.getElem?_eq_getElem (by omega), List.getElem?_eq_getElem (by omega : j < s.length)] at e2
    rw [List.getElem?_eq_getElem (by omega), List.getElem?_eq_getElem (by omega : j < s.length)]
    exact congrArg some e2
  · rw [List.getElem?_eq_none (by omega), List.getElem?_eq_none (by rw [List.length_take]; omega)]
end Go.Proofs.Ytofcmdkmhbbbjaa
namespace Go.Proofs.Ytofcmdkmhbbbjaa
open Go Go.Eng
set_option maxRecDepth 100000
def spC (s : TSpace) : List TV := [sl s.Held, sl s.One, sl s.Two, sl s.Kept]
def lenS (s : TSpace) : Prop := s.Held.length ≤ 1000 ∧ s.One.length ≤ 1000 ∧ s.Two.length ≤ 1000 ∧ s.Kept.length ≤ 1000
def keepM (s : TSpace) : TSpace := ⟨s.Held, s.One, s.Two, s.Held⟩
def okSp (n : Int) (s : TSpace) : Bool := dataOk n && (wit n s.Held && (wit n s.One && (wit n s.Two && (wit n s.Kept && (decide (whereL .both s.Held s.One = []) && (decide (whereL .both s.Held s.Two = []) && decide (whereL .both s.One s.Two = [])))))))
def freeM (n : Int) (s : TSpace) : List TRun := if okSp n s = true then whereL .less [⟨14, 14 + n⟩] (whereL .add (whereL .add s.Held s.One) (whereL .add s.Two s.Kept)) else []
theorem where_nil {h : How} {l m : List TRun} : whereL h l m = [] ↔ ∀ i, h.op (hasR l i) (hasR m i) = false := by
  constructor
  · intro e i
    rw [← where_has, e]; rfl
  · intro e
    refine nf_ext where_nf .nil fun i => ?_
    rw [where_has, e]; rfl
theorem len_nil {l : List TRun} : ((l.length : Int) = 0) ↔ l = [] := by
  rw [← List.length_eq_zero_iff]; omega
theorem all_has {n i : Int} : hasR [(⟨14, 14 + n⟩ : TRun)] i = (decide (14 ≤ i) && decide (i < 14 + n)) := by simp [hasR, inR]
def at4 (s : TSpace) (i : Nat) : List TRun := if i = 0 then s.Held else if i = 1 then s.One else if i = 2 then s.Two else s.Kept
theorem drop_sp {s : TSpace} {i : Nat} (h : i < 4) : ((spC s).map AV.t).drop i = .t (sl (at4 s i)) :: ((spC s).map AV.t).drop (i + 1) := by
  rcases (by omega : i = 0 ∨ i = 1 ∨ i = 2 ∨ i = 3) with rfl | rfl | rfl | rfl <;> rfl
theorem at4_len {s : TSpace} (h : lenS s) {i : Nat} : (at4 s i).length ≤ 1000 := by
  obtain ⟨a, b, c, d⟩ := h
  unfold at4
  split
  · exact a
  split
  · exact b
  split
  · exact c
  · exact d
theorem both_two {h o t : List TRun} : whereL .both (whereL .add h o) t = [] ↔ whereL .both h t = [] ∧ whereL .both o t = [] := by
  simp only [where_nil, where_has, How.op]
  constructor
  · intro e
    constructor
    · intro i
      have := e i
      revert this
      cases hasR h i <;> cases hasR o i <;> cases hasR t i <;> simp
    · intro i
      have := e i
      revert this
      cases hasR h i <;> cases hasR o i <;> cases hasR t i <;> simp
  · rintro ⟨e, e'⟩ i
    have h1 := e i
    have h2 := e' i
    revert h1 h2
    cases hasR h i <;> cases hasR o i <;> cases hasR t i <;> simp
def G_space_taken_all : GCode := .seq (.region [⟨(some 1), none, .box 115 (.tmp 0)⟩, ⟨(some 2), none, .alloc 97⟩]) (.seq (.seq .weak (.region [⟨(some 3), none, .fieldAddr 115 (.tmp 1) 0⟩, ⟨(some 4), none, .fieldAddr 56 (.tmp 3) 0⟩, ⟨(some 5), none, .load 52 (.tmp 4)⟩, ⟨(some 6), none, .fieldAddr 115 (.tmp 1) 0⟩, ⟨(some 7), none, .fieldAddr 56 (.tmp 6) 1⟩, ⟨(some 8), none, .load 52 (.tmp 7)⟩, ⟨(some 9), none, .fieldAddr 115 (.tmp 1) 0⟩, ⟨(some 10), none, .fieldAddr 56 (.tmp 9) 2⟩, ⟨(some 11), none, .load 52 (.tmp 10)⟩, ⟨(some 12), none, .fieldAddr 115 (.tmp 1) 0⟩, ⟨(some 13), none, .fieldAddr 56 (.tmp 12) 3⟩, ⟨(some 14), none, .load 52 (.tmp 13)⟩, ⟨(some 15), none, .build 97 #[(0, .tmp 5), (1, .tmp 8), (2, .tmp 11), (3, .tmp 14)]⟩, ⟨none, none, .store 97 (.tmp 2) (.tmp 15)⟩])) (.ret))
noncomputable def l_space_taken_all : List (Nat × Con) := []
noncomputable abbrev K_space_taken_all : Ctx := ctx (cl l_space_taken_all)
theorem geq_space_taken_all : gof K_space_taken_all Try.f81 = some G_space_taken_all.strip := by kernel_rfl
theorem sys_space_taken_all : Go.Eng.Sys Try.prog K_space_taken_all := sys_of' (l := []) trivial
def A_space_taken_all := Arms.cons (argA Ttaken) Arms.nil
def p_space_taken_all (_ : Ttaken × Unit) : Prop := True
def r_space_taken_all (x : Ttaken × Unit) : AV := .agg ((spC x.1.Space).map .t)
theorem body_space_taken_all (x : Ttaken × Unit) (hp : p_space_taken_all x) : avp K_space_taken_all G_space_taken_all (Ret K_space_taken_all [.cell 2 97] fun v s' => Frz s' v (r_space_taken_all x)) (entry (A_space_taken_all.enc x) .empty) := by
  obtain ⟨⟨s⟩, ⟨⟩⟩ := x
  change avp _ _ (Ret _ _ fun v s' => Frz s' v (.agg ((spC s).map .t))) (entry [.agg ((spC s).map .t)] .empty)
  unfold G_space_taken_all spC
  simp only [vP.down, vS.down, vE.down, qA, qB, qC, qD, qE, qF, qG, reduceIte, reduceCtorEq, qH, qI, qJ, ↓avp_condG, ↓tf_arrow, ↓ft_arrow]
  intro g hg g2 hg2
  have n2 := Store.ne_new hg2
  refine weak_here [(1, .ptr g 0), (2, .ptr g2 0)] (by simp only [vP.down, vS.down, vE.down, qA, qB, qC, qD, qE, qF, qG, reduceIte, reduceCtorEq, qH, qI, qJ, ↓avp_condG, ↓tf_arrow, ↓ft_arrow, wP.down]) fun S hS => ?_
  have f1 : S.f g = some (.box ((spC s).map .t) false) := by rw [hS]; exact (Store.set_other _ _ n2.symm).trans (Store.set_same _ _ _)
  have f2 : S.f g2 = some (.box [.t .nilS, .t .nilS, .t .nilS, .t .nilS] false) := by rw [hS]; exact Store.set_same _ _ _
  unfold spC at f1
  simp only [vP.down, vS.down, vE.down, qA, qB, qC, qD, qE, qF, qG, reduceIte, reduceCtorEq, qH, qI, qJ, ↓avp_condG, ↓tf_arrow, ↓ft_arrow, f1, f2]
  simp only [vP.down, vS.down, vE.down, qA, qB, qC, qD, qE, qF, qG, reduceIte, reduceCtorEq, qH, qI, qJ, ↓avp_condG, ↓tf_arrow, ↓ft_arrow, vT.down, Store.set_same]
noncomputable def c_space_taken_all : Con := fnCon A_space_taken_all p_space_taken_all r_space_taken_all
theorem ok_space_taken_all : COk Try.prog 81 c_space_taken_all := fn_ok sys_space_taken_all mixed Try.func81 (by kernel_rfl) geq_space_taken_all Try.ntmps81 (by rw [Try.results81]) fun x hx => ⟨Nat.le_of_ble_eq_true rfl, body_space_taken_all x hx⟩
def G_space_pool_whole : GCode := .seq (.region [⟨(some 1), none, .box 117 (.tmp 0)⟩, ⟨(some 2), none, .assign (.const (.slice none 0 0))⟩]) (.seq (.region [⟨(some 3), none, .fieldAddr 117 (.tmp 1) 1⟩, ⟨(some 4), none, .load 3 (.tmp 3)⟩, ⟨(some 5), none, .binOp .add 3 (.const (.int .i64 14)) (.tmp 4) 3⟩, ⟨(some 6), none, .build 69 #[(0, .const (.int .i64 14)), (1, .tmp 5)]⟩, ⟨(some 7), none, .buildSlice 52 1 #[(0, .tmp 6)]⟩, ⟨(some 2), none, .assign (.tmp 7)⟩]) (.ret))
noncomputable def l_space_pool_whole : List (Nat × Con) := []
noncomputable abbrev K_space_pool_whole : Ctx := ctx (cl l_space_pool_whole)
theorem geq_space_pool_whole : gof K_space_pool_whole Try.f82 = some G_space_pool_whole.strip := by kernel_rfl
theorem sys_space_pool_whole : Go.Eng.Sys Try.prog K_space_pool_whole := sys_of' (l := []) trivial
def A_space_pool_whole := Arms.cons (argA Tpool) Arms.nil
def p_space_pool_whole (x : Tpool × Unit) : Prop := dataOk x.1.data = true
def r_space_pool_whole (x : Tpool × Unit) : AV := .t (sl [(⟨14, 14 + x.1.data⟩ : TRun)])
def plC (p : Tpool) : List TV := [sl p.taken.Space.Held, sl p.taken.Space.One, sl p.taken.Space.Two, sl p.taken.Space.Kept, .int .i64 p.data]
theorem body_space_pool_whole (x : Tpool × Unit) (hp : p_space_pool_whole x) : avp K_space_pool_whole G_space_pool_whole (Ret K_space_pool_whole [.tmp 2] fun v s' => Frz s' v (r_space_pool_whole x)) (entry (A_space_pool_whole.enc x) .empty) := by
  obtain ⟨p, ⟨⟩⟩ := x
  obtain ⟨h1, h2⟩ := dataOk_iff.1 hp
  change 40 ≤ p.data at h1
  change p.data ≤ 240 at h2
  change avp _ _ (Ret _ _ fun v s' => Frz1 s' v (sl [(⟨14, 14 + p.data⟩ : TRun)])) (entry [.agg ((plC p).map .t)] .empty)
  have w1 : IntKind.i64.wrap (14 + p.data) = 14 + p.data := IntWalk.i64_in _ (by omega)
  unfold G_space_pool_whole plC
  simp only [vP.down, vS.down, vE.down, qA, qB, qC, qD, qE, qF, qG, reduceIte, reduceCtorEq, qH, qI, qJ, ↓avp_condG, ↓tf_arrow, ↓ft_arrow, w1]
  intro g hg g2 hg2
  simp only [vP.down, vS.down, vE.down, qA, qB, qC, qD, qE, qF, qG, reduceIte, reduceCtorEq, qH, qI, qJ, ↓avp_condG, ↓tf_arrow, ↓ft_arrow, vT.down]
  exact (lv_at (α := TRun) (l := [⟨14, 14 + p.data⟩]) (ro := false) rfl (Store.set_same _ _ _)).frz
noncomputable def c_space_pool_whole : Con := fnCon A_space_pool_whole p_space_pool_whole r_space_pool_whole
theorem ok_space_pool_whole : COk Try.prog 82 c_space_pool_whole := fn_ok sys_space_pool_whole mixed Try.func82 (by kernel_rfl) geq_space_pool_whole Try.ntmps82 (by rw [Try.results82]) fun x hx => ⟨Nat.le_of_ble_eq_true rfl, body_space_pool_whole x hx⟩
end Go.Proofs.Ytofcmdkmhbbbjaa
namespace Go.Proofs.Ytofcmdkmhbbbjaa
open Go Go.Eng
set_option maxRecDepth 100000
def fourOk (n : Int) (s : TSpace) (i : Nat) : Bool := mayR (-1) (at4 s i) && decide (whereL .less (at4 s i) [⟨14, 14 + n⟩] = [])
theorem four_wit {n : Int} {s : TSpace} (hd : dataOk n = true) {i : Nat} : fourOk n s i = wit n (at4 s i) := by
  rw [← okM_wit hd, okM, hd, fourOk, Bool.true_and]
theorem okSp_of {n : Int} {s : TSpace} (hd : dataOk n = true) (h : ∀ i, i < 4 → fourOk n s i = true) : okSp n s = (decide (whereL .both s.Held s.One = []) && decide (whereL .both (whereL .add s.Held s.One) s.Two = [])) := by
  have h0 := h 0 (by omega)
  have h1 := h 1 (by omega)
  have h2 := h 2 (by omega)
  have h3 := h 3 (by omega)
  rw [four_wit hd] at h0 h1 h2 h3
  have e0 : wit n s.Held = true := h0
  have e1 : wit n s.One = true := h1
  have e2 : wit n s.Two = true := h2
  have e3 : wit n s.Kept = true := h3
  rw [okSp, hd, e0, e1, e2, e3, Bool.true_and, Bool.true_and, Bool.true_and, Bool.true_and, Bool.true_and, ← Bool.decide_and, ← Bool.decide_and, ← Bool.decide_and]
  refine decide_eq_decide.2 ?_
  rw [both_two]
theorem okSp_no {n : Int} {s : TSpace} (hd : dataOk n = true) {i : Nat} (hi : i < 4) (h : fourOk n s i = false) : okSp n s = false := by
  rw [four_wit hd] at h
  unfold okSp
  rcases (by omega : i = 0 ∨ i = 1 ∨ i = 2 ∨ i = 3) with rfl | rfl | rfl | rfl
  · rw [show wit n s.Held = false from h]; simp
  · rw [show wit n s.One = false from h]; simp
  · rw [show wit n s.Two = false from h]; simp
  · rw [show wit n s.Kept = false from h]; simp
def G_space_pool_may : GCode := .seq (.region [⟨(some 1), none, .box 117 (.tmp 0)⟩, ⟨(some 2), none, .assign (.const (.bool false))⟩]) (.seq (.seq (.seq .weak (.region [⟨(some 5), none, .fieldAddr 117 (.tmp 1) 1⟩, ⟨(some 6), none, .load 3 (.tmp 5)⟩, ⟨(some 7), none, .binOp .lss 3 (.tmp 6) (.const (.int .i64 40)) 3⟩, ⟨(some 8), none, .move (.tmp 7)⟩, ⟨(some 9), (some (8, false)), .fieldAddr 117 (.tmp 1) 1⟩, ⟨(some 10), (some (8, false)), .load 3 (.tmp 9)⟩, ⟨(some 11), (some (8, false)), .binOp .gtr 3 (.tmp 10) (.const (.int .i64 240)) 3⟩, ⟨(some 12), none, .pick (.tmp 8) (.const (.bool true)) (.tmp 11)⟩])) (.cond (.tmp 12) (.seq (.region [⟨(some 2), none, .assign (.const (.bool false))⟩]) (.ret)) (.skip))) (.seq (.seq (.seq .weak (.region [⟨(some 13), none, .fieldAddr 117 (.tmp 1) 0⟩, ⟨(some 14), none, .load 115 (.tmp 13)⟩, ⟨(some 15), none, .call ⟨.value (.func 81), #[.tmp 14], #[115]⟩⟩, ⟨(some 16), none, .move (.const (.int .i64 0))⟩])) (.block 0 (.loop (.seq .weak (.seq (.region [⟨(some 17), none, .binOp .lss 3 (.tmp 16) (.const (.int .i64 4)) 3⟩]) (.seq (.cond (.tmp 17) (.skip) (.exit 0)) (.seq (.block 1 (.seq (.region [⟨(some 18), none, .index 97 (.tmp 15) (.tmp 16)⟩, ⟨(some 4), none, .assign (.tmp 18)⟩]) (.seq (.seq .weak (.region [⟨(some 19), none, .move (.tmp 4)⟩, ⟨(some 20), none, .call ⟨.value (.func 70), #[.tmp 19], #[52]⟩⟩, ⟨(some 21), none, .unOp .not 4 (.tmp 20)⟩, ⟨(some 22), none, .move (.tmp 21)⟩, ⟨(some 23), (some (22, false)), .move (.tmp 4)⟩, ⟨(some 24), (some (22, false)), .load 117 (.tmp 1)⟩, ⟨(some 25), (some (22, false)), .call ⟨.value (.func 82), #[.tmp 24], #[117]⟩⟩, ⟨(some 26), (some (22, false)), .call ⟨.value (.func 71), #[.tmp 23, .tmp 25], #[52, 52]⟩⟩, ⟨(some 27), (some (22, false)), .call ⟨.builtin .len, #[.tmp 26], #[52]⟩⟩, ⟨(some 28), (some (22, false)), .binOp .gtr 3 (.tmp 27) (.const (.int .i64 0)) 3⟩, ⟨(some 29), none, .pick (.tmp 22) (.const (.bool true)) (.tmp 28)⟩])) (.cond (.tmp 29) (.seq (.region [⟨(some 2), none, .assign (.const (.bool false))⟩]) (.ret)) (.skip))))) (.region [⟨(some 30), none, .binOp .add 3 (.tmp 16) (.const (.int .i64 1)) 3⟩, ⟨(some 16), none, .move (.tmp 30)⟩])))))))) (.seq (.seq .weak (.region [⟨(some 31), none, .fieldAddr 117 (.tmp 1) 0⟩, ⟨(some 32), none, .fieldAddr 115 (.tmp 31) 0⟩, ⟨(some 33), none, .fieldAddr 56 (.tmp 32) 0⟩, ⟨(some 34), none, .load 52 (.tmp 33)⟩, ⟨(some 35), none, .fieldAddr 117 (.tmp 1) 0⟩, ⟨(some 36), none, .fieldAddr 115 (.tmp 35) 0⟩, ⟨(some 37), none, .fieldAddr 56 (.tmp 36) 1⟩, ⟨(some 38), none, .load 52 (.tmp 37)⟩, ⟨(some 39), none, .call ⟨.value (.func 83), #[.tmp 34, .tmp 38], #[52, 52]⟩⟩, ⟨(some 40), none, .call ⟨.builtin .len, #[.tmp 39], #[52]⟩⟩, ⟨(some 41), none, .binOp .eql 3 (.tmp 40) (.const (.int .i64 0)) 3⟩, ⟨(some 42), none, .move (.tmp 41)⟩, ⟨(some 43), (some (42, true)), .fieldAddr 117 (.tmp 1) 0⟩, ⟨(some 44), (some (42, true)), .fieldAddr 115 (.tmp 43) 0⟩, ⟨(some 45), (some (42, true)), .fieldAddr 56 (.tmp 44) 0⟩, ⟨(some 46), (some (42, true)), .load 52 (.tmp 45)⟩, ⟨(some 47), (some (42, true)), .fieldAddr 117 (.tmp 1) 0⟩, ⟨(some 48), (some (42, true)), .fieldAddr 115 (.tmp 47) 0⟩, ⟨(some 49), (some (42, true)), .fieldAddr 56 (.tmp 48) 1⟩, ⟨(some 50), (some (42, true)), .load 52 (.tmp 49)⟩, ⟨(some 51), (some (42, true)), .call ⟨.value (.func 84), #[.tmp 46, .tmp 50], #[52, 52]⟩⟩, ⟨(some 52), (some (42, true)), .fieldAddr 117 (.tmp 1) 0⟩, ⟨(some 53), (some (42, true)), .fieldAddr 115 (.tmp 52) 0⟩, ⟨(some 54), (some (42, true)), .fieldAddr 56 (.tmp 53) 2⟩, ⟨(some 55), (some (42, true)), .load 52 (.tmp 54)⟩, ⟨(some 56), (some (42, true)), .call ⟨.value (.func 83), #[.tmp 51, .tmp 55], #[52, 52]⟩⟩, ⟨(some 57), (some (42, true)), .call ⟨.builtin .len, #[.tmp 56], #[52]⟩⟩, ⟨(some 58), (some (42, true)), .binOp .eql 3 (.tmp 57) (.const (.int .i64 0)) 3⟩, ⟨(some 59), none, .pick (.tmp 42) (.tmp 58) (.const (.bool false))⟩, ⟨(some 2), none, .assign (.tmp 59)⟩])) (.ret))))
noncomputable def l_space_pool_may : List (Nat × Con) := [(81, c_space_taken_all), (70, c_span_May), (82, c_space_pool_whole), (71, c_span_Less), (83, c_span_Both), (84, c_span_Add)]
noncomputable abbrev K_space_pool_may : Ctx := ctx (cl l_space_pool_may)
theorem geq_space_pool_may : gof K_space_pool_may Try.f68 = some G_space_pool_may.strip := by kernel_rfl
theorem sys_space_pool_may : Go.Eng.Sys Try.prog K_space_pool_may := sys_of' ⟨ok_space_taken_all, ok_span_May, ok_space_pool_whole, ok_span_Less, ok_span_Both, ok_span_Add, trivial⟩
theorem hm_space_pool_may : ConMono K_space_pool_may := conMono_of sys_space_pool_may.con
noncomputable def k_space_pool_may_space_taken_all := PLift.up (call_fn (C := K_space_pool_may) (f := 81) (A := A_space_taken_all) (p := p_space_taken_all) (r := r_space_taken_all) rfl)
noncomputable def k_space_pool_may_span_May := PLift.up (call_scal (C := K_space_pool_may) (f := 70) (A := A_span_May) (p := p_span_May) (r := r_span_May) rfl)
noncomputable def k_space_pool_may_space_pool_whole := PLift.up (call_fn (C := K_space_pool_may) (f := 82) (A := A_space_pool_whole) (p := p_space_pool_whole) (r := r_space_pool_whole) rfl)
noncomputable def k_space_pool_may_span_Less := PLift.up (call_fn (C := K_space_pool_may) (f := 71) (A := A_span_Less) (p := p_span_Less) (r := r_span_Less) rfl)
noncomputable def k_space_pool_may_span_Both := PLift.up (call_fn (C := K_space_pool_may) (f := 83) (A := A_span_Both) (p := p_span_Both) (r := r_span_Both) rfl)
noncomputable def k_space_pool_may_span_Add := PLift.up (call_fn (C := K_space_pool_may) (f := 84) (A := A_span_Add) (p := p_span_Add) (r := r_span_Add) rfl)
def A_space_pool_may := Arms.cons (argA Tpool) Arms.nil
def p_space_pool_may (x : Tpool × Unit) : Prop := lenS x.1.taken.Space
def r_space_pool_may (x : Tpool × Unit) : AV := .t (.bool (okSp x.1.data x.1.taken.Space))
set_option maxRecDepth 100000 in
set_option maxHeartbeats 2000000 in
theorem body_space_pool_may (x : Tpool × Unit) (hp : p_space_pool_may x) : avp K_space_pool_may G_space_pool_may (Ret K_space_pool_may [.tmp 2] fun v _ => v = r_space_pool_may x) (entry (A_space_pool_may.enc x) .empty) := by
  obtain ⟨⟨⟨s⟩, n⟩, ⟨⟩⟩ := x
  change lenS s at hp
  change avp _ _ (Ret _ _ fun v s' => v = .t (.bool (okSp n s))) (entry [.agg ((plC ⟨⟨s⟩, n⟩).map .t)] .empty)
  unfold G_space_pool_may
  simp only [vP.down, vS.down, vE.down, qA, qB, qC, qD, qE, qF, qG, reduceIte, reduceCtorEq, qH, qI, qJ, ↓avp_condG, ↓tf_arrow, ↓ft_arrow, plC]
  intro g hg
  refine weak_at [(1, .imm (plC ⟨⟨s⟩, n⟩))] .empty fewer_empty (by
    simp only [vP.down, vS.down, vE.down, qA, qB, qC, qD, qE, qF, qG, reduceIte, reduceCtorEq, qH, qI, qJ, ↓avp_condG, ↓tf_arrow, ↓ft_arrow, wP.down]
    exact w2_imm (l := plC ⟨⟨s⟩, n⟩) (Store.set_same _ _ _) rfl) ?_
  have hno : dataOk n = false → okSp n s = false := fun h => by rw [okSp, h]; rfl
  by_cases c1 : n < 40
  · have e := hno (by rw [dataOk, decide_eq_false (by omega)]; rfl)
    simp only [vP.down, vS.down, vE.down, qA, qB, qC, qD, qE, qF, qG, reduceIte, reduceCtorEq, qH, qI, qJ, ↓avp_condG, ↓tf_arrow, ↓ft_arrow, plC, c1, gt_iff_lt, pick_of, pick_ot]
    simp only [vP.down, vS.down, vE.down, qA, qB, qC, qD, qE, qF, qG, reduceIte, reduceCtorEq, qH, qI, qJ, ↓avp_condG, ↓tf_arrow, ↓ft_arrow, vT.down, e]
  by_cases c2 : 240 < n
  · have e := hno (by rw [dataOk, decide_eq_false (by omega : ¬ n ≤ 240), Bool.and_false])
    simp only [vP.down, vS.down, vE.down, qA, qB, qC, qD, qE, qF, qG, reduceIte, reduceCtorEq, qH, qI, qJ, ↓avp_condG, ↓tf_arrow, ↓ft_arrow, plC, c1, c2, gt_iff_lt, pick_of, pick_ot]
    simp only [vP.down, vS.down, vE.down, qA, qB, qC, qD, qE, qF, qG, reduceIte, reduceCtorEq, qH, qI, qJ, ↓avp_condG, ↓tf_arrow, ↓ft_arrow, vT.down, e]
  have hd : dataOk n = true := dataOk_iff.2 ⟨by omega, by omega⟩
  simp only [vP.down, vS.down, vE.down, qA, qB, qC, qD, qE, qF, qG, reduceIte, reduceCtorEq, qH, qI, qJ, ↓avp_condG, ↓tf_arrow, ↓ft_arrow, plC, c1, c2, gt_iff_lt, pick_of, pick_ot]
  refine weak_at [(1, .imm (plC ⟨⟨s⟩, n⟩))] .empty fewer_refl (by simp only [vP.down, vS.down, vE.down, qA, qB, qC, qD, qE, qF, qG, reduceIte, reduceCtorEq, qH, qI, qJ, ↓avp_condG, ↓tf_arrow, ↓ft_arrow, wP.down, plC]) ?_
  simp only [vP.down, vS.down, vE.down, qA, qB, qC, qD, qE, qF, qG, reduceIte, reduceCtorEq, qH, qI, qJ, ↓avp_condG, ↓tf_arrow, ↓ft_arrow, plC, k_space_pool_may_space_taken_all.down, A_space_taken_all, p_space_taken_all, r_space_taken_all]
  refine loop_weak hm_space_pool_may (fun k σ => ∃ i : Nat, k = 4 - i ∧ i ≤ 4 ∧ (∀ j, j < i → fourOk n s j = true) ∧ σ = mkS [(1, .imm (plC ⟨⟨s⟩, n⟩)), (15, .agg ((spC s).map .t)), (16, .t (.int .i64 (i : Nat)))] .empty)
    ⟨0, rfl, by omega, by omega, rfl⟩ (wk_to fewer_refl (by simp only [vP.down, vS.down, vE.down, qA, qB, qC, qD, qE, qF, qG, reduceIte, reduceCtorEq, qH, qI, qJ, ↓avp_condG, ↓tf_arrow, ↓ft_arrow, wP.down, plC, Int.natCast_zero])) ?_
  rintro k _ ⟨i, rfl, hi, hlo, rfl⟩
  have hi1 : IntKind.i64.wrap ((i : Int) + 1) = ((i + 1 : Nat) : Int) := by rw [IntWalk.i64_in _ (by omega)]; rfl
  by_cases hlt : i < 4
  case neg =>
    obtain rfl : i = 4 := by omega
    have hge : ¬ ((4 : Int) < 4) := by omega
    have e := okSp_of hd hlo
    simp only [vP.down, vS.down, vE.down, qA, qB, qC, qD, qE, qF, qG, reduceIte, reduceCtorEq, qH, qI, qJ, ↓avp_condG, ↓tf_arrow, ↓ft_arrow, hge, show ((4 : Nat) : Int) = 4 from rfl]
    refine weak_at [(1, .imm (plC ⟨⟨s⟩, n⟩))] .empty fewer_refl (by simp only [vP.down, vS.down, vE.down, qA, qB, qC, qD, qE, qF, qG, reduceIte, reduceCtorEq, qH, qI, qJ, ↓avp_condG, ↓tf_arrow, ↓ft_arrow, wP.down]) ?_
    obtain ⟨l1, l2, l3, l4⟩ := hp
    have a1 := where_len .add s.Held s.One
    have p1 : s.Held.length + s.One.length ≤ 1099511627 := by omega
    have p2 : (whereL .add s.Held s.One).length + s.Two.length ≤ 1099511627 := by omega
    obtain ⟨b1, hb1⟩ : ∃ b, b = whereL .both s.Held s.One := ⟨_, rfl⟩
    obtain ⟨b2, hb2⟩ : ∃ b, b = whereL .both (whereL .add s.Held s.One) s.Two := ⟨_, rfl⟩
    rw [← hb1, ← hb2] at e
    by_cases c1 : b1 = []
    case neg =>
      have d1 : ((b1.length : Int) = 0) = False := eq_false fun h => c1 (len_nil.1 h)
      rw [decide_eq_false c1, Bool.false_and] at e
      simp only [vP.down, vS.down, vE.down, qA, qB, qC, qD, qE, qF, qG, reduceIte, reduceCtorEq, qH, qI, qJ, ↓avp_condG, ↓tf_arrow, ↓ft_arrow, plC, ← hb1, ← hb2, d1, p1, p2, pick_of, pick_ot, false_implies, k_space_pool_may_span_Both.down, A_span_Both, p_span_Both, r_span_Both, k_space_pool_may_span_Add.down, A_span_Add, p_span_Add, r_span_Add]
      simp only [vP.down, vS.down, vE.down, qA, qB, qC, qD, qE, qF, qG, reduceIte, reduceCtorEq, qH, qI, qJ, ↓avp_condG, ↓tf_arrow, ↓ft_arrow, vT.down, e]
    have d1 : ((b1.length : Int) = 0) = True := eq_true (len_nil.2 c1)
    have d2 : decide ((b2.length : Int) = 0) = decide (b2 = []) := decide_eq_decide.2 len_nil
    rw [decide_eq_true c1, Bool.true_and] at e
    simp only [vP.down, vS.down, vE.down, qA, qB, qC, qD, qE, qF, qG, reduceIte, reduceCtorEq, qH, qI, qJ, ↓avp_condG, ↓tf_arrow, ↓ft_arrow, plC, ← hb1, ← hb2, d1, d2, p1, p2, pick_of, pick_ot, false_implies, k_space_pool_may_span_Both.down, A_span_Both, p_span_Both, r_span_Both, k_space_pool_may_span_Add.down, A_span_Add, p_span_Add, r_span_Add]
    simp only [vP.down, vS.down, vE.down, qA, qB, qC, qD, qE, qF, qG, reduceIte, reduceCtorEq, qH, qI, qJ, ↓avp_condG, ↓tf_arrow, ↓ft_arrow, vT.down, e]
  have hlt' : (i : Int) < 4 := by omega
  have h40 : (0 : Int) ≤ (i : Int) := by omega
  have hdr := drop_sp (s := s) hlt
  simp only [vP.down, vS.down, vE.down, qA, qB, qC, qD, qE, qF, qG, reduceIte, reduceCtorEq, qH, qI, qJ, ↓avp_condG, ↓tf_arrow, ↓ft_arrow, hlt', h40, hdr, Nat.mul_one, Int.toNat_natCast]
  refine weak_at [(1, .imm (plC ⟨⟨s⟩, n⟩)), (4, .t (sl (at4 s i))), (15, .agg ((spC s).map .t)), (16, .t (.int .i64 (i : Nat)))] .empty fewer_refl (by simp only [vP.down, vS.down, vE.down, qA, qB, qC, qD, qE, qF, qG, reduceIte, reduceCtorEq, qH, qI, qJ, ↓avp_condG, ↓tf_arrow, ↓ft_arrow, wP.down, spC]) ?_
  have la := at4_len hp (i := i)
  have p1 : (at4 s i).length < 4611686018427387904 := by omega
  have p2 : (at4 s i).length + [(⟨14, 14 + n⟩ : TRun)].length ≤ 1099511627 := by
    show _ + 1 ≤ _
    omega
  have p3 : (at4 s i).length ≤ 1099511626 := by omega
  obtain ⟨q, hq⟩ : ∃ q, q = at4 s i := ⟨_, rfl⟩
  have hfo : fourOk n s i = (mayR (-1) q && decide (whereL .less q [⟨14, 14 + n⟩] = [])) := by rw [hq]; rfl
  rw [← hq] at p1 p2 p3 ⊢
  cases hm : mayR (-1) q with
  | false =>
    rw [hm, Bool.false_and] at hfo
    have e := okSp_no hd hlt hfo
    simp only [vP.down, vS.down, vE.down, qA, qB, qC, qD, qE, qF, qG, reduceIte, reduceCtorEq, qH, qI, qJ, ↓avp_condG, ↓tf_arrow, ↓ft_arrow, plC, hd, hm, p1, p2, p3, pick_of, pick_ot, false_implies, k_space_pool_may_span_May.down, A_span_May, p_span_May, r_span_May, k_space_pool_may_span_Less.down, A_span_Less, p_span_Less, r_span_Less, k_space_pool_may_space_pool_whole.down, A_space_pool_whole, p_space_pool_whole, r_space_pool_whole]
    simp only [vP.down, vS.down, vE.down, qA, qB, qC, qD, qE, qF, qG, reduceIte, reduceCtorEq, qH, qI, qJ, ↓avp_condG, ↓tf_arrow, ↓ft_arrow, vT.down, e]
  | true =>
  rw [hm, Bool.true_and] at hfo
  obtain ⟨b, hb⟩ : ∃ b, b = whereL .less q [⟨14, 14 + n⟩] := ⟨_, rfl⟩
  rw [← hb] at hfo
  by_cases c1 : b = []
  case neg =>
    rw [decide_eq_false c1] at hfo
    have e := okSp_no hd hlt hfo
    have d1 : (0 : Int) < (b.length : Int) := by
      have : ¬ ((b.length : Int) = 0) := fun h => c1 (len_nil.1 h)
      omega
    simp only [vP.down, vS.down, vE.down, qA, qB, qC, qD, qE, qF, qG, reduceIte, reduceCtorEq, qH, qI, qJ, ↓avp_condG, ↓tf_arrow, ↓ft_arrow, plC, hd, hm, p1, p2, p3, ← hb, d1, gt_iff_lt, pick_of, pick_ot, false_implies, k_space_pool_may_span_May.down, A_span_May, p_span_May, r_span_May, k_space_pool_may_span_Less.down, A_span_Less, p_span_Less, r_span_Less, k_space_pool_may_space_pool_whole.down, A_space_pool_whole, p_space_pool_whole, r_space_pool_whole]
    simp only [vP.down, vS.down, vE.down, qA, qB, qC, qD, qE, qF, qG, reduceIte, reduceCtorEq, qH, qI, qJ, ↓avp_condG, ↓tf_arrow, ↓ft_arrow, vT.down, e]
  rw [decide_eq_true c1] at hfo
  have d1 : ¬ (0 : Int) < (b.length : Int) := by
    have := len_nil.2 c1
    omega
  simp only [vP.down, vS.down, vE.down, qA, qB, qC, qD, qE, qF, qG, reduceIte, reduceCtorEq, qH, qI, qJ, ↓avp_condG, ↓tf_arrow, ↓ft_arrow, plC, hd, hm, p1, p2, p3, ← hb, d1, gt_iff_lt, pick_of, pick_ot, false_implies, k_space_pool_may_span_May.down, A_span_May, p_span_May, r_span_May, k_space_pool_may_span_Less.down, A_span_Less, p_span_Less, r_span_Less, k_space_pool_may_space_pool_whole.down, A_space_pool_whole, p_space_pool_whole, r_space_pool_whole]
  exact round_to (4 - (i + 1)) [(1, .imm (plC ⟨⟨s⟩, n⟩)), (15, .agg ((spC s).map .t)), (16, .t (.int .i64 (i + 1 : Nat)))] .empty (by omega) fewer_refl (by simp only [vP.down, vS.down, vE.down, qA, qB, qC, qD, qE, qF, qG, reduceIte, reduceCtorEq, qH, qI, qJ, ↓avp_condG, ↓tf_arrow, ↓ft_arrow, wP.down, hi1, spC, plC]) ⟨i + 1, rfl, by omega, fun j hj => (by
    by_cases hji : j = i
    · rw [hji]; exact hfo
    · exact hlo j (by omega)), rfl⟩
noncomputable def c_space_pool_may : Con := fnScal A_space_pool_may p_space_pool_may r_space_pool_may
theorem ok_space_pool_may : COk Try.prog 68 c_space_pool_may := fn_sok sys_space_pool_may mixed Try.func68 (by kernel_rfl) geq_space_pool_may Try.ntmps68 (by rw [Try.results68]) (fun x => by unfold r_space_pool_may; simp [AV.scal]) fun x hx => ⟨Nat.le_of_ble_eq_true rfl, body_space_pool_may x hx⟩
end Go.Proofs.Ytofcmdkmhbbbjaa
namespace Go.Proofs.Ytofcmdkmhbbbjaa
open Go Go.Eng
set_option maxRecDepth 100000
end Go.Proofs.Ytofcmdkmhbbbjaa
namespace Go.Proofs.Ytofcmdkmhbbbjaa
open Go Go.Eng
set_option maxRecDepth 100000
end Go.Proofs.Ytofcmdkmhbbbjaa
