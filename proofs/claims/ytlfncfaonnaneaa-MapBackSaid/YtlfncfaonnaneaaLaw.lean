/-
  MapBack.
-/
import Derived.Test.YtlfncfaonnaneaaFnsE
set_option linter.unusedSimpArgs false
set_option linter.unusedVariables false
namespace Go.Proofs.Ytlfncfaonnaneaa
open Go Go.Eng
def G_law9_MapBack_13 : GCode := .seq (.seq .weak (.region [⟨(some 68), none, .move (.tmp 9)⟩, ⟨(some 69), none, .binOp .add 3 (.tmp 68) (.const (.int .i64 7)) 3⟩, ⟨(some 70), none, .binOp .quo 3 (.tmp 69) (.const (.int .i64 8)) 3⟩, ⟨(some 71), none, .slice 35 (.tmp 6) none (some (.tmp 70)) none⟩, ⟨(some 72), none, .convert 22 9 (.tmp 71)⟩, ⟨(some 15), none, .assign (.tmp 72)⟩])) (.seq (.seq .weak (.region [⟨(some 73), none, .move (.tmp 9)⟩, ⟨(some 74), none, .binOp .add 3 (.tmp 73) (.const (.int .i64 7)) 3⟩, ⟨(some 75), none, .binOp .quo 3 (.tmp 74) (.const (.int .i64 8)) 3⟩, ⟨(some 76), none, .binOp .sub 3 (.tmp 75) (.const (.int .i64 1)) 3⟩, ⟨(some 77), none, .indexAddr 35 (.tmp 6) (.tmp 76)⟩, ⟨(some 78), none, .load 5 (.tmp 77)⟩, ⟨(some 16), none, .assign (.tmp 78)⟩])) (.seq (.seq .weak (.region [⟨(some 80), none, .move (.tmp 9)⟩, ⟨(some 81), none, .move (.tmp 15)⟩, ⟨(some 82), none, .call ⟨.value (.func 13), #[.tmp 80, .tmp 81], #[3, 9]⟩⟩, ⟨(some 79), none, .move (.tmp 82)⟩, ⟨(some 83), none, .extract (.tmp 79) 0⟩, ⟨(some 84), none, .extract (.tmp 79) 1⟩, ⟨(some 85), none, .extract (.tmp 79) 2⟩, ⟨(some 17), none, .assign (.tmp 83)⟩, ⟨(some 18), none, .assign (.tmp 84)⟩, ⟨(some 19), none, .assign (.tmp 85)⟩])) (.seq (.seq (.seq .weak (.region [⟨(some 86), none, .move (.tmp 9)⟩, ⟨(some 87), none, .binOp .rem 3 (.tmp 86) (.const (.int .i64 8)) 3⟩, ⟨(some 88), none, .binOp .gtr 3 (.tmp 87) (.const (.int .i64 0)) 3⟩, ⟨(some 89), none, .move (.tmp 88)⟩, ⟨(some 90), (some (89, true)), .move (.tmp 16)⟩, ⟨(some 91), (some (89, true)), .move (.tmp 9)⟩, ⟨(some 92), (some (89, true)), .binOp .rem 3 (.tmp 91) (.const (.int .i64 8)) 3⟩, ⟨(some 93), (some (89, true)), .binOp .shr 5 (.tmp 90) (.tmp 92) 3⟩, ⟨(some 94), (some (89, true)), .binOp .neq 5 (.tmp 93) (.const (.int .u8 0)) 5⟩, ⟨(some 95), none, .pick (.tmp 89) (.tmp 94) (.const (.bool false))⟩])) (.cond (.tmp 95) (.seq (.region [⟨(some 96), none, .move (.tmp 19)⟩, ⟨(some 97), none, .unOp .not 4 (.tmp 96)⟩, ⟨(some 8), none, .assign (.tmp 97)⟩]) (.ret)) (.skip))) (.seq (.seq .weak (.region [⟨(some 98), none, .move (.tmp 19)⟩, ⟨(some 99), none, .move (.tmp 98)⟩, ⟨(some 100), (some (99, true)), .move (.tmp 9)⟩, ⟨(some 101), (some (99, true)), .move (.tmp 17)⟩, ⟨(some 102), (some (99, true)), .call ⟨.value (.func 11), #[.tmp 100, .tmp 101], #[3, 23]⟩⟩, ⟨(some 103), (some (99, true)), .move (.tmp 15)⟩, ⟨(some 104), (some (99, true)), .binOp .eql 9 (.tmp 102) (.tmp 103) 9⟩, ⟨(some 105), none, .pick (.tmp 99) (.tmp 104) (.const (.bool false))⟩, ⟨(some 8), none, .assign (.tmp 105)⟩])) (.ret)))))
def G_law9_MapBack : GCode := .seq (.region [⟨(some 6), none, .box 35 (.tmp 2)⟩, ⟨(some 8), none, .assign (.const (.bool false))⟩]) (.seq (.seq (.seq .weak (.region [⟨(some 20), none, .call ⟨.value (.func 8), #[], #[]⟩⟩, ⟨(some 21), none, .unOp .not 4 (.tmp 20)⟩])) (.cond (.tmp 21) (.seq (.region [⟨(some 8), none, .assign (.const (.bool false))⟩]) (.ret)) (.skip))) (.seq (.seq (.region [⟨(some 22), none, .move (.tmp 0)⟩, ⟨(some 23), none, .call ⟨.builtin .len, #[.tmp 22], #[22]⟩⟩, ⟨(some 24), none, .binOp .gtr 3 (.tmp 23) (.const (.int .i64 20)) 3⟩, ⟨(some 25), none, .move (.tmp 24)⟩, ⟨(some 26), (some (25, false)), .move (.tmp 3)⟩, ⟨(some 27), (some (25, false)), .call ⟨.builtin .len, #[.tmp 26], #[9]⟩⟩, ⟨(some 28), (some (25, false)), .binOp .gtr 3 (.tmp 27) (.const (.int .i64 10)) 3⟩, ⟨(some 29), none, .pick (.tmp 25) (.const (.bool true)) (.tmp 28)⟩]) (.cond (.tmp 29) (.seq (.region [⟨(some 8), none, .assign (.const (.bool true))⟩]) (.ret)) (.skip))) (.seq (.seq .weak (.region [⟨(some 30), none, .move (.tmp 1)⟩, ⟨(some 31), none, .convert 5 3 (.tmp 30)⟩, ⟨(some 32), none, .binOp .rem 3 (.tmp 31) (.const (.int .i64 201)) 3⟩, ⟨(some 33), none, .binOp .add 3 (.const (.int .i64 40)) (.tmp 32) 3⟩, ⟨(some 9), none, .assign (.tmp 33)⟩])) (.seq (.seq .weak (.region [⟨(some 34), none, .move (.tmp 0)⟩, ⟨(some 35), none, .call ⟨.value (.func 9), #[.tmp 34], #[22]⟩⟩, ⟨(some 36), none, .call ⟨.value (.func 10), #[.tmp 35, .const (.int .i64 8)], #[25, 3]⟩⟩, ⟨(some 10), none, .assign (.tmp 36)⟩])) (.seq (.seq .weak (.region [⟨(some 37), none, .move (.tmp 9)⟩, ⟨(some 38), none, .move (.tmp 10)⟩, ⟨(some 39), none, .call ⟨.value (.func 11), #[.tmp 37, .tmp 38], #[3, 23]⟩⟩, ⟨(some 11), none, .assign (.tmp 39)⟩])) (.seq (.seq (.seq .weak (.region [⟨(some 40), none, .move (.tmp 11)⟩, ⟨(some 41), none, .call ⟨.builtin .len, #[.tmp 40], #[9]⟩⟩, ⟨(some 42), none, .move (.tmp 9)⟩, ⟨(some 43), none, .binOp .add 3 (.tmp 42) (.const (.int .i64 7)) 3⟩, ⟨(some 44), none, .binOp .quo 3 (.tmp 43) (.const (.int .i64 8)) 3⟩, ⟨(some 45), none, .binOp .neq 3 (.tmp 41) (.tmp 44) 3⟩])) (.cond (.tmp 45) (.seq (.region [⟨(some 8), none, .assign (.const (.bool false))⟩]) (.ret)) (.skip))) (.seq (.seq .weak (.region [⟨(some 47), none, .move (.tmp 9)⟩, ⟨(some 48), none, .move (.tmp 11)⟩, ⟨(some 49), none, .move (.tmp 3)⟩, ⟨(some 50), none, .binOp .add 9 (.tmp 48) (.tmp 49) 9⟩, ⟨(some 51), none, .call ⟨.value (.func 13), #[.tmp 47, .tmp 50], #[3, 9]⟩⟩, ⟨(some 46), none, .move (.tmp 51)⟩, ⟨(some 52), none, .extract (.tmp 46) 0⟩, ⟨(some 53), none, .extract (.tmp 46) 1⟩, ⟨(some 54), none, .extract (.tmp 46) 2⟩, ⟨(some 12), none, .assign (.tmp 52)⟩, ⟨(some 13), none, .assign (.tmp 53)⟩, ⟨(some 14), none, .assign (.tmp 54)⟩])) (.seq (.seq (.seq .weak (.region [⟨(some 55), none, .move (.tmp 14)⟩, ⟨(some 56), none, .unOp .not 4 (.tmp 55)⟩, ⟨(some 57), none, .move (.tmp 56)⟩, ⟨(some 58), (some (57, false)), .move (.tmp 13)⟩, ⟨(some 59), (some (57, false)), .move (.tmp 3)⟩, ⟨(some 60), (some (57, false)), .binOp .neq 9 (.tmp 58) (.tmp 59) 9⟩, ⟨(some 61), none, .pick (.tmp 57) (.const (.bool true)) (.tmp 60)⟩, ⟨(some 62), none, .move (.tmp 61)⟩, ⟨(some 63), (some (62, false)), .move (.tmp 10)⟩, ⟨(some 64), (some (62, false)), .move (.tmp 12)⟩, ⟨(some 65), (some (62, false)), .call ⟨.value (.func 15), #[.tmp 63, .tmp 64], #[23, 23]⟩⟩, ⟨(some 66), (some (62, false)), .unOp .not 4 (.tmp 65)⟩, ⟨(some 67), none, .pick (.tmp 62) (.const (.bool true)) (.tmp 66)⟩])) (.cond (.tmp 67) (.seq (.region [⟨(some 8), none, .assign (.const (.bool false))⟩]) (.ret)) (.skip))) (G_law9_MapBack_13)))))))))
noncomputable def l_law9_MapBack : List (Nat × Con) := [(8, c_law9_begun), (9, c_made_Made), (10, c_made_Picks_Runs), (11, c_smap_Put), (13, c_smap_Take), (15, c_ref8_Same)]
noncomputable abbrev K_law9_MapBack : Ctx := ctx (cl l_law9_MapBack)
theorem geq_law9_MapBack : gof K_law9_MapBack Try.f4 = some G_law9_MapBack.strip := by kernel_rfl
theorem sys_law9_MapBack : Go.Eng.Sys Try.prog K_law9_MapBack := sys_of' ⟨ok_law9_begun, ok_made_Made, ok_made_Picks_Runs, ok_smap_Put, ok_smap_Take, ok_ref8_Same, trivial⟩
theorem hm_law9_MapBack : ConMono K_law9_MapBack := conMono_of sys_law9_MapBack.con
noncomputable def k_law9_MapBack_law9_begun := PLift.up (call_scal (C := K_law9_MapBack) (f := 8) (A := A_law9_begun) (p := p_law9_begun) (r := r_law9_begun) rfl)
noncomputable def k_law9_MapBack_made_Made := PLift.up (call_new (C := K_law9_MapBack) (f := 9) (c := q_made_Made) (e := e_made_Made) (mk := mk_made_Made) rfl)
noncomputable def k_law9_MapBack_made_Picks_Runs := PLift.up (call_gen (C := K_law9_MapBack) (f := 10) (modes := m_made_Picks_Runs) (F := F_made_Picks_Runs) rfl)
noncomputable def k_law9_MapBack_smap_Put := PLift.up (call_scal (C := K_law9_MapBack) (f := 11) (A := A_smap_Put) (p := p_smap_Put) (r := r_smap_Put) rfl)
noncomputable def k_law9_MapBack_smap_Take := PLift.up (call_fn (C := K_law9_MapBack) (f := 13) (A := A_smap_Take) (p := p_smap_Take) (r := r_smap_Take) rfl)
noncomputable def k_law9_MapBack_ref8_Same := PLift.up (call_scal (C := K_law9_MapBack) (f := 15) (A := A_ref8_Same) (p := p_ref8_Same) (r := r_ref8_Same) rfl)
set_option maxRecDepth 100000 in
set_option maxHeartbeats 4000000 in
theorem back_13 {n : Nat} {B : List Byt} (hn : 40 ≤ n ∧ n ≤ 240) (hB : B.length = 30) {g : Nat} {σ : St}
    (hσ : Wk σ (mkS [(6, .ptr g 0), (9, .t (.int .i64 (n : Nat)))] (Store.empty.set g (some (.box ((B.map Go.Eng.one).map AV.t) false))))) :
    avp K_law9_MapBack G_law9_MapBack_13 (Ret K_law9_MapBack [.tmp 8] fun v _ => v = .t (.bool true)) σ := by
  unfold G_law9_MapBack_13
  simp only [avp_seq]
  refine ⟨_, hσ, ?_⟩
  have w2 : IntKind.i64.wrap ((n : Int) + 7) = ((n + 7 : Nat) : Int) := by rw [IntWalk.i64_in _ (by omega)]; omega
  have w3 := tdiv_nat (n + 7)
  have w4 : IntKind.i64.wrap (((n + 7) / 8 : Nat) : Int) = (((n + 7) / 8 : Nat) : Int) := IntWalk.i64_in _ (by omega)
  have hN : (n + 7) / 8 ≤ B.length := by omega
  have hl := txt_len hN
  have hd : dataOk n = true := dataOk_iff.2 (by omega)
  have hok := txt_ok hd hN
  have hcv : convB K_law9_MapBack (Store.empty.set g (some (.box ((B.map Go.Eng.one).map AV.t) false))) 22 9 (.btok g 1 0 ((n + 7) / 8)) = .val True (.t (.str (txt B n))) := conv_btok ty_Luint8 ty_string ty_uint8 (Store.set_same _ _ _) hN
  have c0 : (0 : Int) ≤ (((n + 7) / 8 : Nat) : Int) := by omega
  have c30 : (((n + 7) / 8 : Nat) : Int) ≤ 30 := by omega
  obtain ⟨t, ht⟩ : ∃ t, t = txt B n := ⟨_, rfl⟩
  rw [← ht] at hl hok hcv
  simp only [vP.down, vS.down, vE.down, Nat.reduceEqDiff, Nat.reduceAdd, Nat.reduceSub, Nat.reduceMul, Nat.reduceLeDiff, Nat.reduceLT, Int.reduceToNat, reduceIte, reduceCtorEq, Int.reduceEq, Int.reduceLT, Int.reduceLE, ↓avp_condG, ↓tf_arrow, ↓ft_arrow, w2, w3, w4, c0, c30, hcv, Int.toNat_natCast]
  refine weak_at [(6, .imm (B.map Go.Eng.one)), (9, .t (.int .i64 (n : Nat))), (15, .t (.str t))] .empty fewer_empty (by
    simp only [vP.down, vS.down, vE.down, Nat.reduceEqDiff, Nat.reduceAdd, Nat.reduceSub, Nat.reduceMul, Nat.reduceLeDiff, Nat.reduceLT, Int.reduceToNat, reduceIte, reduceCtorEq, Int.reduceEq, Int.reduceLT, Int.reduceLE, ↓avp_condG, ↓tf_arrow, ↓ft_arrow, wP.down]
    exact w2_imm (Store.set_same _ _ _) rfl) ?_
  have w5 : IntKind.i64.wrap ((((n + 7) / 8 : Nat) : Int) - 1) = (((n + 7) / 8 - 1 : Nat) : Int) := by rw [IntWalk.i64_in _ (by omega)]; omega
  have d0 : (0 : Int) ≤ (((n + 7) / 8 - 1 : Nat) : Int) := by omega
  have d30 : (((n + 7) / 8 - 1 : Nat) : Int) < 30 := by omega
  have hdr := drop_imm (C := B) (j := (n + 7) / 8 - 1) (by omega)
  obtain ⟨x, hx⟩ : ∃ x, x = (B.getD ((n + 7) / 8 - 1) default).v := ⟨_, rfl⟩
  rw [← hx] at hok hdr
  simp only [vP.down, vS.down, vE.down, Nat.reduceEqDiff, Nat.reduceAdd, Nat.reduceSub, Nat.reduceMul, Nat.reduceLeDiff, Nat.reduceLT, Int.reduceToNat, reduceIte, reduceCtorEq, Int.reduceEq, Int.reduceLT, Int.reduceLE, ↓avp_condG, ↓tf_arrow, ↓ft_arrow, w2, w3, w4, w5, d0, d30, hdr, Int.toNat_natCast, Nat.mul_one]
  refine weak_at [(9, .t (.int .i64 (n : Nat))), (15, .t (.str t)), (16, .t (.int .u8 (x.toNat : Int)))] .empty fewer_refl (by simp only [vP.down, vS.down, vE.down, Nat.reduceEqDiff, Nat.reduceAdd, Nat.reduceSub, Nat.reduceMul, Nat.reduceLeDiff, Nat.reduceLT, Int.reduceToNat, reduceIte, reduceCtorEq, Int.reduceEq, Int.reduceLT, Int.reduceLE, ↓avp_condG, ↓tf_arrow, ↓ft_arrow, wP.down]) ?_
  have pt : t.length ≤ 1000000 := by omega
  simp only [vP.down, vS.down, vE.down, Nat.reduceEqDiff, Nat.reduceAdd, Nat.reduceSub, Nat.reduceMul, Nat.reduceLeDiff, Nat.reduceLT, Int.reduceToNat, reduceIte, reduceCtorEq, Int.reduceEq, Int.reduceLT, Int.reduceLE, ↓avp_condG, ↓tf_arrow, ↓ft_arrow, pt, k_law9_MapBack_smap_Take.down, A_smap_Take, p_smap_Take, r_smap_Take]
  have hp := put_took (n := n) (s := t)
  have h2 := fun h => (took (n := n) (s := t) h).2.2.1
  have h3 : takeOkM n t = false → (takeM n t).2.2 = false := fun h => by rw [takeM, if_neg (by rw [h]; simp)]
  obtain ⟨l, hlT⟩ : ∃ l, l = (takeM n t).1 := ⟨_, rfl⟩
  obtain ⟨b, hbT⟩ : ∃ b, b = (takeM n t).2.2 := ⟨_, rfl⟩
  have hll : l.length ≤ 1000 := hlT ▸ take_len9
  have pl : l.length ≤ 1000000 := by omega
  rw [← hlT] at hp
  rw [← hbT] at h2 h3
  rw [List.take_of_length_le (by omega)] at hp
  simp only [vP.down, vS.down, vE.down, Nat.reduceEqDiff, Nat.reduceAdd, Nat.reduceSub, Nat.reduceMul, Nat.reduceLeDiff, Nat.reduceLT, Int.reduceToNat, reduceIte, reduceCtorEq, Int.reduceEq, Int.reduceLT, Int.reduceLE, ↓avp_condG, ↓tf_arrow, ↓ft_arrow, ← hlT, ← hbT]
  refine weak_at [(9, .t (.int .i64 (n : Nat))), (15, .t (.str t)), (16, .t (.int .u8 (x.toNat : Int))), (17, .t (sl l)), (19, .t (.bool b))] .empty fewer_refl (by simp only [vP.down, vS.down, vE.down, Nat.reduceEqDiff, Nat.reduceAdd, Nat.reduceSub, Nat.reduceMul, Nat.reduceLeDiff, Nat.reduceLT, Int.reduceToNat, reduceIte, reduceCtorEq, Int.reduceEq, Int.reduceLT, Int.reduceLE, ↓avp_condG, ↓tf_arrow, ↓ft_arrow, wP.down]) ?_
  have u5 := tmod_nat n
  have u6 : IntKind.i64.wrap ((n % 8 : Nat) : Int) = ((n % 8 : Nat) : Int) := IntWalk.i64_in _ (by omega)
  have e0 : (0 : Int) ≤ ((n % 8 : Nat) : Int) := by omega
  simp only [vP.down, vS.down, vE.down, Nat.reduceEqDiff, Nat.reduceAdd, Nat.reduceSub, Nat.reduceMul, Nat.reduceLeDiff, Nat.reduceLT, Int.reduceToNat, reduceIte, reduceCtorEq, Int.reduceEq, Int.reduceLT, Int.reduceLE, ↓avp_condG, ↓tf_arrow, ↓ft_arrow, u5, u6, e0, gt_iff_lt, pick_of, pick_ot]
  refine ⟨fun ⟨a1, a2⟩ => ?_, fun a => ?_⟩
  · rw [decide_eq_false (by omega), decide_eq_false a2] at hok
    have e : b = false := h3 hok
    simp only [vP.down, vS.down, vE.down, Nat.reduceEqDiff, Nat.reduceAdd, Nat.reduceSub, Nat.reduceMul, Nat.reduceLeDiff, Nat.reduceLT, Int.reduceToNat, reduceIte, reduceCtorEq, Int.reduceEq, Int.reduceLT, Int.reduceLE, ↓avp_condG, ↓tf_arrow, ↓ft_arrow, vT.down, e]
  have hok' : takeOkM n t = true := by
    rw [hok]
    by_cases a1 : n % 8 = 0
    · rw [decide_eq_true a1]; rfl
    · rw [decide_eq_true (a (by omega)), Bool.or_true]
  have e : b = true := h2 hok'
  have e2 := hp hok'
  refine weak_at [(9, .t (.int .i64 (n : Nat))), (15, .t (.str t)), (17, .t (sl l)), (19, .t (.bool true))] .empty fewer_refl (by simp only [vP.down, vS.down, vE.down, Nat.reduceEqDiff, Nat.reduceAdd, Nat.reduceSub, Nat.reduceMul, Nat.reduceLeDiff, Nat.reduceLT, Int.reduceToNat, reduceIte, reduceCtorEq, Int.reduceEq, Int.reduceLT, Int.reduceLE, ↓avp_condG, ↓tf_arrow, ↓ft_arrow, wP.down, e]) ?_
  simp only [vP.down, vS.down, vE.down, Nat.reduceEqDiff, Nat.reduceAdd, Nat.reduceSub, Nat.reduceMul, Nat.reduceLeDiff, Nat.reduceLT, Int.reduceToNat, reduceIte, reduceCtorEq, Int.reduceEq, Int.reduceLT, Int.reduceLE, ↓avp_condG, ↓tf_arrow, ↓ft_arrow, pl, e2, pick_of, pick_ot, k_law9_MapBack_smap_Put.down, A_smap_Put, p_smap_Put, r_smap_Put]
  simp only [vP.down, vS.down, vE.down, Nat.reduceEqDiff, Nat.reduceAdd, Nat.reduceSub, Nat.reduceMul, Nat.reduceLeDiff, Nat.reduceLT, Int.reduceToNat, reduceIte, reduceCtorEq, Int.reduceEq, Int.reduceLT, Int.reduceLE, ↓avp_condG, ↓tf_arrow, ↓ft_arrow, vT.down]
noncomputable def A_law9_MapBack : Arms ((List Byt) × Byt × (Byt × Byt × Byt × Byt × Byt × Byt × Byt × Byt × Byt × Byt × Byt × Byt × Byt × Byt × Byt × Byt × Byt × Byt × Byt × Byt × Byt × Byt × Byt × Byt × Byt × Byt × Byt × Byt × Byt × Byt) × (List UInt8) × Unit) := Arms.cons (argT (List Byt)) (Arms.cons (argT Byt) (Arms.cons (argA (Byt × Byt × Byt × Byt × Byt × Byt × Byt × Byt × Byt × Byt × Byt × Byt × Byt × Byt × Byt × Byt × Byt × Byt × Byt × Byt × Byt × Byt × Byt × Byt × Byt × Byt × Byt × Byt × Byt × Byt)) (Arms.cons (argT (List UInt8)) (Arms.nil))))
def p_law9_MapBack (x : (List Byt) × Byt × (Byt × Byt × Byt × Byt × Byt × Byt × Byt × Byt × Byt × Byt × Byt × Byt × Byt × Byt × Byt × Byt × Byt × Byt × Byt × Byt × Byt × Byt × Byt × Byt × Byt × Byt × Byt × Byt × Byt × Byt) × (List UInt8) × Unit) : Prop := (goodList (fun x : Byt => goodAny x) x.1) ∧ (goodAny x.2.1) ∧ ((goodAny x.2.2.1.1 ∧ (goodAny x.2.2.1.2.1 ∧ (goodAny x.2.2.1.2.2.1 ∧ (goodAny x.2.2.1.2.2.2.1 ∧ (goodAny x.2.2.1.2.2.2.2.1 ∧ (goodAny x.2.2.1.2.2.2.2.2.1 ∧ (goodAny x.2.2.1.2.2.2.2.2.2.1 ∧ (goodAny x.2.2.1.2.2.2.2.2.2.2.1 ∧ (goodAny x.2.2.1.2.2.2.2.2.2.2.2.1 ∧ (goodAny x.2.2.1.2.2.2.2.2.2.2.2.2.1 ∧ (goodAny x.2.2.1.2.2.2.2.2.2.2.2.2.2.1 ∧ (goodAny x.2.2.1.2.2.2.2.2.2.2.2.2.2.2.1 ∧ (goodAny x.2.2.1.2.2.2.2.2.2.2.2.2.2.2.2.1 ∧ (goodAny x.2.2.1.2.2.2.2.2.2.2.2.2.2.2.2.2.1 ∧ (goodAny x.2.2.1.2.2.2.2.2.2.2.2.2.2.2.2.2.2.1 ∧ (goodAny x.2.2.1.2.2.2.2.2.2.2.2.2.2.2.2.2.2.2.1 ∧ (goodAny x.2.2.1.2.2.2.2.2.2.2.2.2.2.2.2.2.2.2.2.1 ∧ (goodAny x.2.2.1.2.2.2.2.2.2.2.2.2.2.2.2.2.2.2.2.2.1 ∧ (goodAny x.2.2.1.2.2.2.2.2.2.2.2.2.2.2.2.2.2.2.2.2.2.1 ∧ (goodAny x.2.2.1.2.2.2.2.2.2.2.2.2.2.2.2.2.2.2.2.2.2.2.1 ∧ (goodAny x.2.2.1.2.2.2.2.2.2.2.2.2.2.2.2.2.2.2.2.2.2.2.2.1 ∧ (goodAny x.2.2.1.2.2.2.2.2.2.2.2.2.2.2.2.2.2.2.2.2.2.2.2.2.1 ∧ (goodAny x.2.2.1.2.2.2.2.2.2.2.2.2.2.2.2.2.2.2.2.2.2.2.2.2.2.1 ∧ (goodAny x.2.2.1.2.2.2.2.2.2.2.2.2.2.2.2.2.2.2.2.2.2.2.2.2.2.2.1 ∧ (goodAny x.2.2.1.2.2.2.2.2.2.2.2.2.2.2.2.2.2.2.2.2.2.2.2.2.2.2.2.1 ∧ (goodAny x.2.2.1.2.2.2.2.2.2.2.2.2.2.2.2.2.2.2.2.2.2.2.2.2.2.2.2.2.1 ∧ (goodAny x.2.2.1.2.2.2.2.2.2.2.2.2.2.2.2.2.2.2.2.2.2.2.2.2.2.2.2.2.2.1 ∧ (goodAny x.2.2.1.2.2.2.2.2.2.2.2.2.2.2.2.2.2.2.2.2.2.2.2.2.2.2.2.2.2.2.1 ∧ (goodAny x.2.2.1.2.2.2.2.2.2.2.2.2.2.2.2.2.2.2.2.2.2.2.2.2.2.2.2.2.2.2.2.1 ∧ (goodAny x.2.2.1.2.2.2.2.2.2.2.2.2.2.2.2.2.2.2.2.2.2.2.2.2.2.2.2.2.2.2.2.2))))))))))))))))))))))))))))))) ∧ (goodStr x.2.2.2.1) ∧ goodAny (x.2.2.2.2)
abbrev r_law9_MapBack (x : (List Byt) × Byt × (Byt × Byt × Byt × Byt × Byt × Byt × Byt × Byt × Byt × Byt × Byt × Byt × Byt × Byt × Byt × Byt × Byt × Byt × Byt × Byt × Byt × Byt × Byt × Byt × Byt × Byt × Byt × Byt × Byt × Byt) × (List UInt8) × Unit) : AV := rTrue x
theorem rd_law9_MapBack : ReadsA Try.prog [22, 5, 35, 9] A_law9_MapBack p_law9_MapBack := (readsA_T (reads_list Try.underlying22 (reads_u8 Try.underlying5) (by kernel_rfl) (by decide)) (by kernel_rfl) (readsA_T (reads_u8 Try.underlying5) (by kernel_rfl) (readsA_A (reads_arr Try.underlying35 (by kernel_rfl) (readsL_cons (reads_u8 Try.underlying5) (by kernel_rfl) (readsL_cons (reads_u8 Try.underlying5) (by kernel_rfl) (readsL_cons (reads_u8 Try.underlying5) (by kernel_rfl) (readsL_cons (reads_u8 Try.underlying5) (by kernel_rfl) (readsL_cons (reads_u8 Try.underlying5) (by kernel_rfl) (readsL_cons (reads_u8 Try.underlying5) (by kernel_rfl) (readsL_cons (reads_u8 Try.underlying5) (by kernel_rfl) (readsL_cons (reads_u8 Try.underlying5) (by kernel_rfl) (readsL_cons (reads_u8 Try.underlying5) (by kernel_rfl) (readsL_cons (reads_u8 Try.underlying5) (by kernel_rfl) (readsL_cons (reads_u8 Try.underlying5) (by kernel_rfl) (readsL_cons (reads_u8 Try.underlying5) (by kernel_rfl) (readsL_cons (reads_u8 Try.underlying5) (by kernel_rfl) (readsL_cons (reads_u8 Try.underlying5) (by kernel_rfl) (readsL_cons (reads_u8 Try.underlying5) (by kernel_rfl) (readsL_cons (reads_u8 Try.underlying5) (by kernel_rfl) (readsL_cons (reads_u8 Try.underlying5) (by kernel_rfl) (readsL_cons (reads_u8 Try.underlying5) (by kernel_rfl) (readsL_cons (reads_u8 Try.underlying5) (by kernel_rfl) (readsL_cons (reads_u8 Try.underlying5) (by kernel_rfl) (readsL_cons (reads_u8 Try.underlying5) (by kernel_rfl) (readsL_cons (reads_u8 Try.underlying5) (by kernel_rfl) (readsL_cons (reads_u8 Try.underlying5) (by kernel_rfl) (readsL_cons (reads_u8 Try.underlying5) (by kernel_rfl) (readsL_cons (reads_u8 Try.underlying5) (by kernel_rfl) (readsL_cons (reads_u8 Try.underlying5) (by kernel_rfl) (readsL_cons (reads_u8 Try.underlying5) (by kernel_rfl) (readsL_cons (reads_u8 Try.underlying5) (by kernel_rfl) (readsL_cons (reads_u8 Try.underlying5) (by kernel_rfl) (readsL_one (reads_u8 Try.underlying5) (by kernel_rfl)))))))))))))))))))))))))))))))) (by kernel_rfl) (readsA_T (reads_str Try.underlying9) (by kernel_rfl) readsA_nil))))
set_option maxRecDepth 100000 in
set_option maxHeartbeats 4000000 in
theorem body_law9_MapBack (x) (hx : p_law9_MapBack x) : avp K_law9_MapBack G_law9_MapBack (Ret K_law9_MapBack [.tmp 8] fun v _ => v = r_law9_MapBack x) (entry (A_law9_MapBack.enc x) .empty) := by
  obtain ⟨a, ⟨k⟩, t, s, ⟨⟩⟩ := x
  obtain ⟨B, hB, hE⟩ := arr30 t
  change avp _ _ (Ret _ _ fun v _ => v = .t (.bool true)) (entry [.t (sl a), .t (.int .u8 (k.toNat : Int)), .agg ((Cell.enc t).map .t), .t (.str s)] .empty)
  rw [hE]
  have hBl : ((B.map Go.Eng.one).map AV.t).length = 30 := by rw [List.length_map, List.length_map, hB]
  unfold G_law9_MapBack
  simp only [vP.down, vS.down, vE.down, Nat.reduceEqDiff, Nat.reduceAdd, Nat.reduceSub, Nat.reduceMul, Nat.reduceLeDiff, Nat.reduceLT, Int.reduceToNat, reduceIte, reduceCtorEq, Int.reduceEq, Int.reduceLT, Int.reduceLE, ↓avp_condG, ↓tf_arrow, ↓ft_arrow, hBl]
  intro g hg
  obtain ⟨X, hX⟩ : ∃ X, X = (B.map Go.Eng.one).map AV.t := ⟨_, rfl⟩
  rw [← hX]
  refine weak_at [(0, .t (sl a)), (1, .t (.int .u8 (k.toNat : Int))), (3, .t (.str s)), (6, .ptr g 0)] (Store.empty.set g (some (.box X false))) fewer_refl (by simp only [vP.down, vS.down, vE.down, Nat.reduceEqDiff, Nat.reduceAdd, Nat.reduceSub, Nat.reduceMul, Nat.reduceLeDiff, Nat.reduceLT, Int.reduceToNat, reduceIte, reduceCtorEq, Int.reduceEq, Int.reduceLT, Int.reduceLE, ↓avp_condG, ↓tf_arrow, ↓ft_arrow, wP.down]) ?_
  by_cases c1 : (20 : Int) < (a.length : Int)
  · simp only [vP.down, vS.down, vE.down, Nat.reduceEqDiff, Nat.reduceAdd, Nat.reduceSub, Nat.reduceMul, Nat.reduceLeDiff, Nat.reduceLT, Int.reduceToNat, reduceIte, reduceCtorEq, Int.reduceEq, Int.reduceLT, Int.reduceLE, ↓avp_condG, ↓tf_arrow, ↓ft_arrow, k_law9_MapBack_law9_begun.down, A_law9_begun, p_law9_begun, r_law9_begun, c1, gt_iff_lt, pick_of, pick_ot]
    simp only [vP.down, vS.down, vE.down, Nat.reduceEqDiff, Nat.reduceAdd, Nat.reduceSub, Nat.reduceMul, Nat.reduceLeDiff, Nat.reduceLT, Int.reduceToNat, reduceIte, reduceCtorEq, Int.reduceEq, Int.reduceLT, Int.reduceLE, ↓avp_condG, ↓tf_arrow, ↓ft_arrow, vT.down]
  by_cases c2 : (10 : Int) < (s.length : Int)
  · simp only [vP.down, vS.down, vE.down, Nat.reduceEqDiff, Nat.reduceAdd, Nat.reduceSub, Nat.reduceMul, Nat.reduceLeDiff, Nat.reduceLT, Int.reduceToNat, reduceIte, reduceCtorEq, Int.reduceEq, Int.reduceLT, Int.reduceLE, ↓avp_condG, ↓tf_arrow, ↓ft_arrow, k_law9_MapBack_law9_begun.down, A_law9_begun, p_law9_begun, r_law9_begun, c1, c2, gt_iff_lt, pick_of, pick_ot]
    simp only [vP.down, vS.down, vE.down, Nat.reduceEqDiff, Nat.reduceAdd, Nat.reduceSub, Nat.reduceMul, Nat.reduceLeDiff, Nat.reduceLT, Int.reduceToNat, reduceIte, reduceCtorEq, Int.reduceEq, Int.reduceLT, Int.reduceLE, ↓avp_condG, ↓tf_arrow, ↓ft_arrow, vT.down]
  have k8 := k.toNat_lt
  have w1 : IntKind.i64.wrap (k.toNat : Int) = (k.toNat : Int) := IntWalk.i64_in _ (by omega)
  have w2 : (k.toNat : Int).tmod 201 = ((k.toNat % 201 : Nat) : Int) := by
    rw [Int.tmod_eq_emod_of_nonneg (by omega)]; exact (Int.natCast_emod k.toNat 201).symm
  have w3 : IntKind.i64.wrap ((k.toNat % 201 : Nat) : Int) = ((k.toNat % 201 : Nat) : Int) := IntWalk.i64_in _ (by omega)
  obtain ⟨n, hn⟩ : ∃ n, n = 40 + k.toNat % 201 := ⟨_, rfl⟩
  have w4 : IntKind.i64.wrap (40 + ((k.toNat % 201 : Nat) : Int)) = (n : Int) := by rw [IntWalk.i64_in _ (by omega)]; omega
  have hn1 : 40 ≤ n ∧ n ≤ 240 := by omega
  simp only [vP.down, vS.down, vE.down, Nat.reduceEqDiff, Nat.reduceAdd, Nat.reduceSub, Nat.reduceMul, Nat.reduceLeDiff, Nat.reduceLT, Int.reduceToNat, reduceIte, reduceCtorEq, Int.reduceEq, Int.reduceLT, Int.reduceLE, ↓avp_condG, ↓tf_arrow, ↓ft_arrow, k_law9_MapBack_law9_begun.down, A_law9_begun, p_law9_begun, r_law9_begun, c1, c2, w1, w2, w3, w4, gt_iff_lt, pick_of, pick_ot]
  refine weak_at [(0, .t (sl a)), (1, .t (.int .u8 (k.toNat : Int))), (3, .t (.str s)), (6, .ptr g 0)] (Store.empty.set g (some (.box X false))) fewer_refl (by simp only [vP.down, vS.down, vE.down, Nat.reduceEqDiff, Nat.reduceAdd, Nat.reduceSub, Nat.reduceMul, Nat.reduceLeDiff, Nat.reduceLT, Int.reduceToNat, reduceIte, reduceCtorEq, Int.reduceEq, Int.reduceLT, Int.reduceLE, ↓avp_condG, ↓tf_arrow, ↓ft_arrow, wP.down]) ?_
  simp only [vP.down, vS.down, vE.down, Nat.reduceEqDiff, Nat.reduceAdd, Nat.reduceSub, Nat.reduceMul, Nat.reduceLeDiff, Nat.reduceLT, Int.reduceToNat, reduceIte, reduceCtorEq, Int.reduceEq, Int.reduceLT, Int.reduceLE, ↓avp_condG, ↓tf_arrow, ↓ft_arrow, w1, w2, w3, w4]
  refine weak_at [(0, .t (sl a)), (3, .t (.str s)), (6, .ptr g 0), (9, .t (.int .i64 (n : Nat)))] (Store.empty.set g (some (.box X false))) fewer_refl (by simp only [vP.down, vS.down, vE.down, Nat.reduceEqDiff, Nat.reduceAdd, Nat.reduceSub, Nat.reduceMul, Nat.reduceLeDiff, Nat.reduceLT, Int.reduceToNat, reduceIte, reduceCtorEq, Int.reduceEq, Int.reduceLT, Int.reduceLE, ↓avp_condG, ↓tf_arrow, ↓ft_arrow, wP.down]) ?_
  simp only [vP.down, vS.down, vE.down, Nat.reduceEqDiff, Nat.reduceAdd, Nat.reduceSub, Nat.reduceMul, Nat.reduceLeDiff, Nat.reduceLT, Int.reduceToNat, reduceIte, reduceCtorEq, Int.reduceEq, Int.reduceLT, Int.reduceLE, ↓avp_condG, ↓tf_arrow, ↓ft_arrow, k_law9_MapBack_made_Made.down, q_made_Made, e_made_Made, mk_made_Made, k_law9_MapBack_made_Picks_Runs.down, m_made_Picks_Runs]
  refine ⟨⟨a, rfl⟩, fun g1 hg1 => ?_⟩
  refine runs_any (pk_new hg1 (by omega)) (by omega) (by omega) fun v1 S1 x hv1 hx H1 _ => ?_
  have n1 := Store.ne_new hg1
  have f1 : S1.f g = some (.box X false) := H1.keep ((Store.set_other _ _ n1.symm).trans (Store.set_same _ _ _)) n1.symm
  refine weak_at [(3, .t (.str s)), (6, .ptr g 0), (9, .t (.int .i64 (n : Nat))), (10, .t (sl x))] (Store.empty.set g (some (.box X false))) (fewer_sub fun j e hk => by
    by_cases h : j = g
    · subst h; rw [Store.set_same] at hk; rw [← hk]; exact f1
    · rw [Store.set_other _ _ h] at hk; cases hk) (by
    simp only [vP.down, vS.down, vE.down, Nat.reduceEqDiff, Nat.reduceAdd, Nat.reduceSub, Nat.reduceMul, Nat.reduceLeDiff, Nat.reduceLT, Int.reduceToNat, reduceIte, reduceCtorEq, Int.reduceEq, Int.reduceLT, Int.reduceLE, ↓avp_condG, ↓tf_arrow, ↓ft_arrow, wP.down]
    exact hv1.w2 fun j hj => Store.set_other _ _ fun hh => hj (hh ▸ hv1.notbox f1)) ?_
  clear H1 hv1 f1 n1 hg1
  have hd : dataOk (n : Int) = true := dataOk_iff.2 (by omega)
  have ox := hx.ok9 hd
  have lx := hx.len
  have px : x.length ≤ 1000000 := by omega
  simp only [vP.down, vS.down, vE.down, Nat.reduceEqDiff, Nat.reduceAdd, Nat.reduceSub, Nat.reduceMul, Nat.reduceLeDiff, Nat.reduceLT, Int.reduceToNat, reduceIte, reduceCtorEq, Int.reduceEq, Int.reduceLT, Int.reduceLE, ↓avp_condG, ↓tf_arrow, ↓ft_arrow, px, k_law9_MapBack_smap_Put.down, A_smap_Put, p_smap_Put, r_smap_Put]
  have e1 := ox.len
  have e2 := ox.take s
  obtain ⟨q, hq⟩ : ∃ q, q = putM n x := ⟨_, rfl⟩
  rw [← hq] at e1 e2 ⊢
  refine weak_at [(3, .t (.str s)), (6, .ptr g 0), (9, .t (.int .i64 (n : Nat))), (10, .t (sl x)), (11, .t (.str q))] (Store.empty.set g (some (.box X false))) fewer_refl (by simp only [vP.down, vS.down, vE.down, Nat.reduceEqDiff, Nat.reduceAdd, Nat.reduceSub, Nat.reduceMul, Nat.reduceLeDiff, Nat.reduceLT, Int.reduceToNat, reduceIte, reduceCtorEq, Int.reduceEq, Int.reduceLT, Int.reduceLE, ↓avp_condG, ↓tf_arrow, ↓ft_arrow, wP.down]) ?_
  have u2 : IntKind.i64.wrap ((n : Int) + 7) = ((n + 7 : Nat) : Int) := by rw [IntWalk.i64_in _ (by omega)]; omega
  have u3 := tdiv_nat (n + 7)
  have u4 : IntKind.i64.wrap (((n + 7) / 8 : Nat) : Int) = (((n + 7) / 8 : Nat) : Int) := IntWalk.i64_in _ (by omega)
  simp only [vP.down, vS.down, vE.down, Nat.reduceEqDiff, Nat.reduceAdd, Nat.reduceSub, Nat.reduceMul, Nat.reduceLeDiff, Nat.reduceLT, Int.reduceToNat, reduceIte, reduceCtorEq, Int.reduceEq, Int.reduceLT, Int.reduceLE, ↓avp_condG, ↓tf_arrow, ↓ft_arrow, u2, u3, u4, e1, bne_self_eq_false, pick_of, pick_ot]
  refine weak_at [(3, .t (.str s)), (6, .ptr g 0), (9, .t (.int .i64 (n : Nat))), (10, .t (sl x)), (11, .t (.str q))] (Store.empty.set g (some (.box X false))) fewer_refl (by simp only [vP.down, vS.down, vE.down, Nat.reduceEqDiff, Nat.reduceAdd, Nat.reduceSub, Nat.reduceMul, Nat.reduceLeDiff, Nat.reduceLT, Int.reduceToNat, reduceIte, reduceCtorEq, Int.reduceEq, Int.reduceLT, Int.reduceLE, ↓avp_condG, ↓tf_arrow, ↓ft_arrow, wP.down]) ?_
  have pq : (q ++ s).length ≤ 1000000 := by rw [List.length_append]; omega
  simp only [vP.down, vS.down, vE.down, Nat.reduceEqDiff, Nat.reduceAdd, Nat.reduceSub, Nat.reduceMul, Nat.reduceLeDiff, Nat.reduceLT, Int.reduceToNat, reduceIte, reduceCtorEq, Int.reduceEq, Int.reduceLT, Int.reduceLE, ↓avp_condG, ↓tf_arrow, ↓ft_arrow, pq, e2, k_law9_MapBack_smap_Take.down, A_smap_Take, p_smap_Take, r_smap_Take]
  refine ⟨by omega, ?_⟩
  refine weak_at [(3, .t (.str s)), (6, .ptr g 0), (9, .t (.int .i64 (n : Nat))), (10, .t (sl x)), (12, .t (sl x)), (13, .t (.str s)), (14, .t (.bool true))] (Store.empty.set g (some (.box X false))) fewer_refl (by simp only [vP.down, vS.down, vE.down, Nat.reduceEqDiff, Nat.reduceAdd, Nat.reduceSub, Nat.reduceMul, Nat.reduceLeDiff, Nat.reduceLT, Int.reduceToNat, reduceIte, reduceCtorEq, Int.reduceEq, Int.reduceLT, Int.reduceLE, ↓avp_condG, ↓tf_arrow, ↓ft_arrow, wP.down]) ?_
  have pl : x.length < 4611686018427387904 := by omega
  simp only [vP.down, vS.down, vE.down, Nat.reduceEqDiff, Nat.reduceAdd, Nat.reduceSub, Nat.reduceMul, Nat.reduceLeDiff, Nat.reduceLT, Int.reduceToNat, reduceIte, reduceCtorEq, Int.reduceEq, Int.reduceLT, Int.reduceLE, ↓avp_condG, ↓tf_arrow, ↓ft_arrow, pl, bne_self_eq_false, pick_of, pick_ot, false_implies, k_law9_MapBack_ref8_Same.down, A_ref8_Same, p_ref8_Same, r_ref8_Same]
  rw [hX]
  exact back_13 (by omega) hB (wk_to fewer_refl (by simp only [vP.down, vS.down, vE.down, Nat.reduceEqDiff, Nat.reduceAdd, Nat.reduceSub, Nat.reduceMul, Nat.reduceLeDiff, Nat.reduceLT, Int.reduceToNat, reduceIte, reduceCtorEq, Int.reduceEq, Int.reduceLT, Int.reduceLE, ↓avp_condG, ↓tf_arrow, ↓ft_arrow, wP.down]))
noncomputable def c_law9_MapBack : Con := fnScal A_law9_MapBack p_law9_MapBack r_law9_MapBack
theorem ok_law9_MapBack : COk Try.prog 4 c_law9_MapBack := fn_sok sys_law9_MapBack mixed Try.func4 (by kernel_rfl) geq_law9_MapBack Try.ntmps4 (by rw [Try.results4]) (fun x => by simp [rTrue, AV.scal]) fun x hx => ⟨Nat.le_of_ble_eq_true rfl, body_law9_MapBack x hx⟩
theorem says_law9_MapBack : SaysTrue Rows.mapBackSpec 4 := ⟨rfl, fun H ds h => by
  match ds, h with
  | [d0, d1, d2, d3], _ => exact ⟨rfl, rfl, rfl⟩⟩
set_option maxRecDepth 100000 in
theorem lifted_law9_MapBack (os : Os) (started : os.Started) (H : Type) (enc : TypeId × Value → H) :
    ReturnsInHanded {} Try.checked os 4 .any (Rows.mapBackSpec.pre6 enc Try.prog Try.f4 Rows.mapBackRow.domain false) (Rows.mapBackSpec.post enc Try.prog Try.f4 false true false false) := by
  refine returnsInHanded_of_change (C := Try.checked) own started (by kernel_rfl) Try.func4
    (ChangeSpec.witness6 (enc := enc) (C := Try.checked) false ⟨#[], #[.slice none 0 0, .int .u8 0, .agg #[.int .u8 0, .int .u8 0, .int .u8 0, .int .u8 0, .int .u8 0, .int .u8 0, .int .u8 0, .int .u8 0, .int .u8 0, .int .u8 0, .int .u8 0, .int .u8 0, .int .u8 0, .int .u8 0, .int .u8 0, .int .u8 0, .int .u8 0, .int .u8 0, .int .u8 0, .int .u8 0, .int .u8 0, .int .u8 0, .int .u8 0, .int .u8 0, .int .u8 0, .int .u8 0, .int .u8 0, .int .u8 0, .int .u8 0, .int .u8 0], .string ⟨#[]⟩], []⟩ 8 (by kernel_rfl) (by kernel_rfl) (by kernel_rfl) (by kernel_rfl)) ?_
  intro W base args ds gs before hval hW _ _
  exact law_contract (ts := [22, 5, 35, 9]) (tb := 4) ok_law9_MapBack (by rw [Try.params4]) (by kernel_rfl) Try.underlying4 laid (by kernel_rfl) rd_law9_MapBack (fun _ h => h) says_law9_MapBack H enc W base args ds gs before hval hW
theorem over_law9_MapBack : Rows.mapBackRow.holds Try.pinned (OpenSpec.ofChange Rows.mapBackSpec) :=
  OpenClaim.holds_of_wide 4 Try.f4 rfl rfl rfl rfl rfl rfl rfl ⟨rfl, rfl, rfl, rfl, rfl⟩ rfl rfl rfl rfl rfl (by kernel_rfl) Try.func4 (by kernel_rfl)
    (of_decide_eq_true (by kernel_rfl)) (by unfold Func.isWrapper; first | (rw [if_pos (by decide +kernel)]; kernel_rfl) | (rw [if_neg (by decide +kernel)]; exact ⟨rfl, rfl⟩))
    (fun os started H enc _ => lifted_law9_MapBack os started H enc)
theorem mapBack_holds : Rows.MapBackSaid := over_law9_MapBack
end Go.Proofs.Ytlfncfaonnaneaa

