/-
  SpanSets.
-/
import Derived.Test.YtcahbcdikcjihaaFnsC
set_option linter.unusedSimpArgs false
set_option linter.unusedVariables false
namespace Go.Proofs.Ytcahbcdikcjihaa
open Go Go.Eng
def G_law8_SpanSets_18 : GCode := .seq (.seq .weak (.region [⟨(some 88), none, .move (.tmp 7)⟩, ⟨(some 89), none, .call ⟨.value (.func 13), #[.tmp 88], #[23]⟩⟩, ⟨(some 90), none, .move (.tmp 89)⟩, ⟨(some 91), (some (90, true)), .move (.tmp 8)⟩, ⟨(some 92), (some (90, true)), .call ⟨.value (.func 13), #[.tmp 91], #[23]⟩⟩, ⟨(some 93), none, .pick (.tmp 90) (.tmp 92) (.const (.bool false))⟩, ⟨(some 94), none, .move (.tmp 93)⟩, ⟨(some 95), (some (94, true)), .move (.tmp 9)⟩, ⟨(some 96), (some (94, true)), .call ⟨.value (.func 13), #[.tmp 95], #[23]⟩⟩, ⟨(some 97), none, .pick (.tmp 94) (.tmp 96) (.const (.bool false))⟩, ⟨(some 98), none, .move (.tmp 97)⟩, ⟨(some 99), (some (98, true)), .move (.tmp 5)⟩, ⟨(some 100), (some (98, true)), .call ⟨.value (.func 22), #[.tmp 99], #[23]⟩⟩, ⟨(some 101), (some (98, true)), .move (.tmp 10)⟩, ⟨(some 102), (some (98, true)), .binOp .eql 3 (.tmp 100) (.tmp 101) 3⟩, ⟨(some 103), none, .pick (.tmp 98) (.tmp 102) (.const (.bool false))⟩, ⟨(some 104), none, .move (.tmp 103)⟩, ⟨(some 105), (some (104, true)), .move (.tmp 9)⟩, ⟨(some 106), (some (104, true)), .call ⟨.value (.func 22), #[.tmp 105], #[23]⟩⟩, ⟨(some 107), (some (104, true)), .move (.tmp 11)⟩, ⟨(some 108), (some (104, true)), .binOp .eql 3 (.tmp 106) (.tmp 107) 3⟩, ⟨(some 109), none, .pick (.tmp 104) (.tmp 108) (.const (.bool false))⟩, ⟨(some 110), none, .move (.tmp 109)⟩, ⟨(some 111), (some (110, true)), .move (.tmp 8)⟩, ⟨(some 112), (some (110, true)), .call ⟨.value (.func 22), #[.tmp 111], #[23]⟩⟩, ⟨(some 113), (some (110, true)), .move (.tmp 10)⟩, ⟨(some 114), (some (110, true)), .move (.tmp 11)⟩, ⟨(some 115), (some (110, true)), .binOp .sub 3 (.tmp 113) (.tmp 114) 3⟩, ⟨(some 116), (some (110, true)), .binOp .eql 3 (.tmp 112) (.tmp 115) 3⟩, ⟨(some 117), none, .pick (.tmp 110) (.tmp 116) (.const (.bool false))⟩, ⟨(some 118), none, .move (.tmp 117)⟩, ⟨(some 119), (some (118, true)), .move (.tmp 7)⟩, ⟨(some 120), (some (118, true)), .call ⟨.value (.func 22), #[.tmp 119], #[23]⟩⟩, ⟨(some 121), (some (118, true)), .move (.tmp 10)⟩, ⟨(some 122), (some (118, true)), .move (.tmp 11)⟩, ⟨(some 123), (some (118, true)), .binOp .sub 3 (.tmp 121) (.tmp 122) 3⟩, ⟨(some 124), (some (118, true)), .move (.tmp 6)⟩, ⟨(some 125), (some (118, true)), .call ⟨.value (.func 22), #[.tmp 124], #[23]⟩⟩, ⟨(some 126), (some (118, true)), .binOp .add 3 (.tmp 123) (.tmp 125) 3⟩, ⟨(some 127), (some (118, true)), .binOp .eql 3 (.tmp 120) (.tmp 126) 3⟩, ⟨(some 128), none, .pick (.tmp 118) (.tmp 127) (.const (.bool false))⟩, ⟨(some 4), none, .assign (.tmp 128)⟩])) (.ret)
def G_law8_SpanSets_7 : GCode := .seq (.seq .weak (.region [⟨(some 10), none, .assign (.const (.int .i64 0))⟩, ⟨(some 11), none, .assign (.const (.int .i64 0))⟩])) (.seq (.seq (.region [⟨(some 12), none, .assign (.const (.int .i64 0))⟩]) (.block 0 (.loop (.seq .weak (.seq (.seq (.region [⟨(some 40), none, .move (.tmp 12)⟩, ⟨(some 41), none, .binOp .lss 3 (.tmp 40) (.const (.int .i64 80)) 3⟩]) (.cond (.tmp 41) (.skip) (.exit 0))) (.seq (.block 1 (.seq (.region [⟨(some 44), none, .move (.tmp 5)⟩, ⟨(some 45), none, .move (.tmp 12)⟩, ⟨(some 46), none, .call ⟨.value (.func 25), #[.tmp 44, .tmp 45], #[23, 3]⟩⟩, ⟨(some 47), none, .move (.tmp 6)⟩, ⟨(some 48), none, .move (.tmp 12)⟩, ⟨(some 49), none, .call ⟨.value (.func 25), #[.tmp 47, .tmp 48], #[23, 3]⟩⟩, ⟨(some 13), none, .assign (.tmp 46)⟩, ⟨(some 14), none, .assign (.tmp 49)⟩]) (.seq (.seq (.region [⟨(some 50), none, .move (.tmp 7)⟩, ⟨(some 51), none, .move (.tmp 12)⟩, ⟨(some 52), none, .call ⟨.value (.func 25), #[.tmp 50, .tmp 51], #[23, 3]⟩⟩, ⟨(some 53), none, .move (.tmp 13)⟩, ⟨(some 54), none, .move (.tmp 53)⟩, ⟨(some 55), (some (54, false)), .move (.tmp 14)⟩, ⟨(some 56), none, .pick (.tmp 54) (.const (.bool true)) (.tmp 55)⟩, ⟨(some 57), none, .binOp .neq 4 (.tmp 52) (.tmp 56) 4⟩, ⟨(some 58), none, .move (.tmp 57)⟩, ⟨(some 59), (some (58, false)), .move (.tmp 8)⟩, ⟨(some 60), (some (58, false)), .move (.tmp 12)⟩, ⟨(some 61), (some (58, false)), .call ⟨.value (.func 25), #[.tmp 59, .tmp 60], #[23, 3]⟩⟩, ⟨(some 62), (some (58, false)), .move (.tmp 13)⟩, ⟨(some 63), (some (58, false)), .move (.tmp 62)⟩, ⟨(some 64), (some (63, true)), .move (.tmp 14)⟩, ⟨(some 65), (some (63, true)), .unOp .not 4 (.tmp 64)⟩, ⟨(some 66), (some (58, false)), .pick (.tmp 63) (.tmp 65) (.const (.bool false))⟩, ⟨(some 67), (some (58, false)), .binOp .neq 4 (.tmp 61) (.tmp 66) 4⟩, ⟨(some 68), none, .pick (.tmp 58) (.const (.bool true)) (.tmp 67)⟩, ⟨(some 69), none, .move (.tmp 68)⟩, ⟨(some 70), (some (69, false)), .move (.tmp 9)⟩, ⟨(some 71), (some (69, false)), .move (.tmp 12)⟩, ⟨(some 72), (some (69, false)), .call ⟨.value (.func 25), #[.tmp 70, .tmp 71], #[23, 3]⟩⟩, ⟨(some 73), (some (69, false)), .move (.tmp 13)⟩, ⟨(some 74), (some (69, false)), .move (.tmp 73)⟩, ⟨(some 75), (some (74, true)), .move (.tmp 14)⟩, ⟨(some 76), (some (69, false)), .pick (.tmp 74) (.tmp 75) (.const (.bool false))⟩, ⟨(some 77), (some (69, false)), .binOp .neq 4 (.tmp 72) (.tmp 76) 4⟩, ⟨(some 78), none, .pick (.tmp 69) (.const (.bool true)) (.tmp 77)⟩]) (.cond (.tmp 78) (.seq (.region [⟨(some 4), none, .assign (.const (.bool false))⟩]) (.ret)) (.skip))) (.seq (.seq (.region [⟨(some 79), none, .move (.tmp 13)⟩]) (.cond (.tmp 79) (.region [⟨(some 80), none, .move (.tmp 10)⟩, ⟨(some 81), none, .binOp .add 3 (.tmp 80) (.const (.int .i64 1)) 3⟩, ⟨(some 10), none, .assign (.tmp 81)⟩]) (.skip))) (.seq (.region [⟨(some 82), none, .move (.tmp 13)⟩, ⟨(some 83), none, .move (.tmp 82)⟩, ⟨(some 84), (some (83, true)), .move (.tmp 14)⟩, ⟨(some 85), none, .pick (.tmp 83) (.tmp 84) (.const (.bool false))⟩]) (.cond (.tmp 85) (.region [⟨(some 86), none, .move (.tmp 11)⟩, ⟨(some 87), none, .binOp .add 3 (.tmp 86) (.const (.int .i64 1)) 3⟩, ⟨(some 11), none, .assign (.tmp 87)⟩]) (.skip))))))) (.region [⟨(some 42), none, .move (.tmp 12)⟩, ⟨(some 43), none, .binOp .add 3 (.tmp 42) (.const (.int .i64 1)) 3⟩, ⟨(some 12), none, .assign (.tmp 43)⟩]))))))) (G_law8_SpanSets_18))
def G_law8_SpanSets : GCode := .seq (.region [⟨(some 4), none, .assign (.const (.bool false))⟩]) (.seq (.seq (.region [⟨(some 15), none, .call ⟨.value (.func 10), #[], #[]⟩⟩, ⟨(some 16), none, .unOp .not 4 (.tmp 15)⟩]) (.cond (.tmp 16) (.seq (.region [⟨(some 4), none, .assign (.const (.bool false))⟩]) (.ret)) (.skip))) (.seq (.seq (.region [⟨(some 17), none, .move (.tmp 0)⟩, ⟨(some 18), none, .call ⟨.builtin .len, #[.tmp 17], #[22]⟩⟩, ⟨(some 19), none, .binOp .gtr 3 (.tmp 18) (.const (.int .i64 20)) 3⟩, ⟨(some 20), none, .move (.tmp 19)⟩, ⟨(some 21), (some (20, false)), .move (.tmp 1)⟩, ⟨(some 22), (some (20, false)), .call ⟨.builtin .len, #[.tmp 21], #[22]⟩⟩, ⟨(some 23), (some (20, false)), .binOp .gtr 3 (.tmp 22) (.const (.int .i64 20)) 3⟩, ⟨(some 24), none, .pick (.tmp 20) (.const (.bool true)) (.tmp 23)⟩]) (.cond (.tmp 24) (.seq (.region [⟨(some 4), none, .assign (.const (.bool true))⟩]) (.ret)) (.skip))) (.seq (.region [⟨(some 25), none, .move (.tmp 0)⟩, ⟨(some 26), none, .call ⟨.value (.func 11), #[.tmp 25], #[22]⟩⟩, ⟨(some 27), none, .call ⟨.value (.func 12), #[.tmp 26, .const (.int .i64 8)], #[26, 3]⟩⟩, ⟨(some 28), none, .move (.tmp 1)⟩, ⟨(some 29), none, .call ⟨.value (.func 11), #[.tmp 28], #[22]⟩⟩, ⟨(some 30), none, .call ⟨.value (.func 12), #[.tmp 29, .const (.int .i64 8)], #[26, 3]⟩⟩, ⟨(some 5), none, .assign (.tmp 27)⟩, ⟨(some 6), none, .assign (.tmp 30)⟩]) (.seq (.seq .weak (.region [⟨(some 31), none, .move (.tmp 5)⟩, ⟨(some 32), none, .move (.tmp 6)⟩, ⟨(some 33), none, .call ⟨.value (.func 16), #[.tmp 31, .tmp 32], #[23, 23]⟩⟩, ⟨(some 34), none, .move (.tmp 5)⟩, ⟨(some 35), none, .move (.tmp 6)⟩, ⟨(some 36), none, .call ⟨.value (.func 18), #[.tmp 34, .tmp 35], #[23, 23]⟩⟩, ⟨(some 37), none, .move (.tmp 5)⟩, ⟨(some 38), none, .move (.tmp 6)⟩, ⟨(some 39), none, .call ⟨.value (.func 20), #[.tmp 37, .tmp 38], #[23, 23]⟩⟩, ⟨(some 7), none, .assign (.tmp 33)⟩, ⟨(some 8), none, .assign (.tmp 36)⟩, ⟨(some 9), none, .assign (.tmp 39)⟩])) (G_law8_SpanSets_7)))))
noncomputable def l_law8_SpanSets : List (Nat × Con) := [(10, c_law8_begun), (11, c_made_Made), (12, c_made_Picks_Runs), (16, c_span_Add), (18, c_span_Less), (20, c_span_Both), (25, c_span_Has), (13, c_span_May), (22, c_span_Count)]
noncomputable abbrev K_law8_SpanSets : Ctx := ctx (cl l_law8_SpanSets)
theorem geq_law8_SpanSets : gof K_law8_SpanSets Try.f4 = some G_law8_SpanSets.strip := by kernel_rfl
theorem sys_law8_SpanSets : Go.Eng.Sys Try.prog K_law8_SpanSets := sys_of' ⟨ok_law8_begun, ok_made_Made, ok_made_Picks_Runs, ok_span_Add, ok_span_Less, ok_span_Both, ok_span_Has, ok_span_May, ok_span_Count, trivial⟩
theorem hm_law8_SpanSets : ConMono K_law8_SpanSets := conMono_of sys_law8_SpanSets.con
noncomputable def k_law8_SpanSets_law8_begun := PLift.up (call_scal (C := K_law8_SpanSets) (f := 10) (A := A_law8_begun) (p := p_law8_begun) (r := r_law8_begun) rfl)
noncomputable def k_law8_SpanSets_made_Made := PLift.up (call_new (C := K_law8_SpanSets) (f := 11) (c := q_made_Made) (e := e_made_Made) (mk := mk_made_Made) rfl)
noncomputable def k_law8_SpanSets_made_Picks_Runs := PLift.up (call_gen (C := K_law8_SpanSets) (f := 12) (modes := m_made_Picks_Runs) (F := F_made_Picks_Runs) rfl)
noncomputable def k_law8_SpanSets_span_Add := PLift.up (call_fn (C := K_law8_SpanSets) (f := 16) (A := A_span_Add) (p := p_span_Add) (r := r_span_Add) rfl)
noncomputable def k_law8_SpanSets_span_Less := PLift.up (call_fn (C := K_law8_SpanSets) (f := 18) (A := A_span_Less) (p := p_span_Less) (r := r_span_Less) rfl)
noncomputable def k_law8_SpanSets_span_Both := PLift.up (call_fn (C := K_law8_SpanSets) (f := 20) (A := A_span_Both) (p := p_span_Both) (r := r_span_Both) rfl)
noncomputable def k_law8_SpanSets_span_Has := PLift.up (call_scal (C := K_law8_SpanSets) (f := 25) (A := A_span_Has) (p := p_span_Has) (r := r_span_Has) rfl)
noncomputable def k_law8_SpanSets_span_May := PLift.up (call_scal (C := K_law8_SpanSets) (f := 13) (A := A_span_May) (p := p_span_May) (r := r_span_May) rfl)
noncomputable def k_law8_SpanSets_span_Count := PLift.up (call_scal (C := K_law8_SpanSets) (f := 22) (A := A_span_Count) (p := p_span_Count) (r := r_span_Count) rfl)
noncomputable def A_law8_SpanSets : Arms ((List Byt) × (List Byt) × Unit) := Arms.cons (argT (List Byt)) (Arms.cons (argT (List Byt)) (Arms.nil))
def p_law8_SpanSets (x : (List Byt) × (List Byt) × Unit) : Prop := (goodList (fun x : Byt => goodAny x) x.1) ∧ (goodList (fun x : Byt => goodAny x) x.2.1) ∧ goodAny (x.2.2)
abbrev r_law8_SpanSets (x : (List Byt) × (List Byt) × Unit) : AV := rTrue x
theorem rd_law8_SpanSets : ReadsA Try.prog [22, 22] A_law8_SpanSets p_law8_SpanSets := (readsA_T (reads_list Try.underlying22 (reads_u8 Try.underlying5) (by kernel_rfl) (by decide)) (by kernel_rfl) (readsA_T (reads_list Try.underlying22 (reads_u8 Try.underlying5) (by kernel_rfl) (by decide)) (by kernel_rfl) readsA_nil))
set_option maxRecDepth 100000 in
set_option maxHeartbeats 4000000 in
theorem sets_18 {x y : List TRun} (hx : Sm 8 x) (hy : Sm 8 y) {σ : St} (hσ : Wk σ (mkS [(5, .t (sl x)), (6, .t (sl y)), (7, .t (sl (whereL .add x y))), (8, .t (sl (whereL .less x y))), (9, .t (sl (whereL .both x y))), (10, .t (.int .i64 (cN (hasR x) 80 : Nat))), (11, .t (.int .i64 (cN (fun i => hasR x i && hasR y i) 80 : Nat)))] .empty)) :
    avp K_law8_SpanSets G_law8_SpanSets_18 (Ret K_law8_SpanSets [.tmp 4] fun v _ => v = .t (.bool true)) σ := by
  unfold G_law8_SpanSets_18
  simp only [avp_seq]
  refine ⟨_, hσ, ?_⟩
  have lx := hx.len
  have ly := hy.len
  have n0 := where_len .add x y
  have n1 := where_len .both x y
  have n2 := where_len .less x y
  have wx : Wn 0 80 x := hx.wn.mono (by omega) (by omega)
  have wy : Wn 0 80 y := hy.wn.mono (by omega) (by omega)
  have w1 : ∀ h, Wn 0 80 (whereL h x y) := fun h => where_wn wx wy
  have m0 : ∀ h, mayR (-1) (whereL h x y) = true := fun h => may_of where_nf (w1 h) (by omega) (by omega)
  have o1 : ∀ h, okB (whereL h x y) = True := fun h => eq_true (okB_of where_nf (w1 h) (by omega) (by omega))
  have o3 : okB x = True := eq_true hx.ok
  have o4 : okB y = True := eq_true hy.ok
  have k0 : cntR x = (cN (hasR x) 80 : Nat) := cntR_card hx.nf wx
  have k1 : cntR (whereL .both x y) = (cN (fun i => hasR x i && hasR y i) 80 : Nat) := by
    rw [cntR_card where_nf (w1 _)]
    have e2 : hasR (whereL .both x y) = fun i => hasR x i && hasR y i := funext fun i => where_has
    rw [e2]; rfl
  have a1 := cnt_less hx.nf wx wy
  have a2 := cnt_two hx.nf hy.nf wx wy
  have b2 := cntR_bd hy.ok
  obtain ⟨n, hn⟩ : ∃ n, n = cN (hasR x) 80 := ⟨_, rfl⟩
  obtain ⟨m, hm⟩ : ∃ m, m = cN (fun i => hasR x i && hasR y i) 80 := ⟨_, rfl⟩
  have hn8 := cN_le (f := hasR x) (i := 80)
  have hm8 := cN_le (f := fun i => hasR x i && hasR y i) (i := 80)
  rw [← hn] at hn8 k0
  rw [← hm] at hm8 k1
  rw [← hn, ← hm]
  have wr1 : IntKind.i64.wrap ((n : Int) - (m : Int)) = (n : Int) - (m : Int) := IntWalk.i64_in _ (by omega)
  have wr2 : IntKind.i64.wrap ((n : Int) - (m : Int) + cntR y) = (n : Int) - (m : Int) + cntR y := IntWalk.i64_in _ (by omega)
  have k2 : cntR (whereL .less x y) = (n : Int) - (m : Int) := by omega
  have k3 : cntR (whereL .add x y) = (n : Int) - (m : Int) + cntR y := by omega
  simp only [vP.down, vS.down, vE.down, Nat.reduceEqDiff, Nat.reduceAdd, Nat.reduceSub, Nat.reduceMul, Nat.reduceLeDiff, Nat.reduceLT, Int.reduceToNat, reduceIte, reduceCtorEq, Int.reduceEq, Int.reduceLT, Int.reduceLE, ↓avp_condG, ↓tf_arrow, ↓ft_arrow, m0, o1, o3, o4, k0, k1, k2, k3, wr1, wr2, pick_of, pick_ot, k_law8_SpanSets_span_May.down, A_span_May, p_span_May, r_span_May, k_law8_SpanSets_span_Count.down, A_span_Count, p_span_Count, r_span_Count]
  ((repeat' with_reducible refine And.intro ?_ ?_) <;> try (first | omega | (simp only [List.length_take, List.length_drop, List.length_append, List.length_map, List.length_replicate] <;> omega)))
  simp only [vP.down, vS.down, vE.down, Nat.reduceEqDiff, Nat.reduceAdd, Nat.reduceSub, Nat.reduceMul, Nat.reduceLeDiff, Nat.reduceLT, Int.reduceToNat, reduceIte, reduceCtorEq, Int.reduceEq, Int.reduceLT, Int.reduceLE, ↓avp_condG, ↓tf_arrow, ↓ft_arrow, vT.down]
set_option maxRecDepth 100000 in
set_option maxHeartbeats 4000000 in
theorem sets_7 {x y : List TRun} (hx : Sm 8 x) (hy : Sm 8 y) {σ : St} (hσ : Wk σ (mkS [(5, .t (sl x)), (6, .t (sl y)), (7, .t (sl (whereL .add x y))), (8, .t (sl (whereL .less x y))), (9, .t (sl (whereL .both x y)))] .empty)) :
    avp K_law8_SpanSets G_law8_SpanSets_7 (Ret K_law8_SpanSets [.tmp 4] fun v _ => v = .t (.bool true)) σ := by
  unfold G_law8_SpanSets_7
  simp only [avp_seq]
  refine ⟨_, hσ, ?_⟩
  simp only [vP.down, vS.down, vE.down, Nat.reduceEqDiff, Nat.reduceAdd, Nat.reduceSub, Nat.reduceMul, Nat.reduceLeDiff, Nat.reduceLT, Int.reduceToNat, reduceIte, reduceCtorEq, Int.reduceEq, Int.reduceLT, Int.reduceLE, ↓avp_condG, ↓tf_arrow, ↓ft_arrow]
  have lx := hx.len
  have ly := hy.len
  have n0 := where_len .add x y
  have n1 := where_len .both x y
  have n2 := where_len .less x y
  have p1 : x.length < 4611686018427387904 := by omega
  have p2 : y.length < 4611686018427387904 := by omega
  have p3 : (whereL .add x y).length < 4611686018427387904 := by omega
  have p4 : (whereL .less x y).length < 4611686018427387904 := by omega
  have p5 : (whereL .both x y).length < 4611686018427387904 := by omega
  refine loop_weak hm_law8_SpanSets (fun k σ => ∃ i : Nat, k = 80 - i ∧ i ≤ 80 ∧ σ = mkS [(5, .t (sl x)), (6, .t (sl y)), (7, .t (sl (whereL .add x y))), (8, .t (sl (whereL .less x y))), (9, .t (sl (whereL .both x y))), (10, .t (.int .i64 (cN (hasR x) i : Nat))), (11, .t (.int .i64 (cN (fun i => hasR x i && hasR y i) i : Nat))), (12, .t (.int .i64 (i : Nat)))] .empty) ⟨0, rfl, by omega, rfl⟩ (wk_to fewer_refl (by simp only [vP.down, vS.down, vE.down, Nat.reduceEqDiff, Nat.reduceAdd, Nat.reduceSub, Nat.reduceMul, Nat.reduceLeDiff, Nat.reduceLT, Int.reduceToNat, reduceIte, reduceCtorEq, Int.reduceEq, Int.reduceLT, Int.reduceLE, ↓avp_condG, ↓tf_arrow, ↓ft_arrow, wP.down, Int.natCast_zero, show ∀ f, cN f 0 = 0 from fun _ => rfl])) ?_
  rintro k _ ⟨i, rfl, hi, rfl⟩
  have hi1 : IntKind.i64.wrap ((i : Int) + 1) = ((i + 1 : Nat) : Int) := by rw [IntWalk.i64_in _ (by omega)]; rfl
  by_cases hlt : i < 80
  case neg =>
    obtain rfl : i = 80 := by omega
    have hge : ¬ (((80 : Nat) : Int) < 80) := by omega
    simp only [vP.down, vS.down, vE.down, Nat.reduceEqDiff, Nat.reduceAdd, Nat.reduceSub, Nat.reduceMul, Nat.reduceLeDiff, Nat.reduceLT, Int.reduceToNat, reduceIte, reduceCtorEq, Int.reduceEq, Int.reduceLT, Int.reduceLE, ↓avp_condG, ↓tf_arrow, ↓ft_arrow, hge]
    exact sets_18 hx hy (wk_to fewer_refl (by simp only [vP.down, vS.down, vE.down, Nat.reduceEqDiff, Nat.reduceAdd, Nat.reduceSub, Nat.reduceMul, Nat.reduceLeDiff, Nat.reduceLT, Int.reduceToNat, reduceIte, reduceCtorEq, Int.reduceEq, Int.reduceLT, Int.reduceLE, ↓avp_condG, ↓tf_arrow, ↓ft_arrow, wP.down]))
  have hlt' : (i : Int) < 80 := by omega
  have c1 := cN_next (f := hasR x) (i := i)
  have c2 := cN_next (f := fun i => hasR x i && hasR y i) (i := i)
  have b1 := cN_le (f := hasR x) (i := i)
  have b2 := cN_le (f := fun i => hasR x i && hasR y i) (i := i)
  obtain ⟨N, hN⟩ : ∃ N, N = cN (hasR x) i := ⟨_, rfl⟩
  obtain ⟨M, hM⟩ : ∃ M, M = cN (fun i => hasR x i && hasR y i) i := ⟨_, rfl⟩
  rw [← hN] at c1 b1 ⊢
  rw [← hM] at c2 b2 ⊢
  have wN : IntKind.i64.wrap ((N : Int) + 1) = ((N + 1 : Nat) : Int) := by rw [IntWalk.i64_in _ (by omega)]; rfl
  have wM : IntKind.i64.wrap ((M : Int) + 1) = ((M + 1 : Nat) : Int) := by rw [IntWalk.i64_in _ (by omega)]; rfl
  have q1 : hasR (whereL .add x y) i = (hasR x i || hasR y i) := where_has
  have q2 : hasR (whereL .less x y) i = (hasR x i && !hasR y i) := where_has
  have q3 : hasR (whereL .both x y) i = (hasR x i && hasR y i) := where_has
  obtain ⟨p, hp⟩ : ∃ p, p = hasR x i := ⟨_, rfl⟩
  obtain ⟨q, hq⟩ : ∃ q, q = hasR y i := ⟨_, rfl⟩
  rw [← hp, ← hq] at q1 q2 q3 c2
  rw [← hp] at c1
  cases p <;> cases q
  all_goals
    simp only [Bool.false_eq_true, if_true, if_false, Bool.and_true, Bool.and_false, Bool.true_and, Bool.false_and, Bool.or_true, Bool.or_false, Bool.not_true, Bool.not_false, Bool.or_self] at c1 c2 q1 q2 q3
    simp only [vP.down, vS.down, vE.down, Nat.reduceEqDiff, Nat.reduceAdd, Nat.reduceSub, Nat.reduceMul, Nat.reduceLeDiff, Nat.reduceLT, Int.reduceToNat, reduceIte, reduceCtorEq, Int.reduceEq, Int.reduceLT, Int.reduceLE, ↓avp_condG, ↓tf_arrow, ↓ft_arrow, hlt', p1, p2, p3, p4, p5, ← hp, ← hq, q1, q2, q3, pick_of, pick_ot, wN, wM, k_law8_SpanSets_span_Has.down, A_span_Has, p_span_Has, r_span_Has, bne_self_eq_false]
    exact round_to (80 - (i + 1)) [(5, .t (sl x)), (6, .t (sl y)), (7, .t (sl (whereL .add x y))), (8, .t (sl (whereL .less x y))), (9, .t (sl (whereL .both x y))), (10, .t (.int .i64 (cN (hasR x) (i + 1) : Nat))), (11, .t (.int .i64 (cN (fun i => hasR x i && hasR y i) (i + 1) : Nat))), (12, .t (.int .i64 (i + 1 : Nat)))] .empty (by omega) fewer_refl (by simp only [vP.down, vS.down, vE.down, Nat.reduceEqDiff, Nat.reduceAdd, Nat.reduceSub, Nat.reduceMul, Nat.reduceLeDiff, Nat.reduceLT, Int.reduceToNat, reduceIte, reduceCtorEq, Int.reduceEq, Int.reduceLT, Int.reduceLE, ↓avp_condG, ↓tf_arrow, ↓ft_arrow, wP.down, hi1, c1, c2, wN, wM]) ⟨i + 1, rfl, by omega, rfl⟩
set_option maxRecDepth 100000 in
set_option maxHeartbeats 4000000 in
theorem body_law8_SpanSets (x) (hx : p_law8_SpanSets x) : avp K_law8_SpanSets G_law8_SpanSets (Ret K_law8_SpanSets [.tmp 4] fun v _ => v = r_law8_SpanSets x) (entry (A_law8_SpanSets.enc x) .empty) := by
  obtain ⟨a, b, ⟨⟩⟩ := x
  change avp _ _ (Ret _ _ fun v _ => v = .t (.bool true)) (entry [.t (sl a), .t (sl b)] .empty)
  unfold G_law8_SpanSets
  by_cases c1 : (20 : Int) < (a.length : Int)
  · simp only [vP.down, vS.down, vE.down, Nat.reduceEqDiff, Nat.reduceAdd, Nat.reduceSub, Nat.reduceMul, Nat.reduceLeDiff, Nat.reduceLT, Int.reduceToNat, reduceIte, reduceCtorEq, Int.reduceEq, Int.reduceLT, Int.reduceLE, ↓avp_condG, ↓tf_arrow, ↓ft_arrow, k_law8_SpanSets_law8_begun.down, A_law8_begun, p_law8_begun, r_law8_begun, c1, gt_iff_lt, pick_of, pick_ot]
    simp only [vP.down, vS.down, vE.down, Nat.reduceEqDiff, Nat.reduceAdd, Nat.reduceSub, Nat.reduceMul, Nat.reduceLeDiff, Nat.reduceLT, Int.reduceToNat, reduceIte, reduceCtorEq, Int.reduceEq, Int.reduceLT, Int.reduceLE, ↓avp_condG, ↓tf_arrow, ↓ft_arrow, vT.down]
  by_cases c2 : (20 : Int) < (b.length : Int)
  · simp only [vP.down, vS.down, vE.down, Nat.reduceEqDiff, Nat.reduceAdd, Nat.reduceSub, Nat.reduceMul, Nat.reduceLeDiff, Nat.reduceLT, Int.reduceToNat, reduceIte, reduceCtorEq, Int.reduceEq, Int.reduceLT, Int.reduceLE, ↓avp_condG, ↓tf_arrow, ↓ft_arrow, k_law8_SpanSets_law8_begun.down, A_law8_begun, p_law8_begun, r_law8_begun, c1, c2, gt_iff_lt, pick_of, pick_ot]
    simp only [vP.down, vS.down, vE.down, Nat.reduceEqDiff, Nat.reduceAdd, Nat.reduceSub, Nat.reduceMul, Nat.reduceLeDiff, Nat.reduceLT, Int.reduceToNat, reduceIte, reduceCtorEq, Int.reduceEq, Int.reduceLT, Int.reduceLE, ↓avp_condG, ↓tf_arrow, ↓ft_arrow, vT.down]
  simp only [vP.down, vS.down, vE.down, Nat.reduceEqDiff, Nat.reduceAdd, Nat.reduceSub, Nat.reduceMul, Nat.reduceLeDiff, Nat.reduceLT, Int.reduceToNat, reduceIte, reduceCtorEq, Int.reduceEq, Int.reduceLT, Int.reduceLE, ↓avp_condG, ↓tf_arrow, ↓ft_arrow, k_law8_SpanSets_law8_begun.down, A_law8_begun, p_law8_begun, r_law8_begun, c1, c2, gt_iff_lt, pick_of, pick_ot, k_law8_SpanSets_made_Made.down, q_made_Made, e_made_Made, mk_made_Made, k_law8_SpanSets_made_Picks_Runs.down, m_made_Picks_Runs]
  refine ⟨⟨a, rfl⟩, fun g1 hg1 => ?_⟩
  refine runs_any (pk_new hg1 (by omega)) (by omega) (by omega) fun v1 S1 x hv1 hx H1 _ => ?_
  refine ⟨⟨b, rfl⟩, fun g2 hg2 => ?_⟩
  refine runs_any (pk_new hg2 (by omega)) (by omega) (by omega) fun v2 S2 y hv2 hy H2 _ => ?_
  have hv1' := lv_over hv1 hg2 H2
  refine weak_at [(5, .t (sl x)), (6, .t (sl y))] .empty fewer_empty (by
    simp only [vP.down, vS.down, vE.down, Nat.reduceEqDiff, Nat.reduceAdd, Nat.reduceSub, Nat.reduceMul, Nat.reduceLeDiff, Nat.reduceLT, Int.reduceToNat, reduceIte, reduceCtorEq, Int.reduceEq, Int.reduceLT, Int.reduceLE, ↓avp_condG, ↓tf_arrow, ↓ft_arrow, wP.down]
    exact ⟨hv1'.w2 fun _ _ => rfl, hv2.w2 fun _ _ => rfl⟩) ?_
  have lx := hx.len
  have ly := hy.len
  have p1 : x.length + y.length ≤ 1099511627 := by omega
  simp only [vP.down, vS.down, vE.down, Nat.reduceEqDiff, Nat.reduceAdd, Nat.reduceSub, Nat.reduceMul, Nat.reduceLeDiff, Nat.reduceLT, Int.reduceToNat, reduceIte, reduceCtorEq, Int.reduceEq, Int.reduceLT, Int.reduceLE, ↓avp_condG, ↓tf_arrow, ↓ft_arrow, p1, k_law8_SpanSets_span_Add.down, A_span_Add, p_span_Add, r_span_Add, k_law8_SpanSets_span_Less.down, A_span_Less, p_span_Less, r_span_Less, k_law8_SpanSets_span_Both.down, A_span_Both, p_span_Both, r_span_Both]
  exact sets_7 hx hy (wk_to fewer_refl (by simp only [vP.down, vS.down, vE.down, Nat.reduceEqDiff, Nat.reduceAdd, Nat.reduceSub, Nat.reduceMul, Nat.reduceLeDiff, Nat.reduceLT, Int.reduceToNat, reduceIte, reduceCtorEq, Int.reduceEq, Int.reduceLT, Int.reduceLE, ↓avp_condG, ↓tf_arrow, ↓ft_arrow, wP.down]))
noncomputable def c_law8_SpanSets : Con := fnScal A_law8_SpanSets p_law8_SpanSets r_law8_SpanSets
theorem ok_law8_SpanSets : COk Try.prog 4 c_law8_SpanSets := fn_sok sys_law8_SpanSets mixed Try.func4 (by kernel_rfl) geq_law8_SpanSets Try.ntmps4 (by rw [Try.results4]) (fun x => by simp [rTrue, AV.scal]) fun x hx => ⟨Nat.le_of_ble_eq_true rfl, body_law8_SpanSets x hx⟩
theorem says_law8_SpanSets : SaysTrue Rows.spanSetsSpec 2 := ⟨rfl, fun H ds h => by
  match ds, h with
  | [d0, d1], _ => exact ⟨rfl, rfl, rfl⟩⟩
set_option maxRecDepth 100000 in
theorem lifted_law8_SpanSets (os : Os) (started : os.Started) (H : Type) (enc : TypeId × Value → H) :
    ReturnsInHanded {} Try.checked os 4 .any (Rows.spanSetsSpec.pre6 enc Try.prog Try.f4 Rows.spanSetsRow.domain false) (Rows.spanSetsSpec.post enc Try.prog Try.f4 false true false false) := by
  refine returnsInHanded_of_change (C := Try.checked) own started (by kernel_rfl) Try.func4
    (ChangeSpec.witness6 (enc := enc) (C := Try.checked) false ⟨#[], #[.slice none 0 0, .slice none 0 0], []⟩ 8 (by kernel_rfl) (by kernel_rfl) (by kernel_rfl) (by kernel_rfl)) ?_
  intro W base args ds gs before hval hW _ _
  exact law_contract (ts := [22, 22]) (tb := 4) ok_law8_SpanSets (by rw [Try.params4]) (by kernel_rfl) Try.underlying4 laid (by kernel_rfl) rd_law8_SpanSets (fun _ h => h) says_law8_SpanSets H enc W base args ds gs before hval hW
theorem over_law8_SpanSets : Rows.spanSetsRow.holds Try.pinned (OpenSpec.ofChange Rows.spanSetsSpec) :=
  OpenClaim.holds_of_wide 4 Try.f4 rfl rfl rfl rfl rfl rfl rfl ⟨rfl, rfl, rfl, rfl, rfl⟩ rfl rfl rfl rfl rfl (by kernel_rfl) Try.func4 (by kernel_rfl)
    (of_decide_eq_true (by kernel_rfl)) (by unfold Func.isWrapper; first | (rw [if_pos (by decide +kernel)]; kernel_rfl) | (rw [if_neg (by decide +kernel)]; exact ⟨rfl, rfl⟩))
    (fun os started H enc _ => lifted_law8_SpanSets os started H enc)
theorem spanSets_holds : Rows.SpanSetsSaid := over_law8_SpanSets
end Go.Proofs.Ytcahbcdikcjihaa

