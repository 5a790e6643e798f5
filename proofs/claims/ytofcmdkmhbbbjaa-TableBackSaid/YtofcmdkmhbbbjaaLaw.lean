/-
  TableBack.
-/
import Derived.Test.YtofcmdkmhbbbjaaFnsI
set_option linter.unusedSimpArgs false
set_option linter.unusedVariables false
namespace Go.Proofs.Ytofcmdkmhbbbjaa
open Go Go.Eng
set_option maxRecDepth 100000
def G_law17_TableBack_12 : GCode := .seq (.seq .weak (.region [⟨(some 74), none, .move (.tmp 2)⟩, ⟨(some 75), none, .call ⟨.value (.func 11), #[.tmp 74], #[22]⟩⟩, ⟨(some 76), none, .call ⟨.value (.func 15), #[.tmp 75], #[38]⟩⟩, ⟨(some 14), none, .alloc 31⟩, ⟨none, none, .store 31 (.tmp 14) (.tmp 76)⟩])) (.seq (.seq .weak (.region [⟨(some 77), none, .move (.tmp 3)⟩, ⟨(some 78), none, .call ⟨.value (.func 11), #[.tmp 77], #[22]⟩⟩, ⟨(some 79), none, .call ⟨.value (.func 24), #[.tmp 78, .const (.int .i64 8)], #[38, 3]⟩⟩, ⟨(some 15), none, .assign (.tmp 79)⟩])) (.seq (.seq .weak (.region [⟨(some 80), none, .move (.tmp 15)⟩, ⟨(some 81), none, .move (.tmp 4)⟩, ⟨(some 82), none, .call ⟨.value (.func 11), #[.tmp 81], #[22]⟩⟩, ⟨(some 83), none, .call ⟨.value (.func 24), #[.tmp 82, .const (.int .i64 8)], #[38, 3]⟩⟩, ⟨(some 84), none, .move (.tmp 15)⟩, ⟨(some 85), none, .call ⟨.value (.func 25), #[.tmp 83, .tmp 84], #[52, 52]⟩⟩, ⟨(some 86), none, .move (.tmp 4)⟩, ⟨(some 87), none, .call ⟨.value (.func 11), #[.tmp 86], #[22]⟩⟩, ⟨(some 88), none, .call ⟨.value (.func 24), #[.tmp 87, .const (.int .i64 8)], #[38, 3]⟩⟩, ⟨(some 89), none, .build 56 #[(0, .tmp 80), (1, .tmp 85), (3, .tmp 88)]⟩, ⟨(some 16), none, .alloc 56⟩, ⟨none, none, .store 56 (.tmp 16) (.tmp 89)⟩])) (.seq (.seq .weak (.seq .weak (.region [⟨(some 91), none, .move (.tmp 11)⟩, ⟨(some 92), none, .move (.tmp 12)⟩, ⟨(some 93), none, .call ⟨.value (.func 13), #[.tmp 91, .tmp 92], #[23, 24]⟩⟩, ⟨(some 94), none, .call ⟨.value (.func 18), #[.tmp 93], #[9]⟩⟩, ⟨(some 90), none, .move (.tmp 94)⟩, ⟨(some 95), none, .extract (.tmp 90) 0⟩, ⟨(some 96), none, .extract (.tmp 90) 1⟩, ⟨(some 97), none, .extract (.tmp 90) 2⟩, ⟨(some 17), none, .assign (.tmp 95)⟩, ⟨(some 18), none, .assign (.tmp 96)⟩, ⟨(some 19), none, .assign (.tmp 97)⟩]))) (.seq (.seq .weak (.region [⟨(some 99), none, .load 31 (.tmp 14)⟩, ⟨(some 100), none, .call ⟨.value (.func 16), #[.tmp 99], #[31]⟩⟩, ⟨(some 101), none, .call ⟨.value (.func 20), #[.tmp 100], #[9]⟩⟩, ⟨(some 98), none, .move (.tmp 101)⟩, ⟨(some 102), none, .extract (.tmp 98) 0⟩, ⟨(some 103), none, .extract (.tmp 98) 1⟩, ⟨(some 20), none, .alloc 31⟩, ⟨none, none, .store 31 (.tmp 20) (.tmp 102)⟩, ⟨(some 21), none, .assign (.tmp 103)⟩])) (.seq (.seq .weak (.region [⟨(some 105), none, .load 56 (.tmp 16)⟩, ⟨(some 106), none, .call ⟨.value (.func 26), #[.const (.int .i64 40), .tmp 105], #[3, 56]⟩⟩, ⟨(some 107), none, .call ⟨.value (.func 28), #[.const (.int .i64 40), .tmp 106], #[3, 9]⟩⟩, ⟨(some 104), none, .move (.tmp 107)⟩, ⟨(some 108), none, .extract (.tmp 104) 0⟩, ⟨(some 109), none, .extract (.tmp 104) 1⟩, ⟨(some 22), none, .alloc 56⟩, ⟨none, none, .store 56 (.tmp 22) (.tmp 108)⟩, ⟨(some 23), none, .assign (.tmp 109)⟩])) (.seq (.seq .weak (.region [⟨(some 110), none, .move (.tmp 19)⟩, ⟨(some 111), none, .move (.tmp 110)⟩, ⟨(some 112), (some (111, true)), .move (.tmp 17)⟩, ⟨(some 113), (some (111, true)), .move (.tmp 11)⟩, ⟨(some 114), (some (111, true)), .call ⟨.value (.func 22), #[.tmp 112, .tmp 113], #[23, 23]⟩⟩, ⟨(some 115), none, .pick (.tmp 111) (.tmp 114) (.const (.bool false))⟩, ⟨(some 116), none, .move (.tmp 115)⟩, ⟨(some 117), (some (116, true)), .move (.tmp 18)⟩, ⟨(some 118), (some (116, true)), .move (.tmp 12)⟩, ⟨(some 119), (some (116, true)), .call ⟨.value (.func 23), #[.tmp 117, .tmp 118], #[24, 24]⟩⟩, ⟨(some 120), none, .pick (.tmp 116) (.tmp 119) (.const (.bool false))⟩, ⟨(some 121), none, .move (.tmp 120)⟩, ⟨(some 122), (some (121, true)), .move (.tmp 21)⟩, ⟨(some 123), none, .pick (.tmp 121) (.tmp 122) (.const (.bool false))⟩, ⟨(some 124), none, .move (.tmp 123)⟩, ⟨(some 125), (some (124, true)), .load 31 (.tmp 20)⟩, ⟨(some 126), (some (124, true)), .load 31 (.tmp 14)⟩, ⟨(some 127), (some (124, true)), .binOp .eql 31 (.tmp 125) (.tmp 126) 31⟩, ⟨(some 128), none, .pick (.tmp 124) (.tmp 127) (.const (.bool false))⟩, ⟨(some 129), none, .move (.tmp 128)⟩, ⟨(some 130), (some (129, true)), .move (.tmp 23)⟩, ⟨(some 131), none, .pick (.tmp 129) (.tmp 130) (.const (.bool false))⟩, ⟨(some 132), none, .move (.tmp 131)⟩, ⟨(some 133), (some (132, true)), .load 56 (.tmp 22)⟩, ⟨(some 134), (some (132, true)), .load 56 (.tmp 16)⟩, ⟨(some 135), (some (132, true)), .call ⟨.value (.func 30), #[.tmp 133, .tmp 134], #[56, 56]⟩⟩, ⟨(some 136), none, .pick (.tmp 132) (.tmp 135) (.const (.bool false))⟩, ⟨(some 137), none, .move (.tmp 136)⟩, ⟨(some 138), (some (137, true)), .load 56 (.tmp 16)⟩, ⟨(some 139), (some (137, true)), .call ⟨.value (.func 26), #[.const (.int .i64 40), .tmp 138], #[3, 56]⟩⟩, ⟨(some 140), (some (137, true)), .call ⟨.builtin .len, #[.tmp 139], #[9]⟩⟩, ⟨(some 141), (some (137, true)), .binOp .eql 3 (.tmp 140) (.const (.int .i64 20)) 3⟩, ⟨(some 142), none, .pick (.tmp 137) (.tmp 141) (.const (.bool false))⟩, ⟨(some 143), none, .move (.tmp 142)⟩, ⟨(some 144), (some (143, true)), .load 31 (.tmp 14)⟩, ⟨(some 145), (some (143, true)), .call ⟨.value (.func 16), #[.tmp 144], #[31]⟩⟩, ⟨(some 146), (some (143, true)), .call ⟨.builtin .len, #[.tmp 145], #[9]⟩⟩, ⟨(some 147), (some (143, true)), .binOp .eql 3 (.tmp 146) (.const (.int .i64 82)) 3⟩, ⟨(some 148), none, .pick (.tmp 143) (.tmp 147) (.const (.bool false))⟩, ⟨(some 10), none, .assign (.tmp 148)⟩])) (.ret)))))))
def G_law17_TableBack : GCode := .seq (.region [⟨(some 10), none, .assign (.const (.bool false))⟩]) (.seq (.seq (.region [⟨(some 24), none, .call ⟨.value (.func 9), #[], #[]⟩⟩, ⟨(some 25), none, .unOp .not 4 (.tmp 24)⟩]) (.cond (.tmp 25) (.seq (.region [⟨(some 10), none, .assign (.const (.bool false))⟩]) (.ret)) (.skip))) (.seq (.seq (.region [⟨(some 26), none, .move (.tmp 0)⟩, ⟨(some 27), none, .call ⟨.builtin .len, #[.tmp 26], #[22]⟩⟩, ⟨(some 28), none, .binOp .gtr 3 (.tmp 27) (.const (.int .i64 24)) 3⟩, ⟨(some 29), none, .move (.tmp 28)⟩, ⟨(some 30), (some (29, false)), .move (.tmp 1)⟩, ⟨(some 31), (some (29, false)), .call ⟨.builtin .len, #[.tmp 30], #[22]⟩⟩, ⟨(some 32), (some (29, false)), .binOp .gtr 3 (.tmp 31) (.const (.int .i64 40)) 3⟩, ⟨(some 33), none, .pick (.tmp 29) (.const (.bool true)) (.tmp 32)⟩, ⟨(some 34), none, .move (.tmp 33)⟩, ⟨(some 35), (some (34, false)), .move (.tmp 2)⟩, ⟨(some 36), (some (34, false)), .call ⟨.builtin .len, #[.tmp 35], #[22]⟩⟩, ⟨(some 37), (some (34, false)), .binOp .gtr 3 (.tmp 36) (.const (.int .i64 20)) 3⟩, ⟨(some 38), none, .pick (.tmp 34) (.const (.bool true)) (.tmp 37)⟩, ⟨(some 39), none, .move (.tmp 38)⟩, ⟨(some 40), (some (39, false)), .move (.tmp 3)⟩, ⟨(some 41), (some (39, false)), .call ⟨.builtin .len, #[.tmp 40], #[22]⟩⟩, ⟨(some 42), (some (39, false)), .binOp .gtr 3 (.tmp 41) (.const (.int .i64 20)) 3⟩, ⟨(some 43), none, .pick (.tmp 39) (.const (.bool true)) (.tmp 42)⟩, ⟨(some 44), none, .move (.tmp 43)⟩, ⟨(some 45), (some (44, false)), .move (.tmp 4)⟩, ⟨(some 46), (some (44, false)), .call ⟨.builtin .len, #[.tmp 45], #[22]⟩⟩, ⟨(some 47), (some (44, false)), .binOp .gtr 3 (.tmp 46) (.const (.int .i64 20)) 3⟩, ⟨(some 48), none, .pick (.tmp 44) (.const (.bool true)) (.tmp 47)⟩]) (.cond (.tmp 48) (.seq (.region [⟨(some 10), none, .assign (.const (.bool true))⟩]) (.ret)) (.skip))) (.seq (.seq .weak (.region [⟨(some 49), none, .move (.tmp 0)⟩, ⟨(some 50), none, .call ⟨.value (.func 10), #[.tmp 49], #[22]⟩⟩, ⟨(some 11), none, .assign (.tmp 50)⟩])) (.seq (.seq .weak (.region [⟨(some 51), none, .move (.tmp 1)⟩, ⟨(some 52), none, .call ⟨.value (.func 11), #[.tmp 51], #[22]⟩⟩, ⟨(some 53), none, .move (.tmp 11)⟩, ⟨(some 54), none, .call ⟨.builtin .len, #[.tmp 53], #[23]⟩⟩, ⟨(some 55), none, .call ⟨.value (.func 12), #[.tmp 52, .tmp 54], #[38, 3]⟩⟩, ⟨(some 12), none, .assign (.tmp 55)⟩])) (.seq (.seq (.seq .weak (.region [⟨(some 13), none, .assign (.const (.int .i64 0))⟩])) (.block 0 (.loop (.seq .weak (.seq (.seq (.region [⟨(some 56), none, .move (.tmp 13)⟩, ⟨(some 57), none, .move (.tmp 12)⟩, ⟨(some 58), none, .call ⟨.builtin .len, #[.tmp 57], #[24]⟩⟩, ⟨(some 59), none, .binOp .lss 3 (.tmp 56) (.tmp 58) 3⟩]) (.cond (.tmp 59) (.skip) (.exit 0))) (.seq (.block 1 (.seq (.seq .weak (.region [⟨(some 62), none, .move (.tmp 12)⟩, ⟨(some 63), none, .move (.tmp 13)⟩, ⟨(some 64), none, .indexAddr 24 (.tmp 62) (.tmp 63)⟩, ⟨(some 65), none, .fieldAddr 29 (.tmp 64) 0⟩, ⟨(some 66), none, .load 3 (.tmp 65)⟩, ⟨(some 67), none, .binOp .eql 3 (.tmp 66) (.const (.int .i64 0)) 3⟩])) (.cond (.tmp 67) (.seq .weak (.region [⟨(some 68), none, .move (.tmp 12)⟩, ⟨(some 69), none, .move (.tmp 13)⟩, ⟨(some 70), none, .move (.tmp 13)⟩, ⟨(some 71), none, .binOp .add 3 (.const (.int .i64 30)) (.tmp 70) 3⟩, ⟨(some 72), none, .build 29 #[(0, .tmp 71), (1, .const (.int .i64 1))]⟩, ⟨(some 73), none, .indexAddr 24 (.tmp 68) (.tmp 69)⟩, ⟨none, none, .store 29 (.tmp 73) (.tmp 72)⟩])) (.skip)))) (.region [⟨(some 60), none, .move (.tmp 13)⟩, ⟨(some 61), none, .binOp .add 3 (.tmp 60) (.const (.int .i64 1)) 3⟩, ⟨(some 13), none, .assign (.tmp 61)⟩]))))))) (G_law17_TableBack_12))))))
noncomputable def l_law17_TableBack : List (Nat × Con) := [(9, c_law17_begun), (10, c_law17_heads), (11, c_made_Made), (12, c_made_Picks_Ptrs), (15, c_made_Picks_Root), (24, c_made_Picks_Runs), (25, c_ref8_Less), (13, c_table_Table), (18, c_table_TakeTable), (16, c_table_Root), (20, c_table_TakeRoot), (26, c_table_Space), (28, c_table_TakeSpace), (22, c_law17_same), (23, c_ref1_SamePtrs), (30, c_ref8_SameSpace)]
noncomputable abbrev K_law17_TableBack : Ctx := ctx (cl l_law17_TableBack)
theorem geq_law17_TableBack : gof K_law17_TableBack Try.f5 = some G_law17_TableBack.strip := by kernel_rfl
theorem sys_law17_TableBack : Go.Eng.Sys Try.prog K_law17_TableBack := sys_of' ⟨ok_law17_begun, ok_law17_heads, ok_made_Made, ok_made_Picks_Ptrs, ok_made_Picks_Root, ok_made_Picks_Runs, ok_ref8_Less, ok_table_Table, ok_table_TakeTable, ok_table_Root, ok_table_TakeRoot, ok_table_Space, ok_table_TakeSpace, ok_law17_same, ok_ref1_SamePtrs, ok_ref8_SameSpace, trivial⟩
theorem hm_law17_TableBack : ConMono K_law17_TableBack := conMono_of sys_law17_TableBack.con
noncomputable def k_law17_TableBack_law17_begun := PLift.up (call_scal (C := K_law17_TableBack) (f := 9) (A := A_law17_begun) (p := p_law17_begun) (r := r_law17_begun) rfl)
noncomputable def k_law17_TableBack_law17_heads := PLift.up (call_fn (C := K_law17_TableBack) (f := 10) (A := A_law17_heads) (p := p_law17_heads) (r := r_law17_heads) rfl)
noncomputable def k_law17_TableBack_made_Made := PLift.up (call_new (C := K_law17_TableBack) (f := 11) (c := q_made_Made) (e := e_made_Made) (mk := mk_made_Made) rfl)
noncomputable def k_law17_TableBack_made_Picks_Ptrs := PLift.up (call_gen (C := K_law17_TableBack) (f := 12) (modes := m_made_Picks_Ptrs) (F := F_made_Picks_Ptrs) rfl)
noncomputable def k_law17_TableBack_made_Picks_Root := PLift.up (call_gen (C := K_law17_TableBack) (f := 15) (modes := m_made_Picks_Root) (F := F_made_Picks_Root) rfl)
noncomputable def k_law17_TableBack_made_Picks_Runs := PLift.up (call_gen (C := K_law17_TableBack) (f := 24) (modes := m_made_Picks_Runs) (F := F_made_Picks_Runs) rfl)
noncomputable def k_law17_TableBack_ref8_Less := PLift.up (call_fn (C := K_law17_TableBack) (f := 25) (A := A_ref8_Less) (p := p_ref8_Less) (r := r_ref8_Less) rfl)
noncomputable def k_law17_TableBack_table_Table := PLift.up (call_scal (C := K_law17_TableBack) (f := 13) (A := A_table_Table) (p := p_table_Table) (r := r_table_Table) rfl)
noncomputable def k_law17_TableBack_table_TakeTable := PLift.up (call_fn (C := K_law17_TableBack) (f := 18) (A := A_table_TakeTable) (p := p_table_TakeTable) (r := r_table_TakeTable) rfl)
noncomputable def k_law17_TableBack_table_Root := PLift.up (call_scal (C := K_law17_TableBack) (f := 16) (A := A_table_Root) (p := p_table_Root) (r := r_table_Root) rfl)
noncomputable def k_law17_TableBack_table_TakeRoot := PLift.up (call_fn (C := K_law17_TableBack) (f := 20) (A := A_table_TakeRoot) (p := p_table_TakeRoot) (r := r_table_TakeRoot) rfl)
noncomputable def k_law17_TableBack_table_Space := PLift.up (call_scal (C := K_law17_TableBack) (f := 26) (A := A_table_Space) (p := p_table_Space) (r := r_table_Space) rfl)
noncomputable def k_law17_TableBack_table_TakeSpace := PLift.up (call_fn (C := K_law17_TableBack) (f := 28) (A := A_table_TakeSpace) (p := p_table_TakeSpace) (r := r_table_TakeSpace) rfl)
noncomputable def k_law17_TableBack_law17_same := PLift.up (call_scal (C := K_law17_TableBack) (f := 22) (A := A_law17_same) (p := p_law17_same) (r := r_law17_same) rfl)
noncomputable def k_law17_TableBack_ref1_SamePtrs := PLift.up (call_scal (C := K_law17_TableBack) (f := 23) (A := A_ref1_SamePtrs) (p := p_ref1_SamePtrs) (r := r_ref1_SamePtrs) rfl)
noncomputable def k_law17_TableBack_ref8_SameSpace := PLift.up (call_scal (C := K_law17_TableBack) (f := 30) (A := A_ref8_SameSpace) (p := p_ref8_SameSpace) (r := r_ref8_SameSpace) rfl)
set_option maxHeartbeats 4000000 in
theorem back_12 {h : List TDset} {P : List TPtr} {m a b : List Byt} (hN : NoF h) (hto : tabOk h P = true) (hPl : P.length ≤ 8) (la : m.length ≤ 1000) (lb : a.length ≤ 1000) (lc : b.length ≤ 1000) {σ : St}
    (hσ : Wk σ (mkS [(2, .t (sl m)), (3, .t (sl a)), (4, .t (sl b)), (11, .t (sl h)), (12, .t (sl P))] .empty)) :
    avp K_law17_TableBack G_law17_TableBack_12 (Ret K_law17_TableBack [.tmp 10] fun v _ => v = .t (.bool true)) σ := by
  unfold G_law17_TableBack_12
  simp only [avp_seq]
  refine ⟨_, hσ, ?_⟩
  have ht := tab_back hto hN.2
  have tl : (tabB h P).length ≤ 1000000 := by
    have h1 := rowsB_len h P h.length
    have h2 := headB_len h
    have h3 : h.length ≤ 8 := by
      rw [tabOk, Bool.and_eq_true, decide_eq_true_eq] at hto; exact hto.1
    rw [tabB, if_pos hto, List.length_append]; omega
  simp only [vP.down, vS.down, vE.down, Nat.reduceEqDiff, Nat.reduceAdd, Nat.reduceSub, Nat.reduceMul, Nat.reduceLeDiff, Nat.reduceLT, Int.reduceToNat, reduceIte, reduceCtorEq, Int.reduceEq, Int.reduceLT, Int.reduceLE, ↓avp_condG, ↓tf_arrow, ↓ft_arrow, k_law17_TableBack_made_Made.down, q_made_Made, e_made_Made, mk_made_Made, k_law17_TableBack_made_Picks_Root.down, m_made_Picks_Root]
  refine ⟨⟨m, rfl⟩, fun g1 hg1 => ⟨g1, m, rfl, pk_new hg1 (by omega), fun r S1 hr H1 => ?_⟩⟩
  simp only [vP.down, vS.down, vE.down, Nat.reduceEqDiff, Nat.reduceAdd, Nat.reduceSub, Nat.reduceMul, Nat.reduceLeDiff, Nat.reduceLT, Int.reduceToNat, reduceIte, reduceCtorEq, Int.reduceEq, Int.reduceLT, Int.reduceLE, ↓avp_condG, ↓tf_arrow, ↓ft_arrow, rtC, ptC, List.cons_append, List.nil_append]
  intro g14 hg14
  refine weak_at [(3, .t (sl a)), (4, .t (sl b)), (11, .t (sl h)), (12, .t (sl P)), (14, .imm (rtC r))] .empty fewer_empty (by
    simp only [vP.down, vS.down, vE.down, Nat.reduceEqDiff, Nat.reduceAdd, Nat.reduceSub, Nat.reduceMul, Nat.reduceLeDiff, Nat.reduceLT, Int.reduceToNat, reduceIte, reduceCtorEq, Int.reduceEq, Int.reduceLT, Int.reduceLE, ↓avp_condG, ↓tf_arrow, ↓ft_arrow, wP.down]
    exact w2_imm (l := rtC r) (ro := false) (Store.set_same _ _ _) rfl) ?_
  clear hg14 H1 hg1
  simp only [vP.down, vS.down, vE.down, Nat.reduceEqDiff, Nat.reduceAdd, Nat.reduceSub, Nat.reduceMul, Nat.reduceLeDiff, Nat.reduceLT, Int.reduceToNat, reduceIte, reduceCtorEq, Int.reduceEq, Int.reduceLT, Int.reduceLE, ↓avp_condG, ↓tf_arrow, ↓ft_arrow, k_law17_TableBack_made_Made.down, q_made_Made, e_made_Made, mk_made_Made, k_law17_TableBack_made_Picks_Runs.down, m_made_Picks_Runs]
  refine ⟨⟨a, rfl⟩, fun g1 hg1 => ?_⟩
  refine runs_any (pk_new hg1 (by omega)) (by omega) (by omega) fun v1 S1 x hv1 hx H1 _ => ?_
  refine weak_at [(4, .t (sl b)), (11, .t (sl h)), (12, .t (sl P)), (14, .imm (rtC r)), (15, .t (sl x))] .empty fewer_empty (by
    simp only [vP.down, vS.down, vE.down, Nat.reduceEqDiff, Nat.reduceAdd, Nat.reduceSub, Nat.reduceMul, Nat.reduceLeDiff, Nat.reduceLT, Int.reduceToNat, reduceIte, reduceCtorEq, Int.reduceEq, Int.reduceLT, Int.reduceLE, ↓avp_condG, ↓tf_arrow, ↓ft_arrow, wP.down, rtC, ptC, List.cons_append, List.nil_append]
    exact hv1.w2 fun _ _ => rfl) ?_
  clear hv1 H1 hg1
  simp only [vP.down, vS.down, vE.down, Nat.reduceEqDiff, Nat.reduceAdd, Nat.reduceSub, Nat.reduceMul, Nat.reduceLeDiff, Nat.reduceLT, Int.reduceToNat, reduceIte, reduceCtorEq, Int.reduceEq, Int.reduceLT, Int.reduceLE, ↓avp_condG, ↓tf_arrow, ↓ft_arrow, k_law17_TableBack_made_Made.down, q_made_Made, e_made_Made, mk_made_Made, k_law17_TableBack_made_Picks_Runs.down, m_made_Picks_Runs]
  refine ⟨⟨b, rfl⟩, fun g1 hg1 => ?_⟩
  refine runs_any (pk_new hg1 (by omega)) (by omega) (by omega) fun v1 S1 y hv1 hy H1 _ => ?_
  obtain ⟨u, ros, hb, _, hdc⟩ := hv1.borrow
  have lx := hx.len8
  have ly := hy.len8
  have q1 : y.length + x.length ≤ 1099511627 := by omega
  simp only [vP.down, vS.down, vE.down, Nat.reduceEqDiff, Nat.reduceAdd, Nat.reduceSub, Nat.reduceMul, Nat.reduceLeDiff, Nat.reduceLT, Int.reduceToNat, reduceIte, reduceCtorEq, Int.reduceEq, Int.reduceLT, Int.reduceLE, ↓avp_condG, ↓tf_arrow, ↓ft_arrow, hb, hdc, q1, k_law17_TableBack_made_Made.down, q_made_Made, e_made_Made, mk_made_Made, k_law17_TableBack_made_Picks_Runs.down, m_made_Picks_Runs, k_law17_TableBack_ref8_Less.down, A_ref8_Less, p_ref8_Less, r_ref8_Less]
  refine ⟨⟨b, rfl⟩, fun g2 hg2 => ?_⟩
  refine runs_any (pk_new hg2 (by omega)) (by omega) (by omega) fun v2 S2 w hv2 hw H2 _ => ?_
  simp only [vP.down, vS.down, vE.down, Nat.reduceEqDiff, Nat.reduceAdd, Nat.reduceSub, Nat.reduceMul, Nat.reduceLeDiff, Nat.reduceLT, Int.reduceToNat, reduceIte, reduceCtorEq, Int.reduceEq, Int.reduceLT, Int.reduceLE, ↓avp_condG, ↓tf_arrow, ↓ft_arrow, hv2.cells, hv2.one]
  intro g16 hg16
  obtain ⟨o, ho⟩ : ∃ o, o = whereL .less y x := ⟨_, rfl⟩
  rw [← ho]
  refine weak_at [(11, .t (sl h)), (12, .t (sl P)), (14, .imm (rtC r)), (16, .ptr g16 0)] (Store.empty.set g16 (some (.box [.t (sl x), .t (sl o), .t .nilS, .t (sl w)] false))) (sp_freeze (Store.set_same _ _ _) (hv2.fresh hg16)) (by simp only [vP.down, vS.down, vE.down, Nat.reduceEqDiff, Nat.reduceAdd, Nat.reduceSub, Nat.reduceMul, Nat.reduceLeDiff, Nat.reduceLT, Int.reduceToNat, reduceIte, reduceCtorEq, Int.reduceEq, Int.reduceLT, Int.reduceLE, ↓avp_condG, ↓tf_arrow, ↓ft_arrow, wP.down, rtC, ptC, List.cons_append, List.nil_append]) ?_
  simp only [vP.down, vS.down, vE.down, Nat.reduceEqDiff, Nat.reduceAdd, Nat.reduceSub, Nat.reduceMul, Nat.reduceLeDiff, Nat.reduceLT, Int.reduceToNat, reduceIte, reduceCtorEq, Int.reduceEq, Int.reduceLT, Int.reduceLE, ↓avp_condG, ↓tf_arrow, ↓ft_arrow]
  refine weak_at [(11, .t (sl h)), (12, .t (sl P)), (14, .imm (rtC r)), (16, .imm [sl x, sl o, .nilS, sl w])] .empty fewer_empty (by
    simp only [vP.down, vS.down, vE.down, Nat.reduceEqDiff, Nat.reduceAdd, Nat.reduceSub, Nat.reduceMul, Nat.reduceLeDiff, Nat.reduceLT, Int.reduceToNat, reduceIte, reduceCtorEq, Int.reduceEq, Int.reduceLT, Int.reduceLE, ↓avp_condG, ↓tf_arrow, ↓ft_arrow, wP.down, rtC, ptC, List.cons_append, List.nil_append]
    exact w2_imm (l := [sl x, sl o, .nilS, sl w]) (ro := false) (Store.set_same _ _ _) rfl) ?_
  have hS : Sp ⟨x, o, [], w⟩ := Sp.mk' hx.nf (ho ▸ where_nf) .nil hw.nf hx.wn (ho ▸ less_wn hy.wn) wn_nil hw.wn (fun i => by
    rw [ho, where_has]
    simp only [How.op]
    cases hasR x i <;> simp) (fun i => Bool.and_false _) (fun i => Bool.and_false _)
  clear hv1 hv2 H1 H2 hg1 hg2 hg16 hb hdc
  obtain ⟨B0, hB⟩ : ∃ B, B = tabB h P := ⟨_, rfl⟩
  rw [← hB] at ht tl
  simp only [vP.down, vS.down, vE.down, Nat.reduceEqDiff, Nat.reduceAdd, Nat.reduceSub, Nat.reduceMul, Nat.reduceLeDiff, Nat.reduceLT, Int.reduceToNat, reduceIte, reduceCtorEq, Int.reduceEq, Int.reduceLT, Int.reduceLE, ↓avp_condG, ↓tf_arrow, ↓ft_arrow, ht, tl, ← hB, k_law17_TableBack_table_Table.down, A_table_Table, p_table_Table, r_table_Table, k_law17_TableBack_table_TakeTable.down, A_table_TakeTable, p_table_TakeTable, r_table_TakeTable]
  refine weak_at [(11, .t (sl h)), (12, .t (sl P)), (14, .imm (rtC r)), (16, .imm [sl x, sl o, .nilS, sl w]), (17, .t (sl h)), (18, .t (sl P)), (19, .t (.bool true))] .empty fewer_refl (by simp only [vP.down, vS.down, vE.down, Nat.reduceEqDiff, Nat.reduceAdd, Nat.reduceSub, Nat.reduceMul, Nat.reduceLeDiff, Nat.reduceLT, Int.reduceToNat, reduceIte, reduceCtorEq, Int.reduceEq, Int.reduceLT, Int.reduceLE, ↓avp_condG, ↓tf_arrow, ↓ft_arrow, wP.down, rtC, ptC, List.cons_append, List.nil_append]) ?_
  obtain ⟨rb, rl⟩ := rt_back hr
  obtain ⟨R0, hR⟩ : ∃ B, B = rootB r := ⟨_, rfl⟩
  rw [← hR] at rb rl
  have pr : R0.length ≤ 1000000 := by omega
  simp only [vP.down, vS.down, vE.down, Nat.reduceEqDiff, Nat.reduceAdd, Nat.reduceSub, Nat.reduceMul, Nat.reduceLeDiff, Nat.reduceLT, Int.reduceToNat, reduceIte, reduceCtorEq, Int.reduceEq, Int.reduceLT, Int.reduceLE, ↓avp_condG, ↓tf_arrow, ↓ft_arrow, rtC, ptC, List.cons_append, List.nil_append, ← hR, rb, pr, k_law17_TableBack_table_Root.down, A_table_Root, p_table_Root, r_table_Root, k_law17_TableBack_table_TakeRoot.down, A_table_TakeRoot, p_table_TakeRoot, r_table_TakeRoot]
  intro g20 hg20
  refine weak_at [(11, .t (sl h)), (12, .t (sl P)), (14, .imm (rtC r)), (16, .imm [sl x, sl o, .nilS, sl w]), (17, .t (sl h)), (18, .t (sl P)), (19, .t (.bool true)), (20, .imm (rtC r)), (21, .t (.bool true))] .empty fewer_empty (by
    simp only [vP.down, vS.down, vE.down, Nat.reduceEqDiff, Nat.reduceAdd, Nat.reduceSub, Nat.reduceMul, Nat.reduceLeDiff, Nat.reduceLT, Int.reduceToNat, reduceIte, reduceCtorEq, Int.reduceEq, Int.reduceLT, Int.reduceLE, ↓avp_condG, ↓tf_arrow, ↓ft_arrow, wP.down, rtC, ptC, List.cons_append, List.nil_append]
    exact w2_imm (l := rtC r) (ro := false) (Store.set_same _ _ _) rfl) ?_
  clear hg20
  obtain ⟨sb, sl'⟩ := sp_back (n := 40) rfl hS
  have hSl := hS.len
  obtain ⟨S0, hS0⟩ : ∃ B, B = spaceB 40 ⟨x, o, [], w⟩ := ⟨_, rfl⟩
  have sb : takeSp 40 S0 = (⟨x, o, [], w⟩, true) := hS0 ▸ sb
  have sl' : S0.length = 20 := hS0 ▸ sl'
  have ps : S0.length ≤ 1000000 := by omega
  simp only [vP.down, vS.down, vE.down, Nat.reduceEqDiff, Nat.reduceAdd, Nat.reduceSub, Nat.reduceMul, Nat.reduceLeDiff, Nat.reduceLT, Int.reduceToNat, reduceIte, reduceCtorEq, Int.reduceEq, Int.reduceLT, Int.reduceLE, ↓avp_condG, ↓tf_arrow, ↓ft_arrow, hSl, ← hS0, sb, ps, spC, k_law17_TableBack_table_Space.down, A_table_Space, p_table_Space, r_table_Space, k_law17_TableBack_table_TakeSpace.down, A_table_TakeSpace, p_table_TakeSpace, r_table_TakeSpace]
  intro g22 hg22
  refine weak_at [(11, .t (sl h)), (12, .t (sl P)), (14, .imm (rtC r)), (16, .imm [sl x, sl o, .nilS, sl w]), (17, .t (sl h)), (18, .t (sl P)), (19, .t (.bool true)), (20, .imm (rtC r)), (21, .t (.bool true)), (22, .imm (spC ⟨x, o, [], w⟩)), (23, .t (.bool true))] .empty fewer_empty (by
    simp only [vP.down, vS.down, vE.down, Nat.reduceEqDiff, Nat.reduceAdd, Nat.reduceSub, Nat.reduceMul, Nat.reduceLeDiff, Nat.reduceLT, Int.reduceToNat, reduceIte, reduceCtorEq, Int.reduceEq, Int.reduceLT, Int.reduceLE, ↓avp_condG, ↓tf_arrow, ↓ft_arrow, wP.down, rtC, ptC, List.cons_append, List.nil_append]
    exact w2_imm (l := spC ⟨x, o, [], w⟩) (ro := false) (Store.set_same _ _ _) rfl) ?_
  clear hg22
  have pP : P.length < 4611686018427387904 := by omega
  simp only [vP.down, vS.down, vE.down, Nat.reduceEqDiff, Nat.reduceAdd, Nat.reduceSub, Nat.reduceMul, Nat.reduceLeDiff, Nat.reduceLT, Int.reduceToNat, reduceIte, reduceCtorEq, Int.reduceEq, Int.reduceLT, Int.reduceLE, ↓avp_condG, ↓tf_arrow, ↓ft_arrow, hN, pP, hSl, ← hS0, sl', ← hR, rl, rtC, ptC, List.cons_append, List.nil_append, spC, pick_of, pick_ot, k_law17_TableBack_law17_same.down, A_law17_same, p_law17_same, r_law17_same, k_law17_TableBack_ref1_SamePtrs.down, A_ref1_SamePtrs, p_ref1_SamePtrs, r_ref1_SamePtrs, k_law17_TableBack_ref8_SameSpace.down, A_ref8_SameSpace, p_ref8_SameSpace, r_ref8_SameSpace, k_law17_TableBack_table_Space.down, A_table_Space, p_table_Space, r_table_Space, k_law17_TableBack_table_Root.down, A_table_Root, p_table_Root, r_table_Root]
  simp only [vP.down, vS.down, vE.down, Nat.reduceEqDiff, Nat.reduceAdd, Nat.reduceSub, Nat.reduceMul, Nat.reduceLeDiff, Nat.reduceLT, Int.reduceToNat, reduceIte, reduceCtorEq, Int.reduceEq, Int.reduceLT, Int.reduceLE, ↓avp_condG, ↓tf_arrow, ↓ft_arrow, vT.down]
noncomputable def A_law17_TableBack : Arms ((List Byt) × (List Byt) × (List Byt) × (List Byt) × (List Byt) × Unit) := Arms.cons (argT (List Byt)) (Arms.cons (argT (List Byt)) (Arms.cons (argT (List Byt)) (Arms.cons (argT (List Byt)) (Arms.cons (argT (List Byt)) (Arms.nil)))))
def p_law17_TableBack (x : (List Byt) × (List Byt) × (List Byt) × (List Byt) × (List Byt) × Unit) : Prop := (goodList (fun x : Byt => goodAny x) x.1) ∧ (goodList (fun x : Byt => goodAny x) x.2.1) ∧ (goodList (fun x : Byt => goodAny x) x.2.2.1) ∧ (goodList (fun x : Byt => goodAny x) x.2.2.2.1) ∧ (goodList (fun x : Byt => goodAny x) x.2.2.2.2.1) ∧ goodAny (x.2.2.2.2.2)
abbrev r_law17_TableBack (x : (List Byt) × (List Byt) × (List Byt) × (List Byt) × (List Byt) × Unit) : AV := rTrue x
theorem rd_law17_TableBack : ReadsA Try.prog [22, 22, 22, 22, 22] A_law17_TableBack p_law17_TableBack := (readsA_T (reads_list Try.underlying22 (reads_u8 Try.underlying5) (by kernel_rfl) (by decide)) (by kernel_rfl) (readsA_T (reads_list Try.underlying22 (reads_u8 Try.underlying5) (by kernel_rfl) (by decide)) (by kernel_rfl) (readsA_T (reads_list Try.underlying22 (reads_u8 Try.underlying5) (by kernel_rfl) (by decide)) (by kernel_rfl) (readsA_T (reads_list Try.underlying22 (reads_u8 Try.underlying5) (by kernel_rfl) (by decide)) (by kernel_rfl) (readsA_T (reads_list Try.underlying22 (reads_u8 Try.underlying5) (by kernel_rfl) (by decide)) (by kernel_rfl) readsA_nil)))))
set_option maxHeartbeats 4000000 in
theorem body_law17_TableBack (x) (hx : p_law17_TableBack x) : avp K_law17_TableBack G_law17_TableBack (Ret K_law17_TableBack [.tmp 10] fun v _ => v = r_law17_TableBack x) (entry (A_law17_TableBack.enc x) .empty) := by
  obtain ⟨l, pk, m, a, b, ⟨⟩⟩ := x
  change avp _ _ (Ret _ _ fun v _ => v = .t (.bool true)) (entry [.t (sl l), .t (sl pk), .t (sl m), .t (sl a), .t (sl b)] .empty)
  unfold G_law17_TableBack
  by_cases c1 : (24 : Int) < (l.length : Int)
  · simp only [vP.down, vS.down, vE.down, Nat.reduceEqDiff, Nat.reduceAdd, Nat.reduceSub, Nat.reduceMul, Nat.reduceLeDiff, Nat.reduceLT, Int.reduceToNat, reduceIte, reduceCtorEq, Int.reduceEq, Int.reduceLT, Int.reduceLE, ↓avp_condG, ↓tf_arrow, ↓ft_arrow, k_law17_TableBack_law17_begun.down, A_law17_begun, p_law17_begun, r_law17_begun, c1, gt_iff_lt, pick_of, pick_ot]
    simp only [vP.down, vS.down, vE.down, Nat.reduceEqDiff, Nat.reduceAdd, Nat.reduceSub, Nat.reduceMul, Nat.reduceLeDiff, Nat.reduceLT, Int.reduceToNat, reduceIte, reduceCtorEq, Int.reduceEq, Int.reduceLT, Int.reduceLE, ↓avp_condG, ↓tf_arrow, ↓ft_arrow, vT.down]
  by_cases c2 : (40 : Int) < (pk.length : Int)
  · simp only [vP.down, vS.down, vE.down, Nat.reduceEqDiff, Nat.reduceAdd, Nat.reduceSub, Nat.reduceMul, Nat.reduceLeDiff, Nat.reduceLT, Int.reduceToNat, reduceIte, reduceCtorEq, Int.reduceEq, Int.reduceLT, Int.reduceLE, ↓avp_condG, ↓tf_arrow, ↓ft_arrow, k_law17_TableBack_law17_begun.down, A_law17_begun, p_law17_begun, r_law17_begun, c1, c2, gt_iff_lt, pick_of, pick_ot]
    simp only [vP.down, vS.down, vE.down, Nat.reduceEqDiff, Nat.reduceAdd, Nat.reduceSub, Nat.reduceMul, Nat.reduceLeDiff, Nat.reduceLT, Int.reduceToNat, reduceIte, reduceCtorEq, Int.reduceEq, Int.reduceLT, Int.reduceLE, ↓avp_condG, ↓tf_arrow, ↓ft_arrow, vT.down]
  by_cases c3 : (20 : Int) < (m.length : Int)
  · simp only [vP.down, vS.down, vE.down, Nat.reduceEqDiff, Nat.reduceAdd, Nat.reduceSub, Nat.reduceMul, Nat.reduceLeDiff, Nat.reduceLT, Int.reduceToNat, reduceIte, reduceCtorEq, Int.reduceEq, Int.reduceLT, Int.reduceLE, ↓avp_condG, ↓tf_arrow, ↓ft_arrow, k_law17_TableBack_law17_begun.down, A_law17_begun, p_law17_begun, r_law17_begun, c1, c2, c3, gt_iff_lt, pick_of, pick_ot]
    simp only [vP.down, vS.down, vE.down, Nat.reduceEqDiff, Nat.reduceAdd, Nat.reduceSub, Nat.reduceMul, Nat.reduceLeDiff, Nat.reduceLT, Int.reduceToNat, reduceIte, reduceCtorEq, Int.reduceEq, Int.reduceLT, Int.reduceLE, ↓avp_condG, ↓tf_arrow, ↓ft_arrow, vT.down]
  by_cases c4 : (20 : Int) < (a.length : Int)
  · simp only [vP.down, vS.down, vE.down, Nat.reduceEqDiff, Nat.reduceAdd, Nat.reduceSub, Nat.reduceMul, Nat.reduceLeDiff, Nat.reduceLT, Int.reduceToNat, reduceIte, reduceCtorEq, Int.reduceEq, Int.reduceLT, Int.reduceLE, ↓avp_condG, ↓tf_arrow, ↓ft_arrow, k_law17_TableBack_law17_begun.down, A_law17_begun, p_law17_begun, r_law17_begun, c1, c2, c3, c4, gt_iff_lt, pick_of, pick_ot]
    simp only [vP.down, vS.down, vE.down, Nat.reduceEqDiff, Nat.reduceAdd, Nat.reduceSub, Nat.reduceMul, Nat.reduceLeDiff, Nat.reduceLT, Int.reduceToNat, reduceIte, reduceCtorEq, Int.reduceEq, Int.reduceLT, Int.reduceLE, ↓avp_condG, ↓tf_arrow, ↓ft_arrow, vT.down]
  by_cases c5 : (20 : Int) < (b.length : Int)
  · simp only [vP.down, vS.down, vE.down, Nat.reduceEqDiff, Nat.reduceAdd, Nat.reduceSub, Nat.reduceMul, Nat.reduceLeDiff, Nat.reduceLT, Int.reduceToNat, reduceIte, reduceCtorEq, Int.reduceEq, Int.reduceLT, Int.reduceLE, ↓avp_condG, ↓tf_arrow, ↓ft_arrow, k_law17_TableBack_law17_begun.down, A_law17_begun, p_law17_begun, r_law17_begun, c1, c2, c3, c4, c5, gt_iff_lt, pick_of, pick_ot]
    simp only [vP.down, vS.down, vE.down, Nat.reduceEqDiff, Nat.reduceAdd, Nat.reduceSub, Nat.reduceMul, Nat.reduceLeDiff, Nat.reduceLT, Int.reduceToNat, reduceIte, reduceCtorEq, Int.reduceEq, Int.reduceLT, Int.reduceLE, ↓avp_condG, ↓tf_arrow, ↓ft_arrow, vT.down]
  simp only [vP.down, vS.down, vE.down, Nat.reduceEqDiff, Nat.reduceAdd, Nat.reduceSub, Nat.reduceMul, Nat.reduceLeDiff, Nat.reduceLT, Int.reduceToNat, reduceIte, reduceCtorEq, Int.reduceEq, Int.reduceLT, Int.reduceLE, ↓avp_condG, ↓tf_arrow, ↓ft_arrow, k_law17_TableBack_law17_begun.down, A_law17_begun, p_law17_begun, r_law17_begun, c1, c2, c3, c4, c5, gt_iff_lt, pick_of, pick_ot]
  refine weak_at [(2, .t (sl m)), (3, .t (sl a)), (4, .t (sl b)), (1, .t (sl pk)), (0, .t (sl l))] .empty fewer_refl (by simp only [vP.down, vS.down, vE.down, Nat.reduceEqDiff, Nat.reduceAdd, Nat.reduceSub, Nat.reduceMul, Nat.reduceLeDiff, Nat.reduceLT, Int.reduceToNat, reduceIte, reduceCtorEq, Int.reduceEq, Int.reduceLT, Int.reduceLE, ↓avp_condG, ↓tf_arrow, ↓ft_arrow, wP.down]) ?_
  have pl : l.length ≤ 1000 := by omega
  simp only [vP.down, vS.down, vE.down, Nat.reduceEqDiff, Nat.reduceAdd, Nat.reduceSub, Nat.reduceMul, Nat.reduceLeDiff, Nat.reduceLT, Int.reduceToNat, reduceIte, reduceCtorEq, Int.reduceEq, Int.reduceLT, Int.reduceLE, ↓avp_condG, ↓tf_arrow, ↓ft_arrow, pl, k_law17_TableBack_law17_heads.down, A_law17_heads, p_law17_heads, r_law17_heads]
  have hN := head_noF (l := l)
  have hlen := head_len (l := l)
  have hk8 : hdK l ≤ 8 := by unfold hdK; omega
  have hok := fun (p : List TPtr) => head_ok (l := l) (p := p)
  obtain ⟨h, hh⟩ : ∃ h, h = headL l := ⟨_, rfl⟩
  obtain ⟨K, hK⟩ : ∃ k, k = hdK l := ⟨_, rfl⟩
  rw [← hh] at hN hlen hok ⊢
  rw [← hK] at hlen hk8 hok
  refine weak_at [(2, .t (sl m)), (3, .t (sl a)), (4, .t (sl b)), (1, .t (sl pk)), (11, .t (sl h))] .empty fewer_refl (by simp only [vP.down, vS.down, vE.down, Nat.reduceEqDiff, Nat.reduceAdd, Nat.reduceSub, Nat.reduceMul, Nat.reduceLeDiff, Nat.reduceLT, Int.reduceToNat, reduceIte, reduceCtorEq, Int.reduceEq, Int.reduceLT, Int.reduceLE, ↓avp_condG, ↓tf_arrow, ↓ft_arrow, wP.down]) ?_
  simp only [vP.down, vS.down, vE.down, Nat.reduceEqDiff, Nat.reduceAdd, Nat.reduceSub, Nat.reduceMul, Nat.reduceLeDiff, Nat.reduceLT, Int.reduceToNat, reduceIte, reduceCtorEq, Int.reduceEq, Int.reduceLT, Int.reduceLE, ↓avp_condG, ↓tf_arrow, ↓ft_arrow, hlen, k_law17_TableBack_made_Made.down, q_made_Made, e_made_Made, mk_made_Made, k_law17_TableBack_made_Picks_Ptrs.down, m_made_Picks_Ptrs]
  refine ⟨⟨pk, rfl⟩, fun g1 hg1 => ⟨g1, pk, K, rfl, pk_new hg1 (by omega), by omega, fun v0 S0 L hv0 hLm hLl H1 _ => ?_⟩⟩
  clear H1 hg1
  refine weak_at [(2, .t (sl m)), (3, .t (sl a)), (4, .t (sl b)), (11, .t (sl h)), (12, v0)] S0 fewer_refl (by simp only [vP.down, vS.down, vE.down, Nat.reduceEqDiff, Nat.reduceAdd, Nat.reduceSub, Nat.reduceMul, Nat.reduceLeDiff, Nat.reduceLT, Int.reduceToNat, reduceIte, reduceCtorEq, Int.reduceEq, Int.reduceLT, Int.reduceLE, ↓avp_condG, ↓tf_arrow, ↓ft_arrow, wP.down]) ?_
  simp only [vP.down, vS.down, vE.down, Nat.reduceEqDiff, Nat.reduceAdd, Nat.reduceSub, Nat.reduceMul, Nat.reduceLeDiff, Nat.reduceLT, Int.reduceToNat, reduceIte, reduceCtorEq, Int.reduceEq, Int.reduceLT, Int.reduceLE, ↓avp_condG, ↓tf_arrow, ↓ft_arrow]
  refine loop_weak hm_law17_TableBack (fun mz σ => ∃ (i : Nat) (v : AV) (S : Store), mz = L.length - i ∧ i ≤ L.length ∧ OW S v (fixL L i) ∧ σ = mkS [(2, .t (sl m)), (3, .t (sl a)), (4, .t (sl b)), (11, .t (sl h)), (12, v), (13, .t (.int .i64 (i : Nat)))] S)
    ⟨0, v0, S0, rfl, by omega, hv0, rfl⟩ (wk_to fewer_refl (by simp only [vP.down, vS.down, vE.down, Nat.reduceEqDiff, Nat.reduceAdd, Nat.reduceSub, Nat.reduceMul, Nat.reduceLeDiff, Nat.reduceLT, Int.reduceToNat, reduceIte, reduceCtorEq, Int.reduceEq, Int.reduceLT, Int.reduceLE, ↓avp_condG, ↓tf_arrow, ↓ft_arrow, wP.down, Int.natCast_zero])) ?_
  clear hv0
  rintro mz _ ⟨i, v, S, rfl, hi, hv, rfl⟩
  have hi1 : IntKind.i64.wrap ((i : Int) + 1) = ((i + 1 : Nat) : Int) := by rw [IntWalk.i64_in _ (by omega)]; rfl
  have hMl := fixL_len (L := L) i
  have hln := hv.lv.len (C := K_law17_TableBack) ty_Lapi_Ptr
  rw [hMl] at hln
  by_cases hlt : i < L.length
  case pos =>
    have hlt' : (i : Int) < (L.length : Int) := by omega
    have hst : fixL L (i + 1) = (fixL L i).set i (fix1 i ((fixL L i).getD i default)) := rfl
    rcases hv with ⟨_, h0⟩ | ⟨g, rfl, hr⟩
    · rw [h0] at hMl
      simp at hMl
      omega
    obtain ⟨M, hM⟩ : ∃ M, M = fixL L i := ⟨_, rfl⟩
    rw [← hM] at hr hMl hst hln ⊢
    have hrow := row_ptr (M := M) (i := i) (by omega)
    have hrl : (M.map Cell.enc).length = L.length := by rw [List.length_map, hMl]
    obtain ⟨q, hq⟩ : ∃ q, q = M.getD i default := ⟨_, rfl⟩
    rw [← hq] at hrow hst
    have hi0 : (0 : Int) ≤ (i : Int) := by omega
    simp only [vP.down, vS.down, vE.down, Nat.reduceEqDiff, Nat.reduceAdd, Nat.reduceSub, Nat.reduceMul, Nat.reduceLeDiff, Nat.reduceLT, Int.reduceToNat, reduceIte, reduceCtorEq, Int.reduceEq, Int.reduceLT, Int.reduceLE, ↓avp_condG, ↓tf_arrow, ↓ft_arrow, hMl, hlt']
    refine weak_at [(2, .t (sl m)), (3, .t (sl a)), (4, .t (sl b)), (11, .t (sl h)), (12, .tok g 6 0 L.length), (13, .t (.int .i64 (i : Nat)))] S fewer_refl (by simp only [vP.down, vS.down, vE.down, Nat.reduceEqDiff, Nat.reduceAdd, Nat.reduceSub, Nat.reduceMul, Nat.reduceLeDiff, Nat.reduceLT, Int.reduceToNat, reduceIte, reduceCtorEq, Int.reduceEq, Int.reduceLT, Int.reduceLE, ↓avp_condG, ↓tf_arrow, ↓ft_arrow, wP.down, hMl]) ?_
    by_cases h0 : q.Addr = 0
    · have e1 : fix1 i q = ⟨30 + (i : Int), 1, (0, 0, 0, 0)⟩ := by rw [fix1, if_pos h0]
      have hpt := fix_put (M := M) (i := i) (x := ⟨30 + (i : Int), 1, (0, 0, 0, 0)⟩) (by omega)
      rw [← e1, ← hst] at hpt
      have hpt' : putRow (M.map Cell.enc) i 0 [.int .i64 (30 + (i : Int)), .int .i64 1, .int .u32 0, .int .u32 0, .int .u32 0, .int .u32 0] = (fixL L (i + 1)).map Cell.enc := by rw [← hpt, e1]; rfl
      have w30 : IntKind.i64.wrap (30 + (i : Int)) = 30 + (i : Int) := IntWalk.i64_in _ (by omega)
      have hl1 := fixL_len (L := L) (i + 1)
      simp only [vP.down, vS.down, vE.down, Nat.reduceEqDiff, Nat.reduceAdd, Nat.reduceSub, Nat.reduceMul, Nat.reduceLeDiff, Nat.reduceLT, Int.reduceToNat, reduceIte, reduceCtorEq, Int.reduceEq, Int.reduceLT, Int.reduceLE, ↓avp_condG, ↓tf_arrow, ↓ft_arrow, hr, hrow, hrl, hlt, hlt', hi0, ptC, h0, hMl]
      refine weak_at [(2, .t (sl m)), (3, .t (sl a)), (4, .t (sl b)), (11, .t (sl h)), (12, .tok g 6 0 L.length), (13, .t (.int .i64 (i : Nat)))] S fewer_refl (by simp only [vP.down, vS.down, vE.down, Nat.reduceEqDiff, Nat.reduceAdd, Nat.reduceSub, Nat.reduceMul, Nat.reduceLeDiff, Nat.reduceLT, Int.reduceToNat, reduceIte, reduceCtorEq, Int.reduceEq, Int.reduceLT, Int.reduceLE, ↓avp_condG, ↓tf_arrow, ↓ft_arrow, wP.down]) ?_
      simp only [vP.down, vS.down, vE.down, Nat.reduceEqDiff, Nat.reduceAdd, Nat.reduceSub, Nat.reduceMul, Nat.reduceLeDiff, Nat.reduceLT, Int.reduceToNat, reduceIte, reduceCtorEq, Int.reduceEq, Int.reduceLT, Int.reduceLE, ↓avp_condG, ↓tf_arrow, ↓ft_arrow, hr, hrow, hrl, hlt, hlt', hi0, ptC, w30, hpt', hMl]
      refine ⟨by simp, ?_⟩
      exact round_to (L.length - (i + 1)) [(2, .t (sl m)), (3, .t (sl a)), (4, .t (sl b)), (11, .t (sl h)), (12, .tok g 6 0 L.length), (13, .t (.int .i64 (i + 1 : Nat)))] (S.set g (some (.row 6 ((fixL L (i + 1)).map Cell.enc) false))) (by omega) fewer_refl (by simp only [vP.down, vS.down, vE.down, Nat.reduceEqDiff, Nat.reduceAdd, Nat.reduceSub, Nat.reduceMul, Nat.reduceLeDiff, Nat.reduceLT, Int.reduceToNat, reduceIte, reduceCtorEq, Int.reduceEq, Int.reduceLT, Int.reduceLE, ↓avp_condG, ↓tf_arrow, ↓ft_arrow, wP.down, hi1]) ⟨i + 1, _, _, rfl, by omega, .inr ⟨g, by rw [hl1]; rfl, Store.set_same _ _ _⟩, rfl⟩
    · have e1 : fix1 i q = q := by rw [fix1, if_neg h0]
      have e2 : fixL L (i + 1) = M := by
        rw [hst, e1, hq]
        refine List.ext_getElem (by rw [List.length_set]) fun j h1 h2 => ?_
        rw [List.getElem_set]
        split
        · next hij => subst hij; rw [List.getD_eq_getElem?_getD, List.getElem?_eq_getElem h2]; rfl
        · rfl
      simp only [vP.down, vS.down, vE.down, Nat.reduceEqDiff, Nat.reduceAdd, Nat.reduceSub, Nat.reduceMul, Nat.reduceLeDiff, Nat.reduceLT, Int.reduceToNat, reduceIte, reduceCtorEq, Int.reduceEq, Int.reduceLT, Int.reduceLE, ↓avp_condG, ↓tf_arrow, ↓ft_arrow, hr, hrow, hrl, hlt, hlt', hi0, ptC, h0, hMl]
      exact round_to (L.length - (i + 1)) [(2, .t (sl m)), (3, .t (sl a)), (4, .t (sl b)), (11, .t (sl h)), (12, .tok g 6 0 L.length), (13, .t (.int .i64 (i + 1 : Nat)))] S (by omega) fewer_refl (by simp only [vP.down, vS.down, vE.down, Nat.reduceEqDiff, Nat.reduceAdd, Nat.reduceSub, Nat.reduceMul, Nat.reduceLeDiff, Nat.reduceLT, Int.reduceToNat, reduceIte, reduceCtorEq, Int.reduceEq, Int.reduceLT, Int.reduceLE, ↓avp_condG, ↓tf_arrow, ↓ft_arrow, wP.down, hi1]) ⟨i + 1, _, S, rfl, by omega, .inr ⟨g, by rw [fixL_len]; rfl, by rw [e2]; exact hr⟩, rfl⟩
  obtain rfl : i = L.length := by omega
  have hge : ¬ (L.length : Int) < (L.length : Int) := by omega
  have hpo := fixL_ok hLm (by omega)
  have hto := hok (fixL L L.length) (by rw [fixL_len, hLl]) hpo
  simp only [vP.down, vS.down, vE.down, Nat.reduceEqDiff, Nat.reduceAdd, Nat.reduceSub, Nat.reduceMul, Nat.reduceLeDiff, Nat.reduceLT, Int.reduceToNat, reduceIte, reduceCtorEq, Int.reduceEq, Int.reduceLT, Int.reduceLE, ↓avp_condG, ↓tf_arrow, ↓ft_arrow, hln, hge]
  exact back_12 (m := m) (a := a) (b := b) hN hto (by rw [fixL_len]; omega) (by omega) (by omega) (by omega) (wk_to fewer_empty (by
    simp only [vP.down, vS.down, vE.down, Nat.reduceEqDiff, Nat.reduceAdd, Nat.reduceSub, Nat.reduceMul, Nat.reduceLeDiff, Nat.reduceLT, Int.reduceToNat, reduceIte, reduceCtorEq, Int.reduceEq, Int.reduceLT, Int.reduceLE, ↓avp_condG, ↓tf_arrow, ↓ft_arrow, wP.down]
    refine LV.w2 (s' := Store.empty) hv.lv ?_
    exact fun _ _ => rfl))
noncomputable def c_law17_TableBack : Con := fnScal A_law17_TableBack p_law17_TableBack r_law17_TableBack
theorem ok_law17_TableBack : COk Try.prog 5 c_law17_TableBack := fn_sok sys_law17_TableBack mixed Try.func5 (by kernel_rfl) geq_law17_TableBack Try.ntmps5 (by rw [Try.results5]) (fun x => by simp [rTrue, AV.scal]) fun x hx => ⟨Nat.le_of_ble_eq_true rfl, body_law17_TableBack x hx⟩
theorem says_law17_TableBack : SaysTrue Rows.tableBackSpec 5 := ⟨rfl, fun H ds h => by
  match ds, h with
  | [d0, d1, d2, d3, d4], _ => exact ⟨rfl, rfl, rfl⟩⟩
set_option maxRecDepth 100000 in
theorem lifted_law17_TableBack (os : Os) (started : os.Started) (H : Type) (enc : TypeId × Value → H) :
    ReturnsInHanded {} Try.checked os 5 .any (Rows.tableBackSpec.pre6 enc Try.prog Try.f5 Rows.tableBackRow.domain false) (Rows.tableBackSpec.post enc Try.prog Try.f5 false true false false) := by
  refine returnsInHanded_of_change (C := Try.checked) own started (by kernel_rfl) Try.func5
    (ChangeSpec.witness6 (enc := enc) (C := Try.checked) false ⟨#[], #[.slice none 0 0, .slice none 0 0, .slice none 0 0, .slice none 0 0, .slice none 0 0], []⟩ 8 (by kernel_rfl) (by kernel_rfl) (by kernel_rfl) (by kernel_rfl)) ?_
  intro W base args ds gs before hval hW _ _
  exact law_contract (ts := [22, 22, 22, 22, 22]) (tb := 4) ok_law17_TableBack (by rw [Try.params5]) (by kernel_rfl) Try.underlying4 laid (by kernel_rfl) rd_law17_TableBack (fun _ h => h) says_law17_TableBack H enc W base args ds gs before hval hW
theorem over_law17_TableBack : Rows.tableBackRow.holds Try.pinned (OpenSpec.ofChange Rows.tableBackSpec) :=
  OpenClaim.holds_of_wide 5 Try.f5 rfl rfl rfl rfl rfl rfl rfl ⟨rfl, rfl, rfl, rfl, rfl⟩ rfl rfl rfl rfl rfl (by kernel_rfl) Try.func5 (by kernel_rfl)
    (of_decide_eq_true (by kernel_rfl)) (by unfold Func.isWrapper; first | (rw [if_pos (by decide +kernel)]; kernel_rfl) | (rw [if_neg (by decide +kernel)]; exact ⟨rfl, rfl⟩))
    (fun os started H enc _ => lifted_law17_TableBack os started H enc)
theorem tableBack_holds : Rows.TableBackSaid := over_law17_TableBack
end Go.Proofs.Ytofcmdkmhbbbjaa
