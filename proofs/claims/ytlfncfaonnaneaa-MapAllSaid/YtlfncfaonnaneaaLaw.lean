/-
  MapAll.
-/
import Derived.Test.YtlfncfaonnaneaaFnsD
set_option linter.unusedSimpArgs false
set_option linter.unusedVariables false
namespace Go.Proofs.Ytlfncfaonnaneaa
open Go Go.Eng
def G_law9_MapAll_7 : GCode := .seq (.seq (.seq .weak (.region [⟨(some 13), none, .assign (.const (.int .i64 0))⟩])) (.block 0 (.loop (.seq .weak (.seq (.seq (.region [⟨(some 46), none, .move (.tmp 13)⟩, ⟨(some 47), none, .binOp .lss 3 (.tmp 46) (.const (.int .i64 3)) 3⟩]) (.cond (.tmp 47) (.skip) (.exit 0))) (.seq (.block 1 (.seq (.seq (.region [⟨(some 14), none, .assign (.const (.int .i64 0))⟩]) (.block 2 (.loop (.seq .weak (.seq (.seq (.region [⟨(some 50), none, .move (.tmp 14)⟩, ⟨(some 51), none, .binOp .lss 3 (.tmp 50) (.const (.int .i64 3)) 3⟩]) (.cond (.tmp 51) (.skip) (.exit 2))) (.seq (.block 3 (.seq (.seq .weak (.region [⟨(some 54), none, .move (.tmp 12)⟩, ⟨(some 55), none, .move (.tmp 14)⟩, ⟨(some 56), none, .indexAddr 29 (.tmp 54) (.tmp 55)⟩, ⟨(some 57), none, .load 3 (.tmp 56)⟩, ⟨(some 58), none, .move (.tmp 11)⟩, ⟨(some 59), none, .move (.tmp 13)⟩, ⟨(some 60), none, .indexAddr 28 (.tmp 58) (.tmp 59)⟩, ⟨(some 61), none, .load 23 (.tmp 60)⟩, ⟨(some 62), none, .call ⟨.value (.func 11), #[.tmp 57, .tmp 61], #[3, 23]⟩⟩, ⟨(some 63), none, .move (.tmp 12)⟩, ⟨(some 64), none, .move (.tmp 14)⟩, ⟨(some 65), none, .indexAddr 29 (.tmp 63) (.tmp 64)⟩, ⟨(some 66), none, .load 3 (.tmp 65)⟩, ⟨(some 67), none, .move (.tmp 11)⟩, ⟨(some 68), none, .move (.tmp 13)⟩, ⟨(some 69), none, .indexAddr 28 (.tmp 67) (.tmp 68)⟩, ⟨(some 70), none, .load 23 (.tmp 69)⟩, ⟨(some 71), none, .call ⟨.value (.func 12), #[.tmp 66, .tmp 70], #[3, 23]⟩⟩, ⟨(some 72), none, .binOp .neq 9 (.tmp 62) (.tmp 71) 9⟩])) (.cond (.tmp 72) (.seq (.region [⟨(some 10), none, .assign (.const (.bool false))⟩]) (.ret)) (.skip)))) (.region [⟨(some 52), none, .move (.tmp 14)⟩, ⟨(some 53), none, .binOp .add 3 (.tmp 52) (.const (.int .i64 1)) 3⟩, ⟨(some 14), none, .assign (.tmp 53)⟩]))))))) (.seq (.seq .weak (.region [⟨(some 74), none, .move (.tmp 12)⟩, ⟨(some 75), none, .move (.tmp 13)⟩, ⟨(some 76), none, .indexAddr 29 (.tmp 74) (.tmp 75)⟩, ⟨(some 77), none, .load 3 (.tmp 76)⟩, ⟨(some 78), none, .move (.tmp 2)⟩, ⟨(some 79), none, .call ⟨.value (.func 13), #[.tmp 77, .tmp 78], #[3, 9]⟩⟩, ⟨(some 73), none, .move (.tmp 79)⟩, ⟨(some 80), none, .extract (.tmp 73) 0⟩, ⟨(some 81), none, .extract (.tmp 73) 1⟩, ⟨(some 82), none, .extract (.tmp 73) 2⟩, ⟨(some 15), none, .assign (.tmp 80)⟩, ⟨(some 16), none, .assign (.tmp 81)⟩, ⟨(some 17), none, .assign (.tmp 82)⟩])) (.seq (.seq .weak (.region [⟨(some 84), none, .move (.tmp 12)⟩, ⟨(some 85), none, .move (.tmp 13)⟩, ⟨(some 86), none, .indexAddr 29 (.tmp 84) (.tmp 85)⟩, ⟨(some 87), none, .load 3 (.tmp 86)⟩, ⟨(some 88), none, .move (.tmp 2)⟩, ⟨(some 89), none, .call ⟨.value (.func 14), #[.tmp 87, .tmp 88], #[3, 9]⟩⟩, ⟨(some 83), none, .move (.tmp 89)⟩, ⟨(some 90), none, .extract (.tmp 83) 0⟩, ⟨(some 91), none, .extract (.tmp 83) 1⟩, ⟨(some 92), none, .extract (.tmp 83) 2⟩, ⟨(some 18), none, .assign (.tmp 90)⟩, ⟨(some 19), none, .assign (.tmp 91)⟩, ⟨(some 20), none, .assign (.tmp 92)⟩])) (.seq (.seq .weak (.region [⟨(some 93), none, .move (.tmp 17)⟩, ⟨(some 94), none, .move (.tmp 20)⟩, ⟨(some 95), none, .binOp .neq 4 (.tmp 93) (.tmp 94) 4⟩, ⟨(some 96), none, .move (.tmp 95)⟩, ⟨(some 97), (some (96, false)), .move (.tmp 16)⟩, ⟨(some 98), (some (96, false)), .move (.tmp 19)⟩, ⟨(some 99), (some (96, false)), .binOp .neq 9 (.tmp 97) (.tmp 98) 9⟩, ⟨(some 100), none, .pick (.tmp 96) (.const (.bool true)) (.tmp 99)⟩, ⟨(some 101), none, .move (.tmp 100)⟩, ⟨(some 102), (some (101, false)), .move (.tmp 15)⟩, ⟨(some 103), (some (101, false)), .move (.tmp 18)⟩, ⟨(some 104), (some (101, false)), .call ⟨.value (.func 15), #[.tmp 102, .tmp 103], #[23, 23]⟩⟩, ⟨(some 105), (some (101, false)), .unOp .not 4 (.tmp 104)⟩, ⟨(some 106), none, .pick (.tmp 101) (.const (.bool true)) (.tmp 105)⟩])) (.cond (.tmp 106) (.seq (.region [⟨(some 10), none, .assign (.const (.bool false))⟩]) (.ret)) (.skip))))))) (.region [⟨(some 48), none, .move (.tmp 13)⟩, ⟨(some 49), none, .binOp .add 3 (.tmp 48) (.const (.int .i64 1)) 3⟩, ⟨(some 13), none, .assign (.tmp 49)⟩]))))))) (.seq (.region [⟨(some 10), none, .assign (.const (.bool true))⟩]) (.ret))
def G_law9_MapAll : GCode := .seq (.region [⟨(some 10), none, .assign (.const (.bool false))⟩]) (.seq (.seq (.region [⟨(some 21), none, .call ⟨.value (.func 8), #[], #[]⟩⟩, ⟨(some 22), none, .unOp .not 4 (.tmp 21)⟩]) (.cond (.tmp 22) (.seq (.region [⟨(some 10), none, .assign (.const (.bool false))⟩]) (.ret)) (.skip))) (.seq (.seq (.region [⟨(some 23), none, .move (.tmp 0)⟩, ⟨(some 24), none, .call ⟨.builtin .len, #[.tmp 23], #[22]⟩⟩, ⟨(some 25), none, .binOp .gtr 3 (.tmp 24) (.const (.int .i64 20)) 3⟩, ⟨(some 26), none, .move (.tmp 25)⟩, ⟨(some 27), (some (26, false)), .move (.tmp 1)⟩, ⟨(some 28), (some (26, false)), .call ⟨.builtin .len, #[.tmp 27], #[23]⟩⟩, ⟨(some 29), (some (26, false)), .binOp .gtr 3 (.tmp 28) (.const (.int .i64 5)) 3⟩, ⟨(some 30), none, .pick (.tmp 26) (.const (.bool true)) (.tmp 29)⟩, ⟨(some 31), none, .move (.tmp 30)⟩, ⟨(some 32), (some (31, false)), .move (.tmp 2)⟩, ⟨(some 33), (some (31, false)), .call ⟨.builtin .len, #[.tmp 32], #[9]⟩⟩, ⟨(some 34), (some (31, false)), .binOp .gtr 3 (.tmp 33) (.const (.int .i64 40)) 3⟩, ⟨(some 35), none, .pick (.tmp 31) (.const (.bool true)) (.tmp 34)⟩]) (.cond (.tmp 35) (.seq (.region [⟨(some 10), none, .assign (.const (.bool true))⟩]) (.ret)) (.skip))) (.seq (.region [⟨(some 36), none, .move (.tmp 0)⟩, ⟨(some 37), none, .call ⟨.value (.func 9), #[.tmp 36], #[22]⟩⟩, ⟨(some 38), none, .call ⟨.value (.func 10), #[.tmp 37, .const (.int .i64 8)], #[25, 3]⟩⟩, ⟨(some 39), none, .move (.tmp 1)⟩, ⟨(some 40), none, .buildSlice 28 3 #[(0, .tmp 38), (1, .tmp 39), (2, .const (.slice none 0 0))]⟩, ⟨(some 11), none, .assign (.tmp 40)⟩]) (.seq (.seq .weak (.region [⟨(some 41), none, .move (.tmp 3)⟩, ⟨(some 42), none, .move (.tmp 4)⟩, ⟨(some 43), none, .convert 5 3 (.tmp 42)⟩, ⟨(some 44), none, .binOp .add 3 (.const (.int .i64 40)) (.tmp 43) 3⟩, ⟨(some 45), none, .buildSlice 29 3 #[(0, .tmp 41), (1, .tmp 44), (2, .const (.int .i64 40))]⟩, ⟨(some 12), none, .assign (.tmp 45)⟩])) (G_law9_MapAll_7)))))
noncomputable def l_law9_MapAll : List (Nat × Con) := [(8, c_law9_begun), (9, c_made_Made), (10, c_made_Picks_Runs), (11, c_smap_Put), (12, c_ref8_PutMap), (13, c_smap_Take), (14, c_ref8_TakeMap), (15, c_ref8_Same)]
noncomputable abbrev K_law9_MapAll : Ctx := ctx (cl l_law9_MapAll)
theorem geq_law9_MapAll : gof K_law9_MapAll Try.f3 = some G_law9_MapAll.strip := by kernel_rfl
theorem sys_law9_MapAll : Go.Eng.Sys Try.prog K_law9_MapAll := sys_of' ⟨ok_law9_begun, ok_made_Made, ok_made_Picks_Runs, ok_smap_Put, ok_ref8_PutMap, ok_smap_Take, ok_ref8_TakeMap, ok_ref8_Same, trivial⟩
theorem hm_law9_MapAll : ConMono K_law9_MapAll := conMono_of sys_law9_MapAll.con
noncomputable def k_law9_MapAll_law9_begun := PLift.up (call_scal (C := K_law9_MapAll) (f := 8) (A := A_law9_begun) (p := p_law9_begun) (r := r_law9_begun) rfl)
noncomputable def k_law9_MapAll_made_Made := PLift.up (call_new (C := K_law9_MapAll) (f := 9) (c := q_made_Made) (e := e_made_Made) (mk := mk_made_Made) rfl)
noncomputable def k_law9_MapAll_made_Picks_Runs := PLift.up (call_gen (C := K_law9_MapAll) (f := 10) (modes := m_made_Picks_Runs) (F := F_made_Picks_Runs) rfl)
noncomputable def k_law9_MapAll_smap_Put := PLift.up (call_scal (C := K_law9_MapAll) (f := 11) (A := A_smap_Put) (p := p_smap_Put) (r := r_smap_Put) rfl)
noncomputable def k_law9_MapAll_ref8_PutMap := PLift.up (call_scal (C := K_law9_MapAll) (f := 12) (A := A_ref8_PutMap) (p := p_ref8_PutMap) (r := r_ref8_PutMap) rfl)
noncomputable def k_law9_MapAll_smap_Take := PLift.up (call_fn (C := K_law9_MapAll) (f := 13) (A := A_smap_Take) (p := p_smap_Take) (r := r_smap_Take) rfl)
noncomputable def k_law9_MapAll_ref8_TakeMap := PLift.up (call_fn (C := K_law9_MapAll) (f := 14) (A := A_ref8_TakeMap) (p := p_ref8_TakeMap) (r := r_ref8_TakeMap) rfl)
noncomputable def k_law9_MapAll_ref8_Same := PLift.up (call_scal (C := K_law9_MapAll) (f := 15) (A := A_ref8_Same) (p := p_ref8_Same) (r := r_ref8_Same) rfl)
noncomputable def A_law9_MapAll : Arms ((List Byt) × (List TRun) × (List UInt8) × Int × Byt × Unit) := Arms.cons (argT (List Byt)) (Arms.cons (argT (List TRun)) (Arms.cons (argT (List UInt8)) (Arms.cons (argT Int) (Arms.cons (argT Byt) (Arms.nil)))))
def p_law9_MapAll (x : (List Byt) × (List TRun) × (List UInt8) × Int × Byt × Unit) : Prop := (goodList (fun x : Byt => goodAny x) x.1) ∧ (goodList (fun x : TRun => (goodInt x.From ∧ (goodInt x.To))) x.2.1) ∧ (goodStr x.2.2.1) ∧ (goodInt x.2.2.2.1) ∧ (goodAny x.2.2.2.2.1) ∧ goodAny (x.2.2.2.2.2)
abbrev r_law9_MapAll (x : (List Byt) × (List TRun) × (List UInt8) × Int × Byt × Unit) : AV := rTrue x
theorem rd_law9_MapAll : ReadsA Try.prog [22, 23, 9, 3, 5] A_law9_MapAll p_law9_MapAll := (readsA_T (reads_list Try.underlying22 (reads_u8 Try.underlying5) (by kernel_rfl) (by decide)) (by kernel_rfl) (readsA_T (reads_list Try.underlying23 (reads_iso (h := fun _ => rfl) (h' := fun _ => rfl) (reads_struct Try.underlying38 (by kernel_rfl) (by kernel_rfl) (readsL_cons (reads_int Try.underlying3) (by kernel_rfl) (readsL_one (reads_int Try.underlying3) (by kernel_rfl))))) (by kernel_rfl) (by decide)) (by kernel_rfl) (readsA_T (reads_str Try.underlying9) (by kernel_rfl) (readsA_T (reads_int Try.underlying3) (by kernel_rfl) (readsA_T (reads_u8 Try.underlying5) (by kernel_rfl) readsA_nil)))))
theorem take_len {n : Int} {s : List UInt8} : (takeM n s).1.length ≤ 1000 := by
  rw [takeM]
  split
  · next h =>
    have h1 : dataOk n = true := by rw [takeOkM, Bool.and_eq_true] at h; exact h.1
    have h2 := dataOk_iff.1 h1
    have h3 := ofL_len (idsB s (8 * ((n.toNat + 7) / 8)))
    have h4 := idsB_len (s := s) (8 * ((n.toNat + 7) / 8))
    show (ofL (idsB s (8 * ((n.toNat + 7) / 8)))).length ≤ 1000
    omega
  · exact Nat.zero_le _
set_option maxRecDepth 100000 in
set_option maxHeartbeats 4000000 in
theorem all_7 {L : List (List TRun)} {D : List Int} {s : List UInt8} (hL : L.length = 3) (hD : D.length = 3) (hl : ∀ m ∈ L, m.length ≤ 8) (hs : s.length ≤ 40) {σ : St} (hσ : Wk σ (mkS [(2, .t (.str s)), (11, .t (sl L)), (12, .t (sl D))] .empty)) :
    avp K_law9_MapAll G_law9_MapAll_7 (Ret K_law9_MapAll [.tmp 10] fun v _ => v = .t (.bool true)) σ := by
  unfold G_law9_MapAll_7
  simp only [avp_seq]
  refine ⟨_, hσ, ?_⟩
  simp only [vP.down, vS.down, vE.down, Nat.reduceEqDiff, Nat.reduceAdd, Nat.reduceSub, Nat.reduceMul, Nat.reduceLeDiff, Nat.reduceLT, Int.reduceToNat, reduceIte, reduceCtorEq, Int.reduceEq, Int.reduceLT, Int.reduceLE, ↓avp_condG, ↓tf_arrow, ↓ft_arrow]
  refine loop_weak hm_law9_MapAll (fun m σ => ∃ i : Nat, m = 3 - i ∧ i ≤ 3 ∧ σ = mkS [(2, .t (.str s)), (11, .t (sl L)), (12, .t (sl D)), (13, .t (.int .i64 (i : Nat)))] .empty) ⟨0, rfl, by omega, rfl⟩ (wk_to fewer_refl (by simp only [vP.down, vS.down, vE.down, Nat.reduceEqDiff, Nat.reduceAdd, Nat.reduceSub, Nat.reduceMul, Nat.reduceLeDiff, Nat.reduceLT, Int.reduceToNat, reduceIte, reduceCtorEq, Int.reduceEq, Int.reduceLT, Int.reduceLE, ↓avp_condG, ↓tf_arrow, ↓ft_arrow, wP.down, Int.natCast_zero])) ?_
  rintro m _ ⟨i, rfl, hi, rfl⟩
  have hi1 : IntKind.i64.wrap ((i : Int) + 1) = ((i + 1 : Nat) : Int) := by rw [IntWalk.i64_in _ (by omega)]; rfl
  by_cases hlt : i < 3
  case neg =>
    obtain rfl : i = 3 := by omega
    have hge : ¬ ((3 : Int) < 3) := by omega
    simp only [vP.down, vS.down, vE.down, Nat.reduceEqDiff, Nat.reduceAdd, Nat.reduceSub, Nat.reduceMul, Nat.reduceLeDiff, Nat.reduceLT, Int.reduceToNat, reduceIte, reduceCtorEq, Int.reduceEq, Int.reduceLT, Int.reduceLE, ↓avp_condG, ↓tf_arrow, ↓ft_arrow, hge, show ((3 : Nat) : Int) = 3 from rfl]
    simp only [vP.down, vS.down, vE.down, Nat.reduceEqDiff, Nat.reduceAdd, Nat.reduceSub, Nat.reduceMul, Nat.reduceLeDiff, Nat.reduceLT, Int.reduceToNat, reduceIte, reduceCtorEq, Int.reduceEq, Int.reduceLT, Int.reduceLE, ↓avp_condG, ↓tf_arrow, ↓ft_arrow, vT.down]
  have hlt' : (i : Int) < 3 := by omega
  have x0 := idx_at (C := K_law9_MapAll) (l := L) (i := i) ty_LLapi_Run ty_Lapi_Run rfl (by omega) .i64
  have x1 := idx_at (C := K_law9_MapAll) (l := D) (i := i) ty_Lint ty_int rfl (by omega) .i64
  have hm : (L.getD i default).length ≤ 8 := hl _ (by
    rw [List.getD_eq_getElem?_getD, List.getElem?_eq_getElem (by omega)]; exact List.getElem_mem _)
  obtain ⟨q, hq⟩ : ∃ q, q = L.getD i default := ⟨_, rfl⟩
  obtain ⟨d, hd⟩ : ∃ d, d = D.getD i default := ⟨_, rfl⟩
  rw [← hq] at x0 hm
  rw [← hd] at x1
  have pq : q.length ≤ 1000000 := by omega
  have ps : s.length ≤ 1000000 := by omega
  have pt : (takeM d s).1.length < 4611686018427387904 := by have := take_len (n := d) (s := s); omega
  simp only [vP.down, vS.down, vE.down, Nat.reduceEqDiff, Nat.reduceAdd, Nat.reduceSub, Nat.reduceMul, Nat.reduceLeDiff, Nat.reduceLT, Int.reduceToNat, reduceIte, reduceCtorEq, Int.reduceEq, Int.reduceLT, Int.reduceLE, ↓avp_condG, ↓tf_arrow, ↓ft_arrow, hlt']
  refine loop_weak hm_law9_MapAll (fun m σ => ∃ j : Nat, m = 3 - j ∧ j ≤ 3 ∧ σ = mkS [(2, .t (.str s)), (11, .t (sl L)), (12, .t (sl D)), (13, .t (.int .i64 (i : Nat))), (14, .t (.int .i64 (j : Nat)))] .empty) ⟨0, rfl, by omega, rfl⟩ (wk_to fewer_refl (by simp only [vP.down, vS.down, vE.down, Nat.reduceEqDiff, Nat.reduceAdd, Nat.reduceSub, Nat.reduceMul, Nat.reduceLeDiff, Nat.reduceLT, Int.reduceToNat, reduceIte, reduceCtorEq, Int.reduceEq, Int.reduceLT, Int.reduceLE, ↓avp_condG, ↓tf_arrow, ↓ft_arrow, wP.down, Int.natCast_zero])) ?_
  rintro m _ ⟨j, rfl, hj, rfl⟩
  have hj1 : IntKind.i64.wrap ((j : Int) + 1) = ((j + 1 : Nat) : Int) := by rw [IntWalk.i64_in _ (by omega)]; rfl
  by_cases hlj : j < 3
  case neg =>
    obtain rfl : j = 3 := by omega
    have hge : ¬ ((3 : Int) < 3) := by omega
    simp only [vP.down, vS.down, vE.down, Nat.reduceEqDiff, Nat.reduceAdd, Nat.reduceSub, Nat.reduceMul, Nat.reduceLeDiff, Nat.reduceLT, Int.reduceToNat, reduceIte, reduceCtorEq, Int.reduceEq, Int.reduceLT, Int.reduceLE, ↓avp_condG, ↓tf_arrow, ↓ft_arrow, hge, show ((3 : Nat) : Int) = 3 from rfl]
    refine weak_at [(2, .t (.str s)), (11, .t (sl L)), (12, .t (sl D)), (13, .t (.int .i64 (i : Nat)))] .empty fewer_refl (by simp only [vP.down, vS.down, vE.down, Nat.reduceEqDiff, Nat.reduceAdd, Nat.reduceSub, Nat.reduceMul, Nat.reduceLeDiff, Nat.reduceLT, Int.reduceToNat, reduceIte, reduceCtorEq, Int.reduceEq, Int.reduceLT, Int.reduceLE, ↓avp_condG, ↓tf_arrow, ↓ft_arrow, wP.down]) ?_
    simp only [vP.down, vS.down, vE.down, Nat.reduceEqDiff, Nat.reduceAdd, Nat.reduceSub, Nat.reduceMul, Nat.reduceLeDiff, Nat.reduceLT, Int.reduceToNat, reduceIte, reduceCtorEq, Int.reduceEq, Int.reduceLT, Int.reduceLE, ↓avp_condG, ↓tf_arrow, ↓ft_arrow, x1, ps, k_law9_MapAll_smap_Take.down, A_smap_Take, p_smap_Take, r_smap_Take]
    refine weak_at [(2, .t (.str s)), (11, .t (sl L)), (12, .t (sl D)), (13, .t (.int .i64 (i : Nat))), (15, .t (sl (takeM d s).1)), (16, .t (.str (takeM d s).2.1)), (17, .t (.bool (takeM d s).2.2))] .empty fewer_refl (by simp only [vP.down, vS.down, vE.down, Nat.reduceEqDiff, Nat.reduceAdd, Nat.reduceSub, Nat.reduceMul, Nat.reduceLeDiff, Nat.reduceLT, Int.reduceToNat, reduceIte, reduceCtorEq, Int.reduceEq, Int.reduceLT, Int.reduceLE, ↓avp_condG, ↓tf_arrow, ↓ft_arrow, wP.down]) ?_
    simp only [vP.down, vS.down, vE.down, Nat.reduceEqDiff, Nat.reduceAdd, Nat.reduceSub, Nat.reduceMul, Nat.reduceLeDiff, Nat.reduceLT, Int.reduceToNat, reduceIte, reduceCtorEq, Int.reduceEq, Int.reduceLT, Int.reduceLE, ↓avp_condG, ↓tf_arrow, ↓ft_arrow, x1, ps, k_law9_MapAll_ref8_TakeMap.down, A_ref8_TakeMap, p_ref8_TakeMap, r_ref8_TakeMap]
    refine weak_at [(2, .t (.str s)), (11, .t (sl L)), (12, .t (sl D)), (13, .t (.int .i64 (i : Nat))), (15, .t (sl (takeM d s).1)), (16, .t (.str (takeM d s).2.1)), (17, .t (.bool (takeM d s).2.2)), (18, .t (sl (takeM d s).1)), (19, .t (.str (takeM d s).2.1)), (20, .t (.bool (takeM d s).2.2))] .empty fewer_refl (by simp only [vP.down, vS.down, vE.down, Nat.reduceEqDiff, Nat.reduceAdd, Nat.reduceSub, Nat.reduceMul, Nat.reduceLeDiff, Nat.reduceLT, Int.reduceToNat, reduceIte, reduceCtorEq, Int.reduceEq, Int.reduceLT, Int.reduceLE, ↓avp_condG, ↓tf_arrow, ↓ft_arrow, wP.down]) ?_
    simp only [vP.down, vS.down, vE.down, Nat.reduceEqDiff, Nat.reduceAdd, Nat.reduceSub, Nat.reduceMul, Nat.reduceLeDiff, Nat.reduceLT, Int.reduceToNat, reduceIte, reduceCtorEq, Int.reduceEq, Int.reduceLT, Int.reduceLE, ↓avp_condG, ↓tf_arrow, ↓ft_arrow, bne_self_eq_false, pt, pick_of, pick_ot, k_law9_MapAll_ref8_Same.down, A_ref8_Same, p_ref8_Same, r_ref8_Same]
    exact round_to (3 - (i + 1)) [(2, .t (.str s)), (11, .t (sl L)), (12, .t (sl D)), (13, .t (.int .i64 (i + 1 : Nat)))] .empty (by omega) fewer_refl (by simp only [vP.down, vS.down, vE.down, Nat.reduceEqDiff, Nat.reduceAdd, Nat.reduceSub, Nat.reduceMul, Nat.reduceLeDiff, Nat.reduceLT, Int.reduceToNat, reduceIte, reduceCtorEq, Int.reduceEq, Int.reduceLT, Int.reduceLE, ↓avp_condG, ↓tf_arrow, ↓ft_arrow, wP.down, hi1]) ⟨i + 1, rfl, by omega, rfl⟩
  have hlj' : (j : Int) < 3 := by omega
  have x2 := idx_at (C := K_law9_MapAll) (l := D) (i := j) ty_Lint ty_int rfl (by omega) .i64
  obtain ⟨e, he⟩ : ∃ e, e = D.getD j default := ⟨_, rfl⟩
  rw [← he] at x2
  simp only [vP.down, vS.down, vE.down, Nat.reduceEqDiff, Nat.reduceAdd, Nat.reduceSub, Nat.reduceMul, Nat.reduceLeDiff, Nat.reduceLT, Int.reduceToNat, reduceIte, reduceCtorEq, Int.reduceEq, Int.reduceLT, Int.reduceLE, ↓avp_condG, ↓tf_arrow, ↓ft_arrow, hlj']
  refine weak_at [(2, .t (.str s)), (11, .t (sl L)), (12, .t (sl D)), (13, .t (.int .i64 (i : Nat))), (14, .t (.int .i64 (j : Nat)))] .empty fewer_refl (by simp only [vP.down, vS.down, vE.down, Nat.reduceEqDiff, Nat.reduceAdd, Nat.reduceSub, Nat.reduceMul, Nat.reduceLeDiff, Nat.reduceLT, Int.reduceToNat, reduceIte, reduceCtorEq, Int.reduceEq, Int.reduceLT, Int.reduceLE, ↓avp_condG, ↓tf_arrow, ↓ft_arrow, wP.down]) ?_
  simp only [vP.down, vS.down, vE.down, Nat.reduceEqDiff, Nat.reduceAdd, Nat.reduceSub, Nat.reduceMul, Nat.reduceLeDiff, Nat.reduceLT, Int.reduceToNat, reduceIte, reduceCtorEq, Int.reduceEq, Int.reduceLT, Int.reduceLE, ↓avp_condG, ↓tf_arrow, ↓ft_arrow, x0, x2, pq, bne_self_eq_false, k_law9_MapAll_smap_Put.down, A_smap_Put, p_smap_Put, r_smap_Put, k_law9_MapAll_ref8_PutMap.down, A_ref8_PutMap, p_ref8_PutMap, r_ref8_PutMap]
  exact round_to (3 - (j + 1)) [(2, .t (.str s)), (11, .t (sl L)), (12, .t (sl D)), (13, .t (.int .i64 (i : Nat))), (14, .t (.int .i64 (j + 1 : Nat)))] .empty (by omega) fewer_refl (by simp only [vP.down, vS.down, vE.down, Nat.reduceEqDiff, Nat.reduceAdd, Nat.reduceSub, Nat.reduceMul, Nat.reduceLeDiff, Nat.reduceLT, Int.reduceToNat, reduceIte, reduceCtorEq, Int.reduceEq, Int.reduceLT, Int.reduceLE, ↓avp_condG, ↓tf_arrow, ↓ft_arrow, wP.down, hj1]) ⟨j + 1, rfl, by omega, rfl⟩
set_option maxRecDepth 100000 in
set_option maxHeartbeats 4000000 in
theorem body_law9_MapAll (x) (hx : p_law9_MapAll x) : avp K_law9_MapAll G_law9_MapAll (Ret K_law9_MapAll [.tmp 10] fun v _ => v = r_law9_MapAll x) (entry (A_law9_MapAll.enc x) .empty) := by
  obtain ⟨a, w, s, n, ⟨k⟩, ⟨⟩⟩ := x
  change avp _ _ (Ret _ _ fun v _ => v = .t (.bool true)) (entry [.t (sl a), .t (sl w), .t (.str s), .t (.int .i64 n), .t (.int .u8 (k.toNat : Int))] .empty)
  unfold G_law9_MapAll
  by_cases c1 : (20 : Int) < (a.length : Int)
  · simp only [vP.down, vS.down, vE.down, Nat.reduceEqDiff, Nat.reduceAdd, Nat.reduceSub, Nat.reduceMul, Nat.reduceLeDiff, Nat.reduceLT, Int.reduceToNat, reduceIte, reduceCtorEq, Int.reduceEq, Int.reduceLT, Int.reduceLE, ↓avp_condG, ↓tf_arrow, ↓ft_arrow, k_law9_MapAll_law9_begun.down, A_law9_begun, p_law9_begun, r_law9_begun, c1, gt_iff_lt, pick_of, pick_ot]
    simp only [vP.down, vS.down, vE.down, Nat.reduceEqDiff, Nat.reduceAdd, Nat.reduceSub, Nat.reduceMul, Nat.reduceLeDiff, Nat.reduceLT, Int.reduceToNat, reduceIte, reduceCtorEq, Int.reduceEq, Int.reduceLT, Int.reduceLE, ↓avp_condG, ↓tf_arrow, ↓ft_arrow, vT.down]
  by_cases c2 : (5 : Int) < (w.length : Int)
  · simp only [vP.down, vS.down, vE.down, Nat.reduceEqDiff, Nat.reduceAdd, Nat.reduceSub, Nat.reduceMul, Nat.reduceLeDiff, Nat.reduceLT, Int.reduceToNat, reduceIte, reduceCtorEq, Int.reduceEq, Int.reduceLT, Int.reduceLE, ↓avp_condG, ↓tf_arrow, ↓ft_arrow, k_law9_MapAll_law9_begun.down, A_law9_begun, p_law9_begun, r_law9_begun, c1, c2, gt_iff_lt, pick_of, pick_ot]
    simp only [vP.down, vS.down, vE.down, Nat.reduceEqDiff, Nat.reduceAdd, Nat.reduceSub, Nat.reduceMul, Nat.reduceLeDiff, Nat.reduceLT, Int.reduceToNat, reduceIte, reduceCtorEq, Int.reduceEq, Int.reduceLT, Int.reduceLE, ↓avp_condG, ↓tf_arrow, ↓ft_arrow, vT.down]
  by_cases c3 : (40 : Int) < (s.length : Int)
  · simp only [vP.down, vS.down, vE.down, Nat.reduceEqDiff, Nat.reduceAdd, Nat.reduceSub, Nat.reduceMul, Nat.reduceLeDiff, Nat.reduceLT, Int.reduceToNat, reduceIte, reduceCtorEq, Int.reduceEq, Int.reduceLT, Int.reduceLE, ↓avp_condG, ↓tf_arrow, ↓ft_arrow, k_law9_MapAll_law9_begun.down, A_law9_begun, p_law9_begun, r_law9_begun, c1, c2, c3, gt_iff_lt, pick_of, pick_ot]
    simp only [vP.down, vS.down, vE.down, Nat.reduceEqDiff, Nat.reduceAdd, Nat.reduceSub, Nat.reduceMul, Nat.reduceLeDiff, Nat.reduceLT, Int.reduceToNat, reduceIte, reduceCtorEq, Int.reduceEq, Int.reduceLT, Int.reduceLE, ↓avp_condG, ↓tf_arrow, ↓ft_arrow, vT.down]
  simp only [vP.down, vS.down, vE.down, Nat.reduceEqDiff, Nat.reduceAdd, Nat.reduceSub, Nat.reduceMul, Nat.reduceLeDiff, Nat.reduceLT, Int.reduceToNat, reduceIte, reduceCtorEq, Int.reduceEq, Int.reduceLT, Int.reduceLE, ↓avp_condG, ↓tf_arrow, ↓ft_arrow, k_law9_MapAll_law9_begun.down, A_law9_begun, p_law9_begun, r_law9_begun, c1, c2, c3, gt_iff_lt, pick_of, pick_ot, k_law9_MapAll_made_Made.down, q_made_Made, e_made_Made, mk_made_Made, k_law9_MapAll_made_Picks_Runs.down, m_made_Picks_Runs]
  refine ⟨⟨a, rfl⟩, fun g1 hg1 => ?_⟩
  refine runs_any (pk_new hg1 (by omega)) (by omega) (by omega) fun v1 S1 x hv1 hx H1 _ => ?_
  have lx := hx.len
  have ⟨y, ros, hb, hd⟩ : ∃ y ros, S1.borrow1 v1 = some (y, ros) ∧ Cell.dec [y] = some x := by
    rcases hv1 with ⟨rfl, rfl⟩ | ⟨g, rfl, ro, hr⟩
    · exact ⟨.nilS, [], rfl, rfl⟩
    · refine ⟨sl x, [g], ?_, Cell.dec_enc x⟩
      simp [Store.borrow1, hr, sl]
      rw [List.take_of_length_le (by simp)]
  have hone : v1.cells = [v1] := by rcases hv1 with ⟨rfl, rfl⟩ | ⟨g, rfl, ro, hr⟩ <;> rfl
  rw [hone]
  simp only [vP.down, vS.down, vE.down, Nat.reduceEqDiff, Nat.reduceAdd, Nat.reduceSub, Nat.reduceMul, Nat.reduceLeDiff, Nat.reduceLT, Int.reduceToNat, reduceIte, reduceCtorEq, Int.reduceEq, Int.reduceLT, Int.reduceLE, ↓avp_condG, ↓tf_arrow, ↓ft_arrow, hb]
  intro g2 hg2
  have dw : Cell.dec [sl w] = some w := Cell.dec_enc w
  have hdec : Cell.dec [TV.seq 1 [[y], [sl w], [.nilS]]] = some [x, w, ([] : List TRun)] := by
    show (if (1 : Nat) = Cell.width (List TRun) then decAll [[y], [sl w], [.nilS]] else none) = _
    have hw1 : (1 : Nat) = Cell.width (List TRun) := rfl
    rw [if_pos hw1]
    simp only [decAll, hd, dw, show (Cell.dec [TV.nilS] : Option (List TRun)) = some [] from rfl, Option.bind_some, Option.map_some]
  refine weak_at [(2, .t (.str s)), (3, .t (.int .i64 n)), (4, .t (.int .u8 (k.toNat : Int))), (11, .t (sl [x, w, ([] : List TRun)]))] .empty fewer_empty (by
    simp only [vP.down, vS.down, vE.down, Nat.reduceEqDiff, Nat.reduceAdd, Nat.reduceSub, Nat.reduceMul, Nat.reduceLeDiff, Nat.reduceLT, Int.reduceToNat, reduceIte, reduceCtorEq, Int.reduceEq, Int.reduceLT, Int.reduceLE, ↓avp_condG, ↓tf_arrow, ↓ft_arrow, wP.down]
    exact w2_rows (Store.set_same _ _ _) rfl hdec rfl) ?_
  simp only [vP.down, vS.down, vE.down, Nat.reduceEqDiff, Nat.reduceAdd, Nat.reduceSub, Nat.reduceMul, Nat.reduceLeDiff, Nat.reduceLT, Int.reduceToNat, reduceIte, reduceCtorEq, Int.reduceEq, Int.reduceLT, Int.reduceLE, ↓avp_condG, ↓tf_arrow, ↓ft_arrow]
  intro g3 hg3
  refine all_7 (s := s) (L := [x, w, []]) (D := [n, IntKind.i64.wrap (40 + IntKind.i64.wrap (k.toNat : Int)), 40]) rfl rfl (fun m hm => ?_) (by omega) (wk_to fewer_empty (by
    simp only [vP.down, vS.down, vE.down, Nat.reduceEqDiff, Nat.reduceAdd, Nat.reduceSub, Nat.reduceMul, Nat.reduceLeDiff, Nat.reduceLT, Int.reduceToNat, reduceIte, reduceCtorEq, Int.reduceEq, Int.reduceLT, Int.reduceLE, ↓avp_condG, ↓tf_arrow, ↓ft_arrow, wP.down]
    exact (lv_at (α := Int) (l := [n, IntKind.i64.wrap (40 + IntKind.i64.wrap (k.toNat : Int)), 40]) (ro := false) rfl (Store.set_same _ _ _)).w2 fun _ _ => rfl))
  simp only [List.mem_cons, List.not_mem_nil, or_false] at hm
  rcases hm with rfl | rfl | rfl
  · omega
  · omega
  · simp
noncomputable def c_law9_MapAll : Con := fnScal A_law9_MapAll p_law9_MapAll r_law9_MapAll
theorem ok_law9_MapAll : COk Try.prog 3 c_law9_MapAll := fn_sok sys_law9_MapAll mixed Try.func3 (by kernel_rfl) geq_law9_MapAll Try.ntmps3 (by rw [Try.results3]) (fun x => by simp [rTrue, AV.scal]) fun x hx => ⟨Nat.le_of_ble_eq_true rfl, body_law9_MapAll x hx⟩
theorem says_law9_MapAll : SaysTrue Rows.mapAllSpec 5 := ⟨rfl, fun H ds h => by
  match ds, h with
  | [d0, d1, d2, d3, d4], _ => exact ⟨rfl, rfl, rfl⟩⟩
set_option maxRecDepth 100000 in
theorem lifted_law9_MapAll (os : Os) (started : os.Started) (H : Type) (enc : TypeId × Value → H) :
    ReturnsInHanded {} Try.checked os 3 .any (Rows.mapAllSpec.pre6 enc Try.prog Try.f3 Rows.mapAllRow.domain false) (Rows.mapAllSpec.post enc Try.prog Try.f3 false true false false) := by
  refine returnsInHanded_of_change (C := Try.checked) own started (by kernel_rfl) Try.func3
    (ChangeSpec.witness6 (enc := enc) (C := Try.checked) false ⟨#[], #[.slice none 0 0, .slice none 0 0, .string ⟨#[]⟩, .int .i64 0, .int .u8 0], []⟩ 8 (by kernel_rfl) (by kernel_rfl) (by kernel_rfl) (by kernel_rfl)) ?_
  intro W base args ds gs before hval hW _ _
  exact law_contract (ts := [22, 23, 9, 3, 5]) (tb := 4) ok_law9_MapAll (by rw [Try.params3]) (by kernel_rfl) Try.underlying4 laid (by kernel_rfl) rd_law9_MapAll (fun _ h => h) says_law9_MapAll H enc W base args ds gs before hval hW
theorem over_law9_MapAll : Rows.mapAllRow.holds Try.pinned (OpenSpec.ofChange Rows.mapAllSpec) :=
  OpenClaim.holds_of_wide 3 Try.f3 rfl rfl rfl rfl rfl rfl rfl ⟨rfl, rfl, rfl, rfl, rfl⟩ rfl rfl rfl rfl rfl (by kernel_rfl) Try.func3 (by kernel_rfl)
    (of_decide_eq_true (by kernel_rfl)) (by unfold Func.isWrapper; first | (rw [if_pos (by decide +kernel)]; kernel_rfl) | (rw [if_neg (by decide +kernel)]; exact ⟨rfl, rfl⟩))
    (fun os started H enc _ => lifted_law9_MapAll os started H enc)
theorem mapAll_holds : Rows.MapAllSaid := over_law9_MapAll
end Go.Proofs.Ytlfncfaonnaneaa

