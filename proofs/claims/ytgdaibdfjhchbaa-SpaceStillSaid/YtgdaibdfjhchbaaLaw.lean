/-
  What the laws lean on: how long sets are; what is still.
-/
import Derived.Test.YtgdaibdfjhchbaaFnsE
set_option linter.unusedSimpArgs false
set_option linter.unusedVariables false
namespace Go.Proofs.Ytgdaibdfjhchbaa
open Go Go.Eng
set_option maxRecDepth 100000
theorem cnt_ge : ∀ {l : List TRun}, Nf l → (l.length : Int) ≤ cntR l
  | [], _ => Int.le_refl _
  | r :: t, h => by
    have h1 := cnt_ge h.tail
    have h2 := h.head.1
    have e : cntR (r :: t) = r.To - r.From + cntR t := by simp [cntR]
    rw [e, List.length_cons]
    omega
theorem nf_len {l : List TRun} {a : Int} {k : Nat} (h : Nf l) (hw : Wn a k l) : l.length ≤ k := by
  have h1 := cnt_ge h
  rw [cntR_card h hw] at h1
  have h2 := List.length_filter_le (hasR l) (seg a k)
  rw [seg_len] at h2
  omega
theorem Sp.len {s : TSpace} (h : Sp s) : lenS s := by
  have h1 := nf_len h.nh h.wh
  have h2 := nf_len h.no h.wo
  have h3 := nf_len h.nt h.wt
  have h4 := nf_len h.nk h.wk
  have e1 : s.Held.length ≤ 1000 := by omega
  have e2 : s.One.length ≤ 1000 := by omega
  have e3 : s.Two.length ≤ 1000 := by omega
  have e4 : s.Kept.length ≤ 1000 := by omega
  exact ⟨e1, e2, e3, e4⟩
theorem less_self {l : List TRun} : whereL .less l l = [] := where_nil.2 fun i => by
  show (hasR l i && !hasR l i) = false
  cases hasR l i <;> rfl
theorem less_nl {l : List TRun} : whereL .less [] l = [] := where_nil.2 fun i => rfl
theorem still_eq {s : TSpace} {h : List TRun} : turnM (turnM (turnM s h) h) h = ⟨h, [], [], s.Kept⟩ := by
  simp only [turnM, less_self, less_nl]
theorem still_turn {h k : List TRun} : turnM ⟨h, [], [], k⟩ h = ⟨h, [], [], k⟩ := by
  simp only [turnM, less_self, less_nl]
theorem still_free {h k : List TRun} (hS : Sp ⟨h, [], [], k⟩) : whereL .less (whereL .less [(⟨14, 54⟩ : TRun)] h) k = freeM 40 ⟨h, [], [], k⟩ := by
  refine nf_ext where_nf free_nf fun i => ?_
  have e := hS.free (n := 40) rfl i
  rw [show ((40 : Nat) : Int) = 40 from rfl] at e
  rw [e, where_has, where_has]
  have e2 : hasR [(⟨14, 54⟩ : TRun)] i = (decide (14 ≤ i) && decide (i < 14 + 40)) := all_has (n := 40)
  rw [e2]
  show ((decide (14 ≤ i) && decide (i < 14 + 40) && !hasR h i) && !hasR k i) = (decide (14 ≤ i) && decide (i < 14 + 40) && !(hasR h i || (false || (false || hasR k i))))
  cases hasR h i <;> cases hasR k i <;> simp
end Go.Proofs.Ytgdaibdfjhchbaa


namespace Go.Proofs.Ytgdaibdfjhchbaa
open Go Go.Eng
set_option maxRecDepth 100000
def G_law10_SpaceStill : GCode := .seq (.region [⟨(some 10), none, .assign (.const (.bool false))⟩]) (.seq (.seq (.region [⟨(some 15), none, .call ⟨.value (.func 10), #[], #[]⟩⟩, ⟨(some 16), none, .unOp .not 4 (.tmp 15)⟩]) (.cond (.tmp 16) (.seq (.region [⟨(some 10), none, .assign (.const (.bool false))⟩]) (.ret)) (.skip))) (.seq (.seq (.region [⟨(some 17), none, .move (.tmp 0)⟩, ⟨(some 18), none, .call ⟨.builtin .len, #[.tmp 17], #[22]⟩⟩, ⟨(some 19), none, .binOp .gtr 3 (.tmp 18) (.const (.int .i64 20)) 3⟩, ⟨(some 20), none, .move (.tmp 19)⟩, ⟨(some 21), (some (20, false)), .move (.tmp 1)⟩, ⟨(some 22), (some (20, false)), .call ⟨.builtin .len, #[.tmp 21], #[22]⟩⟩, ⟨(some 23), (some (20, false)), .binOp .gtr 3 (.tmp 22) (.const (.int .i64 20)) 3⟩, ⟨(some 24), none, .pick (.tmp 20) (.const (.bool true)) (.tmp 23)⟩, ⟨(some 25), none, .move (.tmp 24)⟩, ⟨(some 26), (some (25, false)), .move (.tmp 2)⟩, ⟨(some 27), (some (25, false)), .call ⟨.builtin .len, #[.tmp 26], #[22]⟩⟩, ⟨(some 28), (some (25, false)), .binOp .gtr 3 (.tmp 27) (.const (.int .i64 20)) 3⟩, ⟨(some 29), none, .pick (.tmp 25) (.const (.bool true)) (.tmp 28)⟩, ⟨(some 30), none, .move (.tmp 29)⟩, ⟨(some 31), (some (30, false)), .move (.tmp 3)⟩, ⟨(some 32), (some (30, false)), .call ⟨.builtin .len, #[.tmp 31], #[22]⟩⟩, ⟨(some 33), (some (30, false)), .binOp .gtr 3 (.tmp 32) (.const (.int .i64 20)) 3⟩, ⟨(some 34), none, .pick (.tmp 30) (.const (.bool true)) (.tmp 33)⟩, ⟨(some 35), none, .move (.tmp 34)⟩, ⟨(some 36), (some (35, false)), .move (.tmp 4)⟩, ⟨(some 37), (some (35, false)), .call ⟨.builtin .len, #[.tmp 36], #[22]⟩⟩, ⟨(some 38), (some (35, false)), .binOp .gtr 3 (.tmp 37) (.const (.int .i64 20)) 3⟩, ⟨(some 39), none, .pick (.tmp 35) (.const (.bool true)) (.tmp 38)⟩]) (.cond (.tmp 39) (.seq (.region [⟨(some 10), none, .assign (.const (.bool true))⟩]) (.ret)) (.skip))) (.seq (.seq .weak (.region [⟨(some 40), none, .move (.tmp 0)⟩, ⟨(some 41), none, .move (.tmp 1)⟩, ⟨(some 42), none, .move (.tmp 2)⟩, ⟨(some 43), none, .move (.tmp 3)⟩, ⟨(some 44), none, .call ⟨.value (.func 11), #[.tmp 40, .tmp 41, .tmp 42, .tmp 43], #[22, 22, 22, 22]⟩⟩, ⟨(some 11), none, .alloc 26⟩, ⟨none, none, .store 26 (.tmp 11) (.tmp 44)⟩])) (.seq (.seq .weak (.seq .weak (.region [⟨(some 45), none, .move (.tmp 4)⟩, ⟨(some 46), none, .call ⟨.value (.func 12), #[.tmp 45], #[22]⟩⟩, ⟨(some 47), none, .call ⟨.value (.func 13), #[.tmp 46, .const (.int .i64 8)], #[28, 3]⟩⟩, ⟨(some 12), none, .assign (.tmp 47)⟩]))) (.seq (.seq .weak (.region [⟨(some 48), none, .load 26 (.tmp 11)⟩, ⟨(some 49), none, .move (.tmp 12)⟩, ⟨(some 50), none, .call ⟨.value (.func 22), #[.tmp 48, .tmp 49], #[26, 23]⟩⟩, ⟨(some 51), none, .move (.tmp 12)⟩, ⟨(some 52), none, .call ⟨.value (.func 22), #[.tmp 50, .tmp 51], #[26, 23]⟩⟩, ⟨(some 53), none, .move (.tmp 12)⟩, ⟨(some 54), none, .call ⟨.value (.func 22), #[.tmp 52, .tmp 53], #[26, 23]⟩⟩, ⟨(some 13), none, .alloc 26⟩, ⟨none, none, .store 26 (.tmp 13) (.tmp 54)⟩])) (.seq (.seq .weak (.region [⟨(some 55), none, .build 48 #[(0, .const (.int .i64 14)), (1, .const (.int .i64 54))]⟩, ⟨(some 56), none, .buildSlice 23 1 #[(0, .tmp 55)]⟩, ⟨(some 14), none, .assign (.tmp 56)⟩])) (.seq (.seq .weak (.region [⟨(some 57), none, .fieldAddr 26 (.tmp 13) 1⟩, ⟨(some 58), none, .load 23 (.tmp 57)⟩, ⟨(some 59), none, .call ⟨.builtin .len, #[.tmp 58], #[23]⟩⟩, ⟨(some 60), none, .binOp .eql 3 (.tmp 59) (.const (.int .i64 0)) 3⟩, ⟨(some 61), none, .move (.tmp 60)⟩, ⟨(some 62), (some (61, true)), .fieldAddr 26 (.tmp 13) 2⟩, ⟨(some 63), (some (61, true)), .load 23 (.tmp 62)⟩, ⟨(some 64), (some (61, true)), .call ⟨.builtin .len, #[.tmp 63], #[23]⟩⟩, ⟨(some 65), (some (61, true)), .binOp .eql 3 (.tmp 64) (.const (.int .i64 0)) 3⟩, ⟨(some 66), none, .pick (.tmp 61) (.tmp 65) (.const (.bool false))⟩, ⟨(some 67), none, .move (.tmp 66)⟩, ⟨(some 68), (some (67, true)), .fieldAddr 26 (.tmp 13) 0⟩, ⟨(some 69), (some (67, true)), .load 23 (.tmp 68)⟩, ⟨(some 70), (some (67, true)), .move (.tmp 12)⟩, ⟨(some 71), (some (67, true)), .call ⟨.value (.func 18), #[.tmp 69, .tmp 70], #[23, 23]⟩⟩, ⟨(some 72), none, .pick (.tmp 67) (.tmp 71) (.const (.bool false))⟩, ⟨(some 73), none, .move (.tmp 72)⟩, ⟨(some 74), (some (73, true)), .load 26 (.tmp 13)⟩, ⟨(some 75), (some (73, true)), .call ⟨.value (.func 19), #[.const (.int .i64 40), .tmp 74], #[3, 26]⟩⟩, ⟨(some 76), (some (73, true)), .move (.tmp 14)⟩, ⟨(some 77), (some (73, true)), .move (.tmp 12)⟩, ⟨(some 78), (some (73, true)), .call ⟨.value (.func 31), #[.tmp 76, .tmp 77], #[23, 23]⟩⟩, ⟨(some 79), (some (73, true)), .fieldAddr 26 (.tmp 11) 3⟩, ⟨(some 80), (some (73, true)), .load 23 (.tmp 79)⟩, ⟨(some 81), (some (73, true)), .call ⟨.value (.func 31), #[.tmp 78, .tmp 80], #[23, 23]⟩⟩, ⟨(some 82), (some (73, true)), .call ⟨.value (.func 18), #[.tmp 75, .tmp 81], #[23, 23]⟩⟩, ⟨(some 83), none, .pick (.tmp 73) (.tmp 82) (.const (.bool false))⟩, ⟨(some 84), none, .move (.tmp 83)⟩, ⟨(some 85), (some (84, true)), .load 26 (.tmp 13)⟩, ⟨(some 86), (some (84, true)), .move (.tmp 12)⟩, ⟨(some 87), (some (84, true)), .call ⟨.value (.func 22), #[.tmp 85, .tmp 86], #[26, 23]⟩⟩, ⟨(some 88), (some (84, true)), .load 26 (.tmp 13)⟩, ⟨(some 89), (some (84, true)), .call ⟨.value (.func 26), #[.tmp 87, .tmp 88], #[26, 26]⟩⟩, ⟨(some 90), none, .pick (.tmp 84) (.tmp 89) (.const (.bool false))⟩, ⟨(some 10), none, .assign (.tmp 90)⟩])) (.ret))))))))
noncomputable def l_law10_SpaceStill : List (Nat × Con) := [(10, c_law10_begun), (11, c_law10_made), (12, c_made_Made), (13, c_made_Picks_Runs), (22, c_space_Turn), (18, c_ref8_Same), (19, c_space_Free), (31, c_ref8_Less), (26, c_space_Same)]
noncomputable abbrev K_law10_SpaceStill : Ctx := ctx (cl l_law10_SpaceStill)
theorem geq_law10_SpaceStill : gof K_law10_SpaceStill Try.f8 = some G_law10_SpaceStill.strip := by kernel_rfl
theorem sys_law10_SpaceStill : Go.Eng.Sys Try.prog K_law10_SpaceStill := sys_of' ⟨ok_law10_begun, ok_law10_made, ok_made_Made, ok_made_Picks_Runs, ok_space_Turn, ok_ref8_Same, ok_space_Free, ok_ref8_Less, ok_space_Same, trivial⟩
theorem hm_law10_SpaceStill : ConMono K_law10_SpaceStill := conMono_of sys_law10_SpaceStill.con
noncomputable def k_law10_SpaceStill_law10_begun := PLift.up (call_scal (C := K_law10_SpaceStill) (f := 10) (A := A_law10_begun) (p := p_law10_begun) (r := r_law10_begun) rfl)
noncomputable def k_law10_SpaceStill_law10_made := PLift.up (call_gen (C := K_law10_SpaceStill) (f := 11) (modes := m_law10_made) (F := F_law10_made) rfl)
noncomputable def k_law10_SpaceStill_made_Made := PLift.up (call_new (C := K_law10_SpaceStill) (f := 12) (c := q_made_Made) (e := e_made_Made) (mk := mk_made_Made) rfl)
noncomputable def k_law10_SpaceStill_made_Picks_Runs := PLift.up (call_gen (C := K_law10_SpaceStill) (f := 13) (modes := m_made_Picks_Runs) (F := F_made_Picks_Runs) rfl)
noncomputable def k_law10_SpaceStill_space_Turn := PLift.up (call_fn (C := K_law10_SpaceStill) (f := 22) (A := A_space_Turn) (p := p_space_Turn) (r := r_space_Turn) rfl)
noncomputable def k_law10_SpaceStill_ref8_Same := PLift.up (call_scal (C := K_law10_SpaceStill) (f := 18) (A := A_ref8_Same) (p := p_ref8_Same) (r := r_ref8_Same) rfl)
noncomputable def k_law10_SpaceStill_space_Free := PLift.up (call_fn (C := K_law10_SpaceStill) (f := 19) (A := A_space_Free) (p := p_space_Free) (r := r_space_Free) rfl)
noncomputable def k_law10_SpaceStill_ref8_Less := PLift.up (call_fn (C := K_law10_SpaceStill) (f := 31) (A := A_ref8_Less) (p := p_ref8_Less) (r := r_ref8_Less) rfl)
noncomputable def k_law10_SpaceStill_space_Same := PLift.up (call_scal (C := K_law10_SpaceStill) (f := 26) (A := A_space_Same) (p := p_space_Same) (r := r_space_Same) rfl)
noncomputable def A_law10_SpaceStill : Arms ((List Byt) × (List Byt) × (List Byt) × (List Byt) × (List Byt) × Unit) := Arms.cons (argT (List Byt)) (Arms.cons (argT (List Byt)) (Arms.cons (argT (List Byt)) (Arms.cons (argT (List Byt)) (Arms.cons (argT (List Byt)) (Arms.nil)))))
def p_law10_SpaceStill (x : (List Byt) × (List Byt) × (List Byt) × (List Byt) × (List Byt) × Unit) : Prop := (goodList (fun x : Byt => goodAny x) x.1) ∧ (goodList (fun x : Byt => goodAny x) x.2.1) ∧ (goodList (fun x : Byt => goodAny x) x.2.2.1) ∧ (goodList (fun x : Byt => goodAny x) x.2.2.2.1) ∧ (goodList (fun x : Byt => goodAny x) x.2.2.2.2.1) ∧ goodAny (x.2.2.2.2.2)
abbrev r_law10_SpaceStill (x : (List Byt) × (List Byt) × (List Byt) × (List Byt) × (List Byt) × Unit) : AV := rTrue x
theorem rd_law10_SpaceStill : ReadsA Try.prog [22, 22, 22, 22, 22] A_law10_SpaceStill p_law10_SpaceStill := (readsA_T (reads_list Try.underlying22 (reads_u8 Try.underlying5) (by kernel_rfl) (by decide)) (by kernel_rfl) (readsA_T (reads_list Try.underlying22 (reads_u8 Try.underlying5) (by kernel_rfl) (by decide)) (by kernel_rfl) (readsA_T (reads_list Try.underlying22 (reads_u8 Try.underlying5) (by kernel_rfl) (by decide)) (by kernel_rfl) (readsA_T (reads_list Try.underlying22 (reads_u8 Try.underlying5) (by kernel_rfl) (by decide)) (by kernel_rfl) (readsA_T (reads_list Try.underlying22 (reads_u8 Try.underlying5) (by kernel_rfl) (by decide)) (by kernel_rfl) readsA_nil)))))
set_option maxHeartbeats 4000000 in
theorem body_law10_SpaceStill (x) (hx : p_law10_SpaceStill x) : avp K_law10_SpaceStill G_law10_SpaceStill (Ret K_law10_SpaceStill [.tmp 10] fun v _ => v = r_law10_SpaceStill x) (entry (A_law10_SpaceStill.enc x) .empty) := by
  obtain ⟨a, b, c, d, e, ⟨⟩⟩ := x
  change avp _ _ (Ret _ _ fun v _ => v = .t (.bool true)) (entry [.t (sl a), .t (sl b), .t (sl c), .t (sl d), .t (sl e)] .empty)
  unfold G_law10_SpaceStill
  by_cases c1 : (20 : Int) < (a.length : Int)
  · simp only [vP.down, vS.down, vE.down, Nat.reduceEqDiff, Nat.reduceAdd, Nat.reduceSub, Nat.reduceMul, Nat.reduceLeDiff, Nat.reduceLT, Int.reduceToNat, reduceIte, reduceCtorEq, Int.reduceEq, Int.reduceLT, Int.reduceLE, ↓avp_condG, ↓tf_arrow, ↓ft_arrow, k_law10_SpaceStill_law10_begun.down, A_law10_begun, p_law10_begun, r_law10_begun, c1, gt_iff_lt, pick_of, pick_ot]
    simp only [vP.down, vS.down, vE.down, Nat.reduceEqDiff, Nat.reduceAdd, Nat.reduceSub, Nat.reduceMul, Nat.reduceLeDiff, Nat.reduceLT, Int.reduceToNat, reduceIte, reduceCtorEq, Int.reduceEq, Int.reduceLT, Int.reduceLE, ↓avp_condG, ↓tf_arrow, ↓ft_arrow, vT.down]
  by_cases c2 : (20 : Int) < (b.length : Int)
  · simp only [vP.down, vS.down, vE.down, Nat.reduceEqDiff, Nat.reduceAdd, Nat.reduceSub, Nat.reduceMul, Nat.reduceLeDiff, Nat.reduceLT, Int.reduceToNat, reduceIte, reduceCtorEq, Int.reduceEq, Int.reduceLT, Int.reduceLE, ↓avp_condG, ↓tf_arrow, ↓ft_arrow, k_law10_SpaceStill_law10_begun.down, A_law10_begun, p_law10_begun, r_law10_begun, c1, c2, gt_iff_lt, pick_of, pick_ot]
    simp only [vP.down, vS.down, vE.down, Nat.reduceEqDiff, Nat.reduceAdd, Nat.reduceSub, Nat.reduceMul, Nat.reduceLeDiff, Nat.reduceLT, Int.reduceToNat, reduceIte, reduceCtorEq, Int.reduceEq, Int.reduceLT, Int.reduceLE, ↓avp_condG, ↓tf_arrow, ↓ft_arrow, vT.down]
  by_cases c3 : (20 : Int) < (c.length : Int)
  · simp only [vP.down, vS.down, vE.down, Nat.reduceEqDiff, Nat.reduceAdd, Nat.reduceSub, Nat.reduceMul, Nat.reduceLeDiff, Nat.reduceLT, Int.reduceToNat, reduceIte, reduceCtorEq, Int.reduceEq, Int.reduceLT, Int.reduceLE, ↓avp_condG, ↓tf_arrow, ↓ft_arrow, k_law10_SpaceStill_law10_begun.down, A_law10_begun, p_law10_begun, r_law10_begun, c1, c2, c3, gt_iff_lt, pick_of, pick_ot]
    simp only [vP.down, vS.down, vE.down, Nat.reduceEqDiff, Nat.reduceAdd, Nat.reduceSub, Nat.reduceMul, Nat.reduceLeDiff, Nat.reduceLT, Int.reduceToNat, reduceIte, reduceCtorEq, Int.reduceEq, Int.reduceLT, Int.reduceLE, ↓avp_condG, ↓tf_arrow, ↓ft_arrow, vT.down]
  by_cases c4 : (20 : Int) < (d.length : Int)
  · simp only [vP.down, vS.down, vE.down, Nat.reduceEqDiff, Nat.reduceAdd, Nat.reduceSub, Nat.reduceMul, Nat.reduceLeDiff, Nat.reduceLT, Int.reduceToNat, reduceIte, reduceCtorEq, Int.reduceEq, Int.reduceLT, Int.reduceLE, ↓avp_condG, ↓tf_arrow, ↓ft_arrow, k_law10_SpaceStill_law10_begun.down, A_law10_begun, p_law10_begun, r_law10_begun, c1, c2, c3, c4, gt_iff_lt, pick_of, pick_ot]
    simp only [vP.down, vS.down, vE.down, Nat.reduceEqDiff, Nat.reduceAdd, Nat.reduceSub, Nat.reduceMul, Nat.reduceLeDiff, Nat.reduceLT, Int.reduceToNat, reduceIte, reduceCtorEq, Int.reduceEq, Int.reduceLT, Int.reduceLE, ↓avp_condG, ↓tf_arrow, ↓ft_arrow, vT.down]
  by_cases c5 : (20 : Int) < (e.length : Int)
  · simp only [vP.down, vS.down, vE.down, Nat.reduceEqDiff, Nat.reduceAdd, Nat.reduceSub, Nat.reduceMul, Nat.reduceLeDiff, Nat.reduceLT, Int.reduceToNat, reduceIte, reduceCtorEq, Int.reduceEq, Int.reduceLT, Int.reduceLE, ↓avp_condG, ↓tf_arrow, ↓ft_arrow, k_law10_SpaceStill_law10_begun.down, A_law10_begun, p_law10_begun, r_law10_begun, c1, c2, c3, c4, c5, gt_iff_lt, pick_of, pick_ot]
    simp only [vP.down, vS.down, vE.down, Nat.reduceEqDiff, Nat.reduceAdd, Nat.reduceSub, Nat.reduceMul, Nat.reduceLeDiff, Nat.reduceLT, Int.reduceToNat, reduceIte, reduceCtorEq, Int.reduceEq, Int.reduceLT, Int.reduceLE, ↓avp_condG, ↓tf_arrow, ↓ft_arrow, vT.down]
  simp only [vP.down, vS.down, vE.down, Nat.reduceEqDiff, Nat.reduceAdd, Nat.reduceSub, Nat.reduceMul, Nat.reduceLeDiff, Nat.reduceLT, Int.reduceToNat, reduceIte, reduceCtorEq, Int.reduceEq, Int.reduceLT, Int.reduceLE, ↓avp_condG, ↓tf_arrow, ↓ft_arrow, k_law10_SpaceStill_law10_begun.down, A_law10_begun, p_law10_begun, r_law10_begun, c1, c2, c3, c4, c5, gt_iff_lt, pick_of, pick_ot]
  refine weak_at [(0, .t (sl a)), (1, .t (sl b)), (2, .t (sl c)), (3, .t (sl d)), (4, .t (sl e))] .empty fewer_refl (by simp only [vP.down, vS.down, vE.down, Nat.reduceEqDiff, Nat.reduceAdd, Nat.reduceSub, Nat.reduceMul, Nat.reduceLeDiff, Nat.reduceLT, Int.reduceToNat, reduceIte, reduceCtorEq, Int.reduceEq, Int.reduceLT, Int.reduceLE, ↓avp_condG, ↓tf_arrow, ↓ft_arrow, wP.down]) ?_
  simp only [vP.down, vS.down, vE.down, Nat.reduceEqDiff, Nat.reduceAdd, Nat.reduceSub, Nat.reduceMul, Nat.reduceLeDiff, Nat.reduceLT, Int.reduceToNat, reduceIte, reduceCtorEq, Int.reduceEq, Int.reduceLT, Int.reduceLE, ↓avp_condG, ↓tf_arrow, ↓ft_arrow, k_law10_SpaceStill_law10_made.down, m_law10_made]
  refine ⟨a, b, c, d, rfl, ⟨by omega, by omega, by omega, by omega⟩, fun v S X Y Z W hv hX hY hZ hW => ?_⟩
  simp only [vP.down, vS.down, vE.down, Nat.reduceEqDiff, Nat.reduceAdd, Nat.reduceSub, Nat.reduceMul, Nat.reduceLeDiff, Nat.reduceLT, Int.reduceToNat, reduceIte, reduceCtorEq, Int.reduceEq, Int.reduceLT, Int.reduceLE, ↓avp_condG, ↓tf_arrow, ↓ft_arrow, hv.cells, hv.one]
  intro g hg
  refine weak_at [(4, .t (sl e)), (11, .ptr g 0)] (Store.empty.set g (some (.box [.t (sl X), .t (sl (whereL .less Y X)), .t (sl (whereL .less (whereL .less Z X) (whereL .less Y X))), .t (sl W)] false))) (sp_freeze (Store.set_same _ _ _) (hv.fresh hg)) (by simp only [vP.down, vS.down, vE.down, Nat.reduceEqDiff, Nat.reduceAdd, Nat.reduceSub, Nat.reduceMul, Nat.reduceLeDiff, Nat.reduceLT, Int.reduceToNat, reduceIte, reduceCtorEq, Int.reduceEq, Int.reduceLT, Int.reduceLE, ↓avp_condG, ↓tf_arrow, ↓ft_arrow, wP.down]) ?_
  simp only [vP.down, vS.down, vE.down, Nat.reduceEqDiff, Nat.reduceAdd, Nat.reduceSub, Nat.reduceMul, Nat.reduceLeDiff, Nat.reduceLT, Int.reduceToNat, reduceIte, reduceCtorEq, Int.reduceEq, Int.reduceLT, Int.reduceLE, ↓avp_condG, ↓tf_arrow, ↓ft_arrow]
  refine weak_at [(4, .t (sl e)), (11, .imm (spC (madeM X Y Z W)))] .empty fewer_empty (by
    simp only [vP.down, vS.down, vE.down, Nat.reduceEqDiff, Nat.reduceAdd, Nat.reduceSub, Nat.reduceMul, Nat.reduceLeDiff, Nat.reduceLT, Int.reduceToNat, reduceIte, reduceCtorEq, Int.reduceEq, Int.reduceLT, Int.reduceLE, ↓avp_condG, ↓tf_arrow, ↓ft_arrow, wP.down]
    exact w2_imm (l := spC (madeM X Y Z W)) (ro := false) (Store.set_same _ _ _) rfl) ?_
  clear hv hg
  have hS := made_sp hX hY hZ hW
  have hl := made_len hX hY hZ hW
  obtain ⟨s, hs⟩ : ∃ s, s = madeM X Y Z W := ⟨_, rfl⟩
  rw [← hs] at hS hl ⊢
  simp only [vP.down, vS.down, vE.down, Nat.reduceEqDiff, Nat.reduceAdd, Nat.reduceSub, Nat.reduceMul, Nat.reduceLeDiff, Nat.reduceLT, Int.reduceToNat, reduceIte, reduceCtorEq, Int.reduceEq, Int.reduceLT, Int.reduceLE, ↓avp_condG, ↓tf_arrow, ↓ft_arrow, k_law10_SpaceStill_made_Made.down, q_made_Made, e_made_Made, mk_made_Made, k_law10_SpaceStill_made_Picks_Runs.down, m_made_Picks_Runs]
  refine ⟨⟨e, rfl⟩, fun g1 hg1 => ?_⟩
  refine runs_any (pk_new hg1 (by omega)) (by omega) (by omega) fun v1 S1 h hv1 hh H1 _ => ?_
  refine weak_at [(11, .imm (spC s)), (12, .t (sl h))] .empty fewer_empty (by
    simp only [vP.down, vS.down, vE.down, Nat.reduceEqDiff, Nat.reduceAdd, Nat.reduceSub, Nat.reduceMul, Nat.reduceLeDiff, Nat.reduceLT, Int.reduceToNat, reduceIte, reduceCtorEq, Int.reduceEq, Int.reduceLT, Int.reduceLE, ↓avp_condG, ↓tf_arrow, ↓ft_arrow, wP.down, spC]
    exact hv1.w2 fun _ _ => rfl) ?_
  clear hv1 H1 hg1
  have lh := hh.len8
  have lh' : h.length ≤ 1000 := by omega
  have hS1 := hS.turn hh.nf hh.wn
  have hS2 := hS1.turn hh.nf hh.wn
  have l1 := hS1.len
  have l2 := hS2.len
  have e3 := still_eq (s := s) (h := h)
  obtain ⟨s1, hs1⟩ : ∃ t, t = turnM s h := ⟨_, rfl⟩
  rw [← hs1] at hS2 l1 l2 e3
  obtain ⟨s2, hs2⟩ : ∃ t, t = turnM s1 h := ⟨_, rfl⟩
  rw [← hs2] at l2 e3
  simp only [vP.down, vS.down, vE.down, Nat.reduceEqDiff, Nat.reduceAdd, Nat.reduceSub, Nat.reduceMul, Nat.reduceLeDiff, Nat.reduceLT, Int.reduceToNat, reduceIte, reduceCtorEq, Int.reduceEq, Int.reduceLT, Int.reduceLE, ↓avp_condG, ↓tf_arrow, ↓ft_arrow, hl, l1, l2, lh', ← hs1, ← hs2, e3, spC, k_law10_SpaceStill_space_Turn.down, A_space_Turn, p_space_Turn, r_space_Turn]
  intro g3 hg3
  refine weak_at [(11, .imm (spC s)), (12, .t (sl h)), (13, .imm (spC ⟨h, [], [], s.Kept⟩))] .empty fewer_empty (by
    simp only [vP.down, vS.down, vE.down, Nat.reduceEqDiff, Nat.reduceAdd, Nat.reduceSub, Nat.reduceMul, Nat.reduceLeDiff, Nat.reduceLT, Int.reduceToNat, reduceIte, reduceCtorEq, Int.reduceEq, Int.reduceLT, Int.reduceLE, ↓avp_condG, ↓tf_arrow, ↓ft_arrow, wP.down, spC]
    exact w2_imm (l := spC ⟨h, [], [], s.Kept⟩) (ro := false) (Store.set_same _ _ _) rfl) ?_
  simp only [vP.down, vS.down, vE.down, Nat.reduceEqDiff, Nat.reduceAdd, Nat.reduceSub, Nat.reduceMul, Nat.reduceLeDiff, Nat.reduceLT, Int.reduceToNat, reduceIte, reduceCtorEq, Int.reduceEq, Int.reduceLT, Int.reduceLE, ↓avp_condG, ↓tf_arrow, ↓ft_arrow]
  intro g4 hg4
  refine weak_at [(11, .imm (spC s)), (12, .t (sl h)), (13, .imm (spC ⟨h, [], [], s.Kept⟩)), (14, .t (sl [(⟨14, 54⟩ : TRun)]))] .empty fewer_empty (by
    simp only [vP.down, vS.down, vE.down, Nat.reduceEqDiff, Nat.reduceAdd, Nat.reduceSub, Nat.reduceMul, Nat.reduceLeDiff, Nat.reduceLT, Int.reduceToNat, reduceIte, reduceCtorEq, Int.reduceEq, Int.reduceLT, Int.reduceLE, ↓avp_condG, ↓tf_arrow, ↓ft_arrow, wP.down, spC]
    exact (lv_at (α := TRun) (l := [⟨14, 54⟩]) (ro := false) rfl (Store.set_same _ _ _)).w2 fun _ _ => rfl) ?_
  have n0 : (([] : List TRun).length : Int) = 0 := rfl
  have hS3 : Sp ⟨h, [], [], s.Kept⟩ := e3 ▸ hs2 ▸ (hs1 ▸ (hS.turn hh.nf hh.wn).turn hh.nf hh.wn).turn hh.nf hh.wn
  have l3 := hS3.len
  have hfr := still_free hS3
  have htu : turnM ⟨h, [], [], s.Kept⟩ h = ⟨h, [], [], s.Kept⟩ := still_turn
  obtain ⟨F, hF⟩ : ∃ F, F = freeM 40 ⟨h, [], [], s.Kept⟩ := ⟨_, rfl⟩
  rw [← hF] at hfr
  have fl : F.length ≤ 1000000 := hF ▸ free_len l3
  have p0 : h.length < 4611686018427387904 := by omega
  have p1 : F.length < 4611686018427387904 := by omega
  have p2 : 1 + h.length ≤ 1099511627 := by omega
  have w1 := where_len .less [(⟨14, 54⟩ : TRun)] h
  have w0 : [(⟨14, 54⟩ : TRun)].length = 1 := rfl
  have lk := hl.2.2.2
  have p3 : (whereL .less [(⟨14, 54⟩ : TRun)] h).length + s.Kept.length ≤ 1099511627 := by omega
  simp only [vP.down, vS.down, vE.down, Nat.reduceEqDiff, Nat.reduceAdd, Nat.reduceSub, Nat.reduceMul, Nat.reduceLeDiff, Nat.reduceLT, Int.reduceToNat, reduceIte, reduceCtorEq, Int.reduceEq, Int.reduceLT, Int.reduceLE, ↓avp_condG, ↓tf_arrow, ↓ft_arrow, spC, n0, p0, p1, w0, p2, p3, lh', l3, ← hF, hfr, htu, pick_of, pick_ot, k_law10_SpaceStill_ref8_Same.down, A_ref8_Same, p_ref8_Same, r_ref8_Same, k_law10_SpaceStill_space_Free.down, A_space_Free, p_space_Free, r_space_Free, k_law10_SpaceStill_ref8_Less.down, A_ref8_Less, p_ref8_Less, r_ref8_Less, k_law10_SpaceStill_space_Turn.down, A_space_Turn, p_space_Turn, r_space_Turn, k_law10_SpaceStill_space_Same.down, A_space_Same, p_space_Same, r_space_Same]
  simp only [vP.down, vS.down, vE.down, Nat.reduceEqDiff, Nat.reduceAdd, Nat.reduceSub, Nat.reduceMul, Nat.reduceLeDiff, Nat.reduceLT, Int.reduceToNat, reduceIte, reduceCtorEq, Int.reduceEq, Int.reduceLT, Int.reduceLE, ↓avp_condG, ↓tf_arrow, ↓ft_arrow, vT.down]
noncomputable def c_law10_SpaceStill : Con := fnScal A_law10_SpaceStill p_law10_SpaceStill r_law10_SpaceStill
theorem ok_law10_SpaceStill : COk Try.prog 8 c_law10_SpaceStill := fn_sok sys_law10_SpaceStill mixed Try.func8 (by kernel_rfl) geq_law10_SpaceStill Try.ntmps8 (by rw [Try.results8]) (fun x => by simp [rTrue, AV.scal]) fun x hx => ⟨Nat.le_of_ble_eq_true rfl, body_law10_SpaceStill x hx⟩
theorem says_law10_SpaceStill : SaysTrue Rows.spaceStillSpec 5 := ⟨rfl, fun H ds h => by
  match ds, h with
  | [d0, d1, d2, d3, d4], _ => exact ⟨rfl, rfl, rfl⟩⟩
set_option maxRecDepth 100000 in
theorem lifted_law10_SpaceStill (os : Os) (started : os.Started) (H : Type) (enc : TypeId × Value → H) :
    ReturnsInHanded {} Try.checked os 8 .any (Rows.spaceStillSpec.pre6 enc Try.prog Try.f8 Rows.spaceStillRow.domain false) (Rows.spaceStillSpec.post enc Try.prog Try.f8 false true false false) := by
  refine returnsInHanded_of_change (C := Try.checked) own started (by kernel_rfl) Try.func8
    (ChangeSpec.witness6 (enc := enc) (C := Try.checked) false ⟨#[], #[.slice none 0 0, .slice none 0 0, .slice none 0 0, .slice none 0 0, .slice none 0 0], []⟩ 8 (by kernel_rfl) (by kernel_rfl) (by kernel_rfl) (by kernel_rfl)) ?_
  intro W base args ds gs before hval hW _ _
  exact law_contract (ts := [22, 22, 22, 22, 22]) (tb := 4) ok_law10_SpaceStill (by rw [Try.params8]) (by kernel_rfl) Try.underlying4 laid (by kernel_rfl) rd_law10_SpaceStill (fun _ h => h) says_law10_SpaceStill H enc W base args ds gs before hval hW
theorem over_law10_SpaceStill : Rows.spaceStillRow.holds Try.pinned (OpenSpec.ofChange Rows.spaceStillSpec) :=
  OpenClaim.holds_of_wide 8 Try.f8 rfl rfl rfl rfl rfl rfl rfl ⟨rfl, rfl, rfl, rfl, rfl⟩ rfl rfl rfl rfl rfl (by kernel_rfl) Try.func8 (by kernel_rfl)
    (of_decide_eq_true (by kernel_rfl)) (by unfold Func.isWrapper; first | (rw [if_pos (by decide +kernel)]; kernel_rfl) | (rw [if_neg (by decide +kernel)]; exact ⟨rfl, rfl⟩))
    (fun os started H enc _ => lifted_law10_SpaceStill os started H enc)
theorem spaceStill_holds : Rows.SpaceStillSaid := over_law10_SpaceStill
end Go.Proofs.Ytgdaibdfjhchbaa

