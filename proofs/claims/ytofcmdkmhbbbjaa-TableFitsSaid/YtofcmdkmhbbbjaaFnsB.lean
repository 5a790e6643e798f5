/-
  Sums, differences, what is in both; may there be such runs; how many sectors; alike.
-/
import Derived.Test.YtofcmdkmhbbbjaaFnsA
set_option linter.unusedSimpArgs false
set_option linter.unusedVariables false
open Nat renaming reduceEqDiff → qA, reduceAdd → qB, reduceSub → qC, reduceMul → qD, reduceLeDiff → qE, reduceLT → qF
open Int renaming reduceToNat → qG, reduceEq → qH, reduceLT → qI, reduceLE → qJ
namespace Go.Proofs.Ytofcmdkmhbbbjaa
open Go Go.Eng
set_option maxRecDepth 100000
def G_span_Add : GCode := .seq (.region [⟨(some 4), none, .assign (.const (.slice none 0 0))⟩]) (.seq (.region [⟨(some 5), none, .move (.tmp 0)⟩, ⟨(some 6), none, .move (.tmp 1)⟩, ⟨(some 7), none, .build 128 #[(0, .tmp 5), (1, .tmp 6)]⟩, ⟨(some 8), none, .call ⟨.value (.func 85), #[.tmp 7, .func 97], #[128, 130]⟩⟩, ⟨(some 4), none, .assign (.tmp 8)⟩]) (.ret))
noncomputable def l_span_Add : List (Nat × Con) := [(85, c_span_rows_where)]
noncomputable abbrev K_span_Add : Ctx := ctx (cl l_span_Add)
theorem geq_span_Add : gof K_span_Add Try.f84 = some G_span_Add.strip := by kernel_rfl
theorem sys_span_Add : Go.Eng.Sys Try.prog K_span_Add := sys_of' ⟨ok_span_rows_where, trivial⟩
noncomputable def k_span_Add_span_rows_where := PLift.up (call_fn (C := K_span_Add) (f := 85) (A := A_span_rows_where) (p := p_span_rows_where) (r := r_span_rows_where) rfl)
def A_span_Add := Arms.cons (argT (List TRun)) (Arms.cons (argT (List TRun)) Arms.nil)
def p_span_Add (x : List TRun × List TRun × Unit) : Prop := x.1.length + x.2.1.length ≤ 1099511627
def r_span_Add (x : List TRun × List TRun × Unit) : AV := .t (sl (whereL .add x.1 x.2.1))
theorem body_span_Add (x : List TRun × List TRun × Unit) (hp : p_span_Add x) : avp K_span_Add G_span_Add (Ret K_span_Add [.tmp 4] fun v s' => Frz s' v (r_span_Add x)) (entry (A_span_Add.enc x) .empty) := by
  obtain ⟨l, m, ⟨⟩⟩ := x
  change l.length + m.length ≤ 1099511627 at hp
  change avp _ _ (Ret _ _ fun v s' => Frz1 s' v (sl (whereL .add l m))) (entry [.t (sl l), .t (sl m)] .empty)
  unfold G_span_Add
  have hd : (argA Trows).dec (.agg [.t (sl l), .t (sl m)]) = some ⟨l, m⟩ := Cell.dec_enc (⟨l, m⟩ : Trows)
  have hh : argH.dec (.fn 97 []) = some .add := rfl
  have ho : okH .add = True := rfl
  simp only [vP.down, vS.down, vE.down, qA, qB, qC, qD, qE, qF, qG, reduceIte, reduceCtorEq, qH, qI, qJ, ↓avp_condG, ↓tf_arrow, ↓ft_arrow, hd, hh, ho, hp, k_span_Add_span_rows_where.down, A_span_rows_where, p_span_rows_where, r_span_rows_where]
  simp only [vP.down, vS.down, vE.down, qA, qB, qC, qD, qE, qF, qG, reduceIte, reduceCtorEq, qH, qI, qJ, ↓avp_condG, ↓tf_arrow, ↓ft_arrow, vT.down]
noncomputable def c_span_Add : Con := fnCon A_span_Add p_span_Add r_span_Add
theorem ok_span_Add : COk Try.prog 84 c_span_Add := fn_ok sys_span_Add mixed Try.func84 (by kernel_rfl) geq_span_Add Try.ntmps84 (by rw [Try.results84]) fun x hx => ⟨Nat.le_of_ble_eq_true rfl, body_span_Add x hx⟩
def G_span_Less : GCode := .seq (.region [⟨(some 4), none, .assign (.const (.slice none 0 0))⟩]) (.seq (.region [⟨(some 5), none, .move (.tmp 0)⟩, ⟨(some 6), none, .move (.tmp 1)⟩, ⟨(some 7), none, .build 128 #[(0, .tmp 5), (1, .tmp 6)]⟩, ⟨(some 8), none, .call ⟨.value (.func 85), #[.tmp 7, .func 86], #[128, 130]⟩⟩, ⟨(some 4), none, .assign (.tmp 8)⟩]) (.ret))
noncomputable def l_span_Less : List (Nat × Con) := [(85, c_span_rows_where)]
noncomputable abbrev K_span_Less : Ctx := ctx (cl l_span_Less)
theorem geq_span_Less : gof K_span_Less Try.f71 = some G_span_Less.strip := by kernel_rfl
theorem sys_span_Less : Go.Eng.Sys Try.prog K_span_Less := sys_of' ⟨ok_span_rows_where, trivial⟩
noncomputable def k_span_Less_span_rows_where := PLift.up (call_fn (C := K_span_Less) (f := 85) (A := A_span_rows_where) (p := p_span_rows_where) (r := r_span_rows_where) rfl)
def A_span_Less := Arms.cons (argT (List TRun)) (Arms.cons (argT (List TRun)) Arms.nil)
def p_span_Less (x : List TRun × List TRun × Unit) : Prop := x.1.length + x.2.1.length ≤ 1099511627
def r_span_Less (x : List TRun × List TRun × Unit) : AV := .t (sl (whereL .less x.1 x.2.1))
theorem body_span_Less (x : List TRun × List TRun × Unit) (hp : p_span_Less x) : avp K_span_Less G_span_Less (Ret K_span_Less [.tmp 4] fun v s' => Frz s' v (r_span_Less x)) (entry (A_span_Less.enc x) .empty) := by
  obtain ⟨l, m, ⟨⟩⟩ := x
  change l.length + m.length ≤ 1099511627 at hp
  change avp _ _ (Ret _ _ fun v s' => Frz1 s' v (sl (whereL .less l m))) (entry [.t (sl l), .t (sl m)] .empty)
  unfold G_span_Less
  have hd : (argA Trows).dec (.agg [.t (sl l), .t (sl m)]) = some ⟨l, m⟩ := Cell.dec_enc (⟨l, m⟩ : Trows)
  have hh : argH.dec (.fn 86 []) = some .less := rfl
  have ho : okH .less = True := rfl
  simp only [vP.down, vS.down, vE.down, qA, qB, qC, qD, qE, qF, qG, reduceIte, reduceCtorEq, qH, qI, qJ, ↓avp_condG, ↓tf_arrow, ↓ft_arrow, hd, hh, ho, hp, k_span_Less_span_rows_where.down, A_span_rows_where, p_span_rows_where, r_span_rows_where]
  simp only [vP.down, vS.down, vE.down, qA, qB, qC, qD, qE, qF, qG, reduceIte, reduceCtorEq, qH, qI, qJ, ↓avp_condG, ↓tf_arrow, ↓ft_arrow, vT.down]
noncomputable def c_span_Less : Con := fnCon A_span_Less p_span_Less r_span_Less
theorem ok_span_Less : COk Try.prog 71 c_span_Less := fn_ok sys_span_Less mixed Try.func71 (by kernel_rfl) geq_span_Less Try.ntmps71 (by rw [Try.results71]) fun x hx => ⟨Nat.le_of_ble_eq_true rfl, body_span_Less x hx⟩
def G_span_Both : GCode := .seq (.region [⟨(some 4), none, .assign (.const (.slice none 0 0))⟩]) (.seq (.region [⟨(some 5), none, .move (.tmp 0)⟩, ⟨(some 6), none, .move (.tmp 1)⟩, ⟨(some 7), none, .build 128 #[(0, .tmp 5), (1, .tmp 6)]⟩, ⟨(some 8), none, .call ⟨.value (.func 85), #[.tmp 7, .func 96], #[128, 130]⟩⟩, ⟨(some 4), none, .assign (.tmp 8)⟩]) (.ret))
noncomputable def l_span_Both : List (Nat × Con) := [(85, c_span_rows_where)]
noncomputable abbrev K_span_Both : Ctx := ctx (cl l_span_Both)
theorem geq_span_Both : gof K_span_Both Try.f83 = some G_span_Both.strip := by kernel_rfl
theorem sys_span_Both : Go.Eng.Sys Try.prog K_span_Both := sys_of' ⟨ok_span_rows_where, trivial⟩
noncomputable def k_span_Both_span_rows_where := PLift.up (call_fn (C := K_span_Both) (f := 85) (A := A_span_rows_where) (p := p_span_rows_where) (r := r_span_rows_where) rfl)
def A_span_Both := Arms.cons (argT (List TRun)) (Arms.cons (argT (List TRun)) Arms.nil)
def p_span_Both (x : List TRun × List TRun × Unit) : Prop := x.1.length + x.2.1.length ≤ 1099511627
def r_span_Both (x : List TRun × List TRun × Unit) : AV := .t (sl (whereL .both x.1 x.2.1))
theorem body_span_Both (x : List TRun × List TRun × Unit) (hp : p_span_Both x) : avp K_span_Both G_span_Both (Ret K_span_Both [.tmp 4] fun v s' => Frz s' v (r_span_Both x)) (entry (A_span_Both.enc x) .empty) := by
  obtain ⟨l, m, ⟨⟩⟩ := x
  change l.length + m.length ≤ 1099511627 at hp
  change avp _ _ (Ret _ _ fun v s' => Frz1 s' v (sl (whereL .both l m))) (entry [.t (sl l), .t (sl m)] .empty)
  unfold G_span_Both
  have hd : (argA Trows).dec (.agg [.t (sl l), .t (sl m)]) = some ⟨l, m⟩ := Cell.dec_enc (⟨l, m⟩ : Trows)
  have hh : argH.dec (.fn 96 []) = some .both := rfl
  have ho : okH .both = True := rfl
  simp only [vP.down, vS.down, vE.down, qA, qB, qC, qD, qE, qF, qG, reduceIte, reduceCtorEq, qH, qI, qJ, ↓avp_condG, ↓tf_arrow, ↓ft_arrow, hd, hh, ho, hp, k_span_Both_span_rows_where.down, A_span_rows_where, p_span_rows_where, r_span_rows_where]
  simp only [vP.down, vS.down, vE.down, qA, qB, qC, qD, qE, qF, qG, reduceIte, reduceCtorEq, qH, qI, qJ, ↓avp_condG, ↓tf_arrow, ↓ft_arrow, vT.down]
noncomputable def c_span_Both : Con := fnCon A_span_Both p_span_Both r_span_Both
theorem ok_span_Both : COk Try.prog 83 c_span_Both := fn_ok sys_span_Both mixed Try.func83 (by kernel_rfl) geq_span_Both Try.ntmps83 (by rw [Try.results83]) fun x hx => ⟨Nat.le_of_ble_eq_true rfl, body_span_Both x hx⟩
def mayR : Int → List TRun → Bool
  | _, [] => true
  | a, r :: t => decide (a < r.From) && decide (r.From < r.To) && decide (r.To ≤ 1073741824) && mayR r.To t
theorem mayR_step {a : Int} {l : List TRun} {i : Nat} (h : i < l.length) : mayR a (l.drop i) = (decide (a < (l.getD i default).From) && decide ((l.getD i default).From < (l.getD i default).To) && decide ((l.getD i default).To ≤ 1073741824) && mayR (l.getD i default).To (l.drop (i + 1))) := by
  rw [List.drop_eq_getElem_cons h, mayR, List.getD_eq_getElem?_getD, List.getElem?_eq_getElem h, Option.getD_some]
def G_span_May : GCode := .seq (.region [⟨(some 2), none, .assign (.const (.bool false))⟩]) (.seq (.region [⟨(some 3), none, .assign (.const (.int .i64 (-1)))⟩]) (.seq (.seq (.region [⟨(some 6), none, .move (.tmp 0)⟩, ⟨(some 7), none, .call ⟨.builtin .len, #[.tmp 6], #[52]⟩⟩, ⟨(some 8), none, .move (.const (.int .i64 0))⟩]) (.block 0 (.loop (.seq .weak (.seq (.region [⟨(some 9), none, .binOp .lss 3 (.tmp 8) (.tmp 7) 3⟩]) (.seq (.cond (.tmp 9) (.skip) (.exit 0)) (.seq (.block 1 (.seq (.region [⟨(some 10), none, .indexAddr 52 (.tmp 6) (.tmp 8)⟩, ⟨(some 11), none, .load 69 (.tmp 10)⟩, ⟨(some 5), none, .alloc 69⟩, ⟨none, none, .store 69 (.tmp 5) (.tmp 11)⟩]) (.seq (.seq (.seq .weak (.region [⟨(some 12), none, .fieldAddr 69 (.tmp 5) 0⟩, ⟨(some 13), none, .load 3 (.tmp 12)⟩, ⟨(some 14), none, .move (.tmp 3)⟩, ⟨(some 15), none, .binOp .leq 3 (.tmp 13) (.tmp 14) 3⟩, ⟨(some 16), none, .move (.tmp 15)⟩, ⟨(some 17), (some (16, false)), .fieldAddr 69 (.tmp 5) 0⟩, ⟨(some 18), (some (16, false)), .load 3 (.tmp 17)⟩, ⟨(some 19), (some (16, false)), .fieldAddr 69 (.tmp 5) 1⟩, ⟨(some 20), (some (16, false)), .load 3 (.tmp 19)⟩, ⟨(some 21), (some (16, false)), .binOp .geq 3 (.tmp 18) (.tmp 20) 3⟩, ⟨(some 22), none, .pick (.tmp 16) (.const (.bool true)) (.tmp 21)⟩, ⟨(some 23), none, .move (.tmp 22)⟩, ⟨(some 24), (some (23, false)), .fieldAddr 69 (.tmp 5) 1⟩, ⟨(some 25), (some (23, false)), .load 3 (.tmp 24)⟩, ⟨(some 26), (some (23, false)), .binOp .gtr 3 (.tmp 25) (.const (.int .i64 1073741824)) 3⟩, ⟨(some 27), none, .pick (.tmp 23) (.const (.bool true)) (.tmp 26)⟩])) (.cond (.tmp 27) (.seq (.region [⟨(some 2), none, .assign (.const (.bool false))⟩]) (.ret)) (.skip))) (.region [⟨(some 28), none, .fieldAddr 69 (.tmp 5) 1⟩, ⟨(some 29), none, .load 3 (.tmp 28)⟩, ⟨(some 3), none, .assign (.tmp 29)⟩])))) (.region [⟨(some 30), none, .binOp .add 3 (.tmp 8) (.const (.int .i64 1)) 3⟩, ⟨(some 8), none, .move (.tmp 30)⟩])))))))) (.seq (.region [⟨(some 2), none, .assign (.const (.bool true))⟩]) (.ret))))
noncomputable def l_span_May : List (Nat × Con) := []
noncomputable abbrev K_span_May : Ctx := ctx (cl l_span_May)
theorem geq_span_May : gof K_span_May Try.f70 = some G_span_May.strip := by kernel_rfl
theorem sys_span_May : Go.Eng.Sys Try.prog K_span_May := sys_of' (l := []) trivial
theorem hm_span_May : ConMono K_span_May := conMono_of sys_span_May.con
def A_span_May := Arms.cons (argT (List TRun)) Arms.nil
def p_span_May (x : List TRun × Unit) : Prop := x.1.length < 4611686018427387904
def r_span_May (x : List TRun × Unit) : AV := .t (.bool (mayR (-1) x.1))
theorem body_span_May (x : List TRun × Unit) (hp : p_span_May x) : avp K_span_May G_span_May (Ret K_span_May [.tmp 2] fun v _ => v = r_span_May x) (entry (A_span_May.enc x) .empty) := by
  obtain ⟨l, ⟨⟩⟩ := x
  change l.length < 4611686018427387904 at hp
  change avp _ _ (Ret _ _ fun v _ => v = .t (.bool (mayR (-1) l))) (entry [.t (sl l)] .empty)
  unfold G_span_May
  simp only [vP.down, vS.down, vE.down, qA, qB, qC, qD, qE, qF, qG, reduceIte, reduceCtorEq, qH, qI, qJ, ↓avp_condG, ↓tf_arrow, ↓ft_arrow]
  refine loop_weak hm_span_May (fun k σ => ∃ (i : Nat) (a : Int), k = l.length - i ∧ i ≤ l.length ∧ mayR (-1) l = mayR a (l.drop i) ∧ σ = mkS [(3, .t (.int .i64 a)), (6, .t (sl l)), (7, .t (.int .i64 (l.length : Nat))), (8, .t (.int .i64 (i : Nat)))] .empty) ⟨0, -1, rfl, by omega, rfl, rfl⟩ (wk_to fewer_refl (by simp only [vP.down, vS.down, vE.down, qA, qB, qC, qD, qE, qF, qG, reduceIte, reduceCtorEq, qH, qI, qJ, ↓avp_condG, ↓tf_arrow, ↓ft_arrow, wP.down, Int.natCast_zero])) ?_
  rintro k _ ⟨i, a, rfl, hi, ht, rfl⟩
  have hi1 : IntKind.i64.wrap ((i : Int) + 1) = ((i + 1 : Nat) : Int) := by rw [IntWalk.i64_in _ (by omega)]; rfl
  by_cases hlt : i < l.length
  case neg =>
    obtain rfl : i = l.length := by omega
    have hge : ¬ ((l.length : Int) < (l.length : Int)) := by omega
    rw [List.drop_length, mayR] at ht
    simp only [vP.down, vS.down, vE.down, qA, qB, qC, qD, qE, qF, qG, reduceIte, reduceCtorEq, qH, qI, qJ, ↓avp_condG, ↓tf_arrow, ↓ft_arrow, hge]
    simp only [vP.down, vS.down, vE.down, qA, qB, qC, qD, qE, qF, qG, reduceIte, reduceCtorEq, qH, qI, qJ, ↓avp_condG, ↓tf_arrow, ↓ft_arrow, vT.down, ht]
  have hlt' : (i : Int) < (l.length : Int) := by omega
  have hix := idx_at (C := K_span_May) (l := l) ty_Lapi_Run ty_api_Run rfl hlt .i64
  rw [mayR_step hlt] at ht
  obtain ⟨r, hr⟩ : ∃ r, r = l.getD i default := ⟨_, rfl⟩
  rw [← hr] at hix ht
  simp only [vP.down, vS.down, vE.down, qA, qB, qC, qD, qE, qF, qG, reduceIte, reduceCtorEq, qH, qI, qJ, ↓avp_condG, ↓tf_arrow, ↓ft_arrow, hlt', hix]
  intro g hg
  refine weak_at [(3, .t (.int .i64 a)), (5, .imm [.int .i64 r.From, .int .i64 r.To]), (6, .t (sl l)), (7, .t (.int .i64 (l.length : Nat))), (8, .t (.int .i64 (i : Nat)))] .empty fewer_empty (by simp only [vP.down, vS.down, vE.down, qA, qB, qC, qD, qE, qF, qG, reduceIte, reduceCtorEq, qH, qI, qJ, ↓avp_condG, ↓tf_arrow, ↓ft_arrow, wP.down]; exact w2_imm (l := [.int .i64 r.From, .int .i64 r.To]) (ro := false) (Store.set_same _ _ _) rfl) ?_
  by_cases c1 : r.From ≤ a
  · have hn : ¬ a < r.From := by omega
    simp only [vP.down, vS.down, vE.down, qA, qB, qC, qD, qE, qF, qG, reduceIte, reduceCtorEq, qH, qI, qJ, ↓avp_condG, ↓tf_arrow, ↓ft_arrow, c1, pick_of, pick_ot, false_implies]
    simp only [vP.down, vS.down, vE.down, qA, qB, qC, qD, qE, qF, qG, reduceIte, reduceCtorEq, qH, qI, qJ, ↓avp_condG, ↓tf_arrow, ↓ft_arrow, vT.down, ht, hn]
  have hn : a < r.From := by omega
  by_cases c2 : r.To ≤ r.From
  · have hn2 : ¬ r.From < r.To := by omega
    simp only [vP.down, vS.down, vE.down, qA, qB, qC, qD, qE, qF, qG, reduceIte, reduceCtorEq, qH, qI, qJ, ↓avp_condG, ↓tf_arrow, ↓ft_arrow, c1, c2, ge_iff_le, pick_of, pick_ot, false_implies]
    simp only [vP.down, vS.down, vE.down, qA, qB, qC, qD, qE, qF, qG, reduceIte, reduceCtorEq, qH, qI, qJ, ↓avp_condG, ↓tf_arrow, ↓ft_arrow, vT.down, ht, hn2]
  have hn2 : r.From < r.To := by omega
  by_cases c3 : 1073741824 < r.To
  · have hn3 : ¬ r.To ≤ 1073741824 := by omega
    simp only [vP.down, vS.down, vE.down, qA, qB, qC, qD, qE, qF, qG, reduceIte, reduceCtorEq, qH, qI, qJ, ↓avp_condG, ↓tf_arrow, ↓ft_arrow, c1, c2, c3, ge_iff_le, gt_iff_lt, pick_of, pick_ot, false_implies]
    simp only [vP.down, vS.down, vE.down, qA, qB, qC, qD, qE, qF, qG, reduceIte, reduceCtorEq, qH, qI, qJ, ↓avp_condG, ↓tf_arrow, ↓ft_arrow, vT.down, ht, hn3]
  have hn3 : r.To ≤ 1073741824 := by omega
  simp only [hn, hn2, hn3, decide_true, Bool.true_and] at ht
  simp only [vP.down, vS.down, vE.down, qA, qB, qC, qD, qE, qF, qG, reduceIte, reduceCtorEq, qH, qI, qJ, ↓avp_condG, ↓tf_arrow, ↓ft_arrow, c1, c2, c3, ge_iff_le, gt_iff_lt, pick_of, pick_ot, false_implies]
  exact round_to (l.length - (i + 1)) [(3, .t (.int .i64 r.To)), (6, .t (sl l)), (7, .t (.int .i64 (l.length : Nat))), (8, .t (.int .i64 (i + 1 : Nat)))] .empty (by omega) fewer_refl (by simp only [vP.down, vS.down, vE.down, qA, qB, qC, qD, qE, qF, qG, reduceIte, reduceCtorEq, qH, qI, qJ, ↓avp_condG, ↓tf_arrow, ↓ft_arrow, wP.down, hi1]) ⟨i + 1, r.To, rfl, by omega, ht, rfl⟩
noncomputable def c_span_May : Con := fnScal A_span_May p_span_May r_span_May
theorem ok_span_May : COk Try.prog 70 c_span_May := fn_sok sys_span_May mixed Try.func70 (by kernel_rfl) geq_span_May Try.ntmps70 (by rw [Try.results70]) (fun x => by unfold r_span_May; simp [AV.scal]) fun x hx => ⟨Nat.le_of_ble_eq_true rfl, body_span_May x hx⟩
end Go.Proofs.Ytofcmdkmhbbbjaa
namespace Go.Proofs.Ytofcmdkmhbbbjaa
open Go Go.Eng
set_option maxRecDepth 100000
def okB (l : List TRun) : Prop := ∀ r ∈ l, 0 ≤ r.From ∧ r.From ≤ r.To ∧ r.To ≤ 1073741824
def cntR (l : List TRun) : Int := (l.map fun r => r.To - r.From).sum
end Go.Proofs.Ytofcmdkmhbbbjaa
namespace Go.Proofs.Ytofcmdkmhbbbjaa
open Go Go.Eng
set_option maxRecDepth 100000
def seg (a : Int) (k : Nat) : List Int := (List.range k).map fun j => a + (j : Nat)
theorem seg_len {a : Int} {k : Nat} : (seg a k).length = k := by simp [seg]
def secs (l : List TRun) : List Int := l.flatMap fun r => seg r.From (r.To - r.From).toNat
end Go.Proofs.Ytofcmdkmhbbbjaa
namespace Go.Eng
theorem PV.len {C : Ctx} {T e : TypeId} {n m : Nat} {z : List TV} {S : Store} {v : AV} {l : List Int} (hl : PV S v l) (h : C.ty T = some ⟨.slice e, n, m, z⟩) : lenB C T v = .val True (.t (.int .i64 (l.length : Int))) := by
  rcases hl with ⟨rfl, rfl⟩ | ⟨g, r, rfl, _⟩
  · exact nil_len h
  · exact tok_len h
theorem PV.w2 {S : Store} {v : AV} {l : List Int} (h : PV S v l) : W2 S .empty v (.t (sl l)) := by
  rcases h.frz with rfl | ⟨n, h1, h2⟩ | ⟨ros, h1⟩
  · exact .inl (.inl rfl)
  · exact .inl (.inr (.inl ⟨n, by rw [h1], h2⟩))
  · exact .inl (.inr (.inr ⟨_, ros, h1, .inl rfl, fun _ _ => rfl⟩))
end Go.Eng
namespace Go.Proofs.Ytofcmdkmhbbbjaa
open Go Go.Eng
set_option maxRecDepth 100000
def G_slices_Clone___int_int_ : GCode := .seq (.region [⟨(some 2), none, .assign (.const (.slice none 0 0))⟩]) (.seq (.seq (.region [⟨(some 3), none, .move (.tmp 0)⟩, ⟨(some 4), none, .binOp .eql 58 (.tmp 3) (.const (.slice none 0 0)) 58⟩]) (.cond (.tmp 4) (.seq (.region [⟨(some 2), none, .assign (.const (.slice none 0 0))⟩]) (.ret)) (.skip))) (.seq (.region [⟨(some 5), none, .buildSlice 58 0 #[]⟩, ⟨(some 6), none, .move (.tmp 0)⟩, ⟨(some 7), none, .call ⟨.builtin .append, #[.tmp 5, .tmp 6], #[58, 58]⟩⟩, ⟨(some 2), none, .assign (.tmp 7)⟩]) (.ret)))
noncomputable def l_slices_Clone___int_int_ : List (Nat × Con) := []
noncomputable abbrev K_slices_Clone___int_int_ : Ctx := ctx (cl l_slices_Clone___int_int_)
theorem geq_slices_Clone___int_int_ : gof K_slices_Clone___int_int_ Try.f91 = some G_slices_Clone___int_int_.strip := by kernel_rfl
theorem sys_slices_Clone___int_int_ : Go.Eng.Sys Try.prog K_slices_Clone___int_int_ := sys_of' (l := []) trivial
theorem nil_slices_Clone___int_int_ : avp K_slices_Clone___int_int_ G_slices_Clone___int_int_ (Ret K_slices_Clone___int_int_ [.tmp 2] fun r _ => r = .t .nilS) (entry [.t (.emq true)] .empty) := by
  unfold G_slices_Clone___int_int_
  simp only [vP.down, vS.down, vE.down, qA, qB, qC, qD, qE, qF, qG, reduceIte, reduceCtorEq, qH, qI, qJ, ↓avp_condG, ↓tf_arrow, ↓ft_arrow, eql_emq ty_Lint, false_implies]
  simp only [vP.down, vS.down, vE.down, qA, qB, qC, qD, qE, qF, qG, reduceIte, reduceCtorEq, qH, qI, qJ, ↓avp_condG, ↓tf_arrow, ↓ft_arrow, vT.down]
theorem row_slices_Clone___int_int_ (x : TV) (l : List Int) (h : (x = .emq false ∧ l = []) ∨ (∃ y r, x = sl l ∧ l = y :: r)) (hl : l.length ≤ 1099511627776) :
    avp K_slices_Clone___int_int_ G_slices_Clone___int_int_ (Ret K_slices_Clone___int_int_ [.tmp 2] fun r s' => ∃ g, r = .tok g (Cell.width Int) 0 l.length ∧ s'.f g = some (.row (Cell.width Int) (l.map Cell.enc) false)) (entry [.t x] .empty) := by
  have fin : ∀ g, Store.empty.f g = none → Shows (Store.empty.set g (some (.row 1 [] false))) (.t x) l → appendV K_slices_Clone___int_int_ 58 (.tok g 1 0 0) (.t x) (fun v s => ∃ g', v = .tok g' (Cell.width Int) 0 l.length ∧ s.f g' = some (.row (Cell.width Int) (l.map Cell.enc) false)) (Store.empty.set g (some (.row 1 [] false))) := fun g hg hs => by
    refine append_tok (l := ([] : List Int)) ty_Lint ty_int rfl (by decide) (Store.set_same _ _ _) hs (by simp; omega) (by simp; omega) fun g' hg' => ⟨g', rfl, Store.set_same _ _ _⟩
  unfold G_slices_Clone___int_int_
  rcases h with ⟨rfl, rfl⟩ | ⟨y, r, rfl, rfl⟩
  · simp only [vP.down, vS.down, vE.down, qA, qB, qC, qD, qE, qF, qG, reduceIte, reduceCtorEq, qH, qI, qJ, ↓avp_condG, ↓tf_arrow, ↓ft_arrow, eql_emq ty_Lint, false_implies]
    ((repeat' with_reducible refine And.intro ?_ ?_) <;> try (first | omega | (simp only [List.length_take, List.length_drop, List.length_append, List.length_map, List.length_replicate] <;> omega)))
    intro g hg
    simp only [vP.down, vS.down, vE.down, qA, qB, qC, qD, qE, qF, qG, reduceIte, reduceCtorEq, qH, qI, qJ, ↓avp_condG, ↓tf_arrow, ↓ft_arrow, vT.down]
    exact fin g hg shows_emq
  · simp only [vP.down, vS.down, vE.down, qA, qB, qC, qD, qE, qF, qG, reduceIte, reduceCtorEq, qH, qI, qJ, ↓avp_condG, ↓tf_arrow, ↓ft_arrow, eql_seq ty_Lint, false_implies]
    ((repeat' with_reducible refine And.intro ?_ ?_) <;> try (first | omega | (simp only [List.length_take, List.length_drop, List.length_append, List.length_map, List.length_replicate] <;> omega)))
    intro g hg
    simp only [vP.down, vS.down, vE.down, qA, qB, qC, qD, qE, qF, qG, reduceIte, reduceCtorEq, qH, qI, qJ, ↓avp_condG, ↓tf_arrow, ↓ft_arrow, vT.down]
    exact fin g hg shows_sl
abbrev A_slices_Clone___int_int_ := clA Int
abbrev p_slices_Clone___int_int_ := clP (α := Int)
abbrev e_slices_Clone___int_int_ := clE (α := Int)
abbrev mk_slices_Clone___int_int_ := clM (α := Int)
noncomputable def c_slices_Clone___int_int_ : Con := ownCon A_slices_Clone___int_int_ p_slices_Clone___int_int_ e_slices_Clone___int_int_ mk_slices_Clone___int_int_
theorem ok_slices_Clone___int_int_ : COk Try.prog 91 c_slices_Clone___int_int_ := clone_ok sys_slices_Clone___int_int_ mixed Try.func91 (by kernel_rfl) geq_slices_Clone___int_int_ Try.ntmps91 (by rw [Try.results91]) (by decide) nil_slices_Clone___int_int_ row_slices_Clone___int_int_
def ofStep (o : List TRun) (a : Int) : List TRun := if 0 ≤ a ∧ a < 1073741824 then behindL o ⟨a, a + 1⟩ else o
theorem ofStep_len {o : List TRun} {a : Int} : (ofStep o a).length ≤ o.length + 1 := by
  unfold ofStep
  split
  · exact behindL_len
  · omega
def ofL (l : List Int) : List TRun := (cpL (sortL l)).foldl ofStep []
theorem fold_next {α β : Type} [Inhabited α] {f : β → α → β} {b : β} {e : List α} {i : Nat} (h : i < e.length) : (e.take (i + 1)).foldl f b = f ((e.take i).foldl f b) (e.getD i default) := by
  rw [List.take_add_one, List.getD_eq_getElem?_getD, List.getElem?_eq_getElem h, List.foldl_append]
  rfl
def G_span_Of : GCode := .seq (.region [⟨(some 2), none, .assign (.const (.slice none 0 0))⟩]) (.seq (.region [⟨(some 3), none, .assign (.const (.slice none 0 0))⟩]) (.seq (.region [⟨(some 6), none, .move (.tmp 0)⟩, ⟨(some 7), none, .call ⟨.value (.func 91), #[.tmp 6], #[58]⟩⟩, ⟨(some 0), none, .assign (.tmp 7)⟩]) (.seq (.region [⟨(some 8), none, .move (.tmp 0)⟩, ⟨(some 9), none, .call ⟨.value (.func 92), #[.tmp 8], #[58]⟩⟩]) (.seq (.seq (.region [⟨(some 10), none, .move (.tmp 0)⟩, ⟨(some 11), none, .call ⟨.value (.func 93), #[.tmp 10], #[58]⟩⟩, ⟨(some 12), none, .call ⟨.builtin .len, #[.tmp 11], #[58]⟩⟩, ⟨(some 13), none, .move (.const (.int .i64 0))⟩]) (.block 0 (.loop (.seq .weak (.seq (.region [⟨(some 14), none, .binOp .lss 3 (.tmp 13) (.tmp 12) 3⟩]) (.seq (.cond (.tmp 14) (.skip) (.exit 0)) (.seq (.block 1 (.seq (.region [⟨(some 15), none, .indexAddr 58 (.tmp 11) (.tmp 13)⟩, ⟨(some 16), none, .load 3 (.tmp 15)⟩, ⟨(some 5), none, .assign (.tmp 16)⟩]) (.seq (.region [⟨(some 17), none, .move (.tmp 5)⟩, ⟨(some 18), none, .binOp .geq 3 (.tmp 17) (.const (.int .i64 0)) 3⟩, ⟨(some 19), none, .move (.tmp 18)⟩, ⟨(some 20), (some (19, true)), .move (.tmp 5)⟩, ⟨(some 21), (some (19, true)), .binOp .lss 3 (.tmp 20) (.const (.int .i64 1073741824)) 3⟩, ⟨(some 22), none, .pick (.tmp 19) (.tmp 21) (.const (.bool false))⟩]) (.cond (.tmp 22) (.region [⟨(some 23), none, .move (.tmp 3)⟩, ⟨(some 24), none, .move (.tmp 5)⟩, ⟨(some 25), none, .move (.tmp 5)⟩, ⟨(some 26), none, .binOp .add 3 (.tmp 25) (.const (.int .i64 1)) 3⟩, ⟨(some 27), none, .build 69 #[(0, .tmp 24), (1, .tmp 26)]⟩, ⟨(some 28), none, .call ⟨.value (.func 94), #[.tmp 23, .tmp 27], #[52, 69]⟩⟩, ⟨(some 3), none, .assign (.tmp 28)⟩]) (.skip))))) (.region [⟨(some 29), none, .binOp .add 3 (.tmp 13) (.const (.int .i64 1)) 3⟩, ⟨(some 13), none, .move (.tmp 29)⟩])))))))) (.seq (.region [⟨(some 30), none, .move (.tmp 3)⟩, ⟨(some 2), none, .assign (.tmp 30)⟩]) (.ret))))))
noncomputable def l_span_Of : List (Nat × Con) := [(91, c_slices_Clone___int_int_), (92, c_slices_Sort___int_int_), (93, c_slices_Compact___int_int_), (94, c_span_behind)]
noncomputable abbrev K_span_Of : Ctx := ctx (cl l_span_Of)
theorem geq_span_Of : gof K_span_Of Try.f77 = some G_span_Of.strip := by kernel_rfl
theorem sys_span_Of : Go.Eng.Sys Try.prog K_span_Of := sys_of' ⟨ok_slices_Clone___int_int_, ok_slices_Sort___int_int_, ok_slices_Compact___int_int_, ok_span_behind, trivial⟩
theorem hm_span_Of : ConMono K_span_Of := conMono_of sys_span_Of.con
noncomputable def k_span_Of_slices_Clone___int_int_ := PLift.up (call_own (C := K_span_Of) (f := 91) (A := A_slices_Clone___int_int_) (p := p_slices_Clone___int_int_) (es := e_slices_Clone___int_int_) (mk := mk_slices_Clone___int_int_) rfl)
noncomputable def k_span_Of_slices_Sort___int_int_ := PLift.up (call_gen (C := K_span_Of) (f := 92) (modes := m_slices_Sort___int_int_) (F := F_slices_Sort___int_int_) rfl)
noncomputable def k_span_Of_slices_Compact___int_int_ := PLift.up (call_gen (C := K_span_Of) (f := 93) (modes := m_slices_Compact___int_int_) (F := F_slices_Compact___int_int_) rfl)
noncomputable def k_span_Of_span_behind := PLift.up (call_gen (C := K_span_Of) (f := 94) (modes := m_span_behind) (F := F_span_behind) rfl)
def A_span_Of := Arms.cons (argT (List Int)) Arms.nil
def p_span_Of (x : List Int × Unit) : Prop := x.1.length ≤ 1099511627776
def r_span_Of (x : List Int × Unit) : AV := .t (sl (ofL x.1))
set_option maxRecDepth 100000 in
theorem body_span_Of (x : List Int × Unit) (hp : p_span_Of x) : avp K_span_Of G_span_Of (Ret K_span_Of [.tmp 2] fun v s' => Frz s' v (r_span_Of x)) (entry (A_span_Of.enc x) .empty) := by
  obtain ⟨l, ⟨⟩⟩ := x
  change l.length ≤ 1099511627776 at hp
  change avp _ _ (Ret _ _ fun v s' => Frz1 s' v (sl (ofL l))) (entry [.t (sl l)] .empty)
  unfold G_span_Of
  simp only [vP.down, vS.down, vE.down, qA, qB, qC, qD, qE, qF, qG, reduceIte, reduceCtorEq, qH, qI, qJ, ↓avp_condG, ↓tf_arrow, ↓ft_arrow, hp, k_span_Of_slices_Clone___int_int_.down, A_slices_Clone___int_int_, p_slices_Clone___int_int_, e_slices_Clone___int_int_, mk_slices_Clone___int_int_, clA, clP, clE, clM]
  intro g hg
  have hv0 : OW (Store.empty.set g (some (.row 1 (l.map Cell.enc) false))) (.tok g 1 0 l.length) l := .inr ⟨g, rfl, Store.set_same _ _ _⟩
  simp only [vP.down, vS.down, vE.down, qA, qB, qC, qD, qE, qF, qG, reduceIte, reduceCtorEq, qH, qI, qJ, ↓avp_condG, ↓tf_arrow, ↓ft_arrow, k_span_Of_slices_Sort___int_int_.down, m_slices_Sort___int_int_]
  refine sort_ow hv0 (by omega) fun S1 h1 _ => ?_
  simp only [vP.down, vS.down, vE.down, qA, qB, qC, qD, qE, qF, qG, reduceIte, reduceCtorEq, qH, qI, qJ, ↓avp_condG, ↓tf_arrow, ↓ft_arrow, k_span_Of_slices_Compact___int_int_.down, m_slices_Compact___int_int_]
  refine comp_pv cpL_len h1 (by rw [sortL_len]; omega) fun v1 S2 h2 _ => ?_
  obtain ⟨e, he⟩ : ∃ e, e = cpL (sortL l) := ⟨_, rfl⟩
  have hel := cpL_len (sortL l)
  rw [sortL_len, ← he] at hel
  rw [← he] at h2
  have hlen : lenB K_span_Of 58 v1 = .val True (.t (.int .i64 (e.length : Int))) := h2.len ty_Lint
  simp only [vP.down, vS.down, vE.down, qA, qB, qC, qD, qE, qF, qG, reduceIte, reduceCtorEq, qH, qI, qJ, ↓avp_condG, ↓tf_arrow, ↓ft_arrow, hlen]
  refine loop_weak hm_span_Of (fun k σ => ∃ (i : Nat) (v : AV) (S : Store), k = e.length - i ∧ i ≤ e.length ∧ ((e.take i).foldl ofStep []).length ≤ i ∧ OW S v ((e.take i).foldl ofStep []) ∧
      σ = mkS [(3, v), (11, .t (sl e)), (12, .t (.int .i64 (e.length : Nat))), (13, .t (.int .i64 (i : Nat)))] S)
    ⟨0, .t .nilS, .empty, rfl, by omega, by simp, .inl ⟨rfl, rfl⟩, rfl⟩ (wk_to fewer_empty (by
      simp only [vP.down, vS.down, vE.down, qA, qB, qC, qD, qE, qF, qG, reduceIte, reduceCtorEq, qH, qI, qJ, ↓avp_condG, ↓tf_arrow, ↓ft_arrow, wP.down, Int.natCast_zero]
      exact h2.w2)) ?_
  clear h2 h1 hv0
  rintro k _ ⟨i, v, S, rfl, hi, ho, hv, rfl⟩
  have hi1 : IntKind.i64.wrap ((i : Int) + 1) = ((i + 1 : Nat) : Int) := by rw [IntWalk.i64_in _ (by omega)]; rfl
  by_cases hlt : i < e.length
  case neg =>
    obtain rfl : i = e.length := by omega
    have hge : ¬ ((e.length : Int) < (e.length : Int)) := by omega
    rw [List.take_length] at hv
    simp only [vP.down, vS.down, vE.down, qA, qB, qC, qD, qE, qF, qG, reduceIte, reduceCtorEq, qH, qI, qJ, ↓avp_condG, ↓tf_arrow, ↓ft_arrow, hge]
    simp only [vP.down, vS.down, vE.down, qA, qB, qC, qD, qE, qF, qG, reduceIte, reduceCtorEq, qH, qI, qJ, ↓avp_condG, ↓tf_arrow, ↓ft_arrow, vT.down]
    rw [ofL, ← he]
    exact hv.lv.frz
  have hlt' : (i : Int) < (e.length : Int) := by omega
  have hix := idx_at (C := K_span_Of) (l := e) ty_Lint ty_int rfl hlt .i64
  have hn := fold_next (f := ofStep) (b := []) hlt
  obtain ⟨a, ha⟩ : ∃ a, a = e.getD i default := ⟨_, rfl⟩
  rw [← ha] at hix hn
  obtain ⟨o, hO⟩ : ∃ o, o = (e.take i).foldl ofStep [] := ⟨_, rfl⟩
  rw [← hO] at hn hv ho
  have hsl := ofStep_len (o := o) (a := a)
  by_cases c1 : 0 ≤ a
  case neg =>
    have hs : ofStep o a = o := if_neg (fun h => c1 h.1)
    rw [hs] at hn
    simp only [vP.down, vS.down, vE.down, qA, qB, qC, qD, qE, qF, qG, reduceIte, reduceCtorEq, qH, qI, qJ, ↓avp_condG, ↓tf_arrow, ↓ft_arrow, hlt', hix, c1, ge_iff_le, pick_of, pick_ot, false_implies]
    exact round_to (e.length - (i + 1)) [(3, v), (11, .t (sl e)), (12, .t (.int .i64 (e.length : Nat))), (13, .t (.int .i64 (i + 1 : Nat)))] S (by omega) fewer_refl (by simp only [vP.down, vS.down, vE.down, qA, qB, qC, qD, qE, qF, qG, reduceIte, reduceCtorEq, qH, qI, qJ, ↓avp_condG, ↓tf_arrow, ↓ft_arrow, wP.down, hi1]) ⟨i + 1, v, S, rfl, by omega, by rw [hn]; omega, by rw [hn]; exact hv, rfl⟩
  by_cases c2 : a < 1073741824
  case neg =>
    have hs : ofStep o a = o := if_neg (fun h => c2 h.2)
    rw [hs] at hn
    simp only [vP.down, vS.down, vE.down, qA, qB, qC, qD, qE, qF, qG, reduceIte, reduceCtorEq, qH, qI, qJ, ↓avp_condG, ↓tf_arrow, ↓ft_arrow, hlt', hix, c1, c2, ge_iff_le, pick_of, pick_ot, false_implies]
    exact round_to (e.length - (i + 1)) [(3, v), (11, .t (sl e)), (12, .t (.int .i64 (e.length : Nat))), (13, .t (.int .i64 (i + 1 : Nat)))] S (by omega) fewer_refl (by simp only [vP.down, vS.down, vE.down, qA, qB, qC, qD, qE, qF, qG, reduceIte, reduceCtorEq, qH, qI, qJ, ↓avp_condG, ↓tf_arrow, ↓ft_arrow, wP.down, hi1]) ⟨i + 1, v, S, rfl, by omega, by rw [hn]; omega, by rw [hn]; exact hv, rfl⟩
  have hs : ofStep o a = behindL o ⟨a, a + 1⟩ := if_pos ⟨c1, c2⟩
  rw [hs] at hn hsl
  have hw : IntKind.i64.wrap (a + 1) = a + 1 := IntWalk.i64_in _ (by omega)
  simp only [vP.down, vS.down, vE.down, qA, qB, qC, qD, qE, qF, qG, reduceIte, reduceCtorEq, qH, qI, qJ, ↓avp_condG, ↓tf_arrow, ↓ft_arrow, hlt', hix, c1, c2, hw, ge_iff_le, pick_of, pick_ot, false_implies, k_span_Of_span_behind.down, m_span_behind]
  refine ⟨v, o, ⟨a, a + 1⟩, rfl, hv, by omega, fun v' S' hv' _ => ?_⟩
  exact round_to (e.length - (i + 1)) [(3, v'), (11, .t (sl e)), (12, .t (.int .i64 (e.length : Nat))), (13, .t (.int .i64 (i + 1 : Nat)))] S' (by omega) fewer_refl (by simp only [vP.down, vS.down, vE.down, qA, qB, qC, qD, qE, qF, qG, reduceIte, reduceCtorEq, qH, qI, qJ, ↓avp_condG, ↓tf_arrow, ↓ft_arrow, wP.down, hi1]) ⟨i + 1, v', S', rfl, by omega, by rw [hn]; omega, by rw [hn]; exact hv', rfl⟩
noncomputable def c_span_Of : Con := fnCon A_span_Of p_span_Of r_span_Of
theorem ok_span_Of : COk Try.prog 77 c_span_Of := fn_ok sys_span_Of mixed Try.func77 (by kernel_rfl) geq_span_Of Try.ntmps77 (by rw [Try.results77]) fun x hx => ⟨Nat.le_of_ble_eq_true rfl, body_span_Of x hx⟩
end Go.Proofs.Ytofcmdkmhbbbjaa
namespace Go.Eng
end Go.Eng
namespace Go.Proofs.Ytofcmdkmhbbbjaa
open Go Go.Eng
set_option maxRecDepth 100000
end Go.Proofs.Ytofcmdkmhbbbjaa
namespace Go.Proofs.Ytofcmdkmhbbbjaa
open Go Go.Eng
set_option maxRecDepth 100000
end Go.Proofs.Ytofcmdkmhbbbjaa
namespace Go.Proofs.Ytofcmdkmhbbbjaa
open Go Go.Eng
set_option maxRecDepth 100000
def hop (h : Int) (a b : Bool) : Bool := if h = 0 then a || b else if h = 1 then a && !b else a && b
end Go.Proofs.Ytofcmdkmhbbbjaa
