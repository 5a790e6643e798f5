/-
  Sums, differences, what is in both; may there be such runs; how many sectors; alike.
-/
import Derived.Test.YtofcmdkmhbbbjaaFnsA
set_option linter.unusedSimpArgs false
set_option linter.unusedVariables false
open Nat renaming reduceEqDiff → qA, reduceAdd → qB, reduceSub → qC, reduceMul → qD, reduceLeDiff → qE, reduceLT → qF
open Int renaming reduceToNat → qG, reduceEq → qH, reduceLT → qI, reduceLE → qJ
namespace Go.Proofs.Ytofcmdkmhbbbjaa
open Go Go.Eng
set_option maxRecDepth 100000
def G_span_Add : GCode := .seq (.region [⟨(some 4), none, .assign (.const (.slice none 0 0))⟩]) (.seq (.region [⟨(some 5), none, .move (.tmp 0)⟩, ⟨(some 6), none, .move (.tmp 1)⟩, ⟨(some 7), none, .build 128 #[(0, .tmp 5), (1, .tmp 6)]⟩, ⟨(some 8), none, .call ⟨.value (.func 85), #[.tmp 7, .func 97], #[128, 130]⟩⟩, ⟨(some 4), none, .assign (.tmp 8)⟩]) (.ret))
noncomputable def l_span_Add : List (Nat × Con) := [(85, c_span_rows_where)]
noncomputable abbrev K_span_Add : Ctx := ctx (cl l_span_Add)
theorem geq_span_Add : gof K_span_Add Try.f84 = some G_span_Add.strip := by kernel_rfl
theorem sys_span_Add : Go.Eng.Sys Try.prog K_span_Add := sys_of' ⟨ok_span_rows_where, trivial⟩
noncomputable def k_span_Add_span_rows_where := PLift.up (call_fn (C := K_span_Add) (f := 85) (A := A_span_rows_where) (p := p_span_rows_where) (r := r_span_rows_where) rfl)
def A_span_Add := Arms.cons (argT (List TRun)) (Arms.cons (argT (List TRun)) Arms.nil)
def p_span_Add (x : List TRun × List TRun × Unit) : Prop := x.1.length + x.2.1.length ≤ 1099511627
def r_span_Add (x : List TRun × List TRun × Unit) : AV := .t (sl (whereL .add x.1 x.2.1))
theorem body_span_Add (x : List TRun × List TRun × Unit) (hp : p_span_Add x) : avp K_span_Add G_span_Add (Ret K_span_Add [.tmp 4] fun v s' => Frz s' v (r_span_Add x)) (entry (A_span_Add.enc x) .empty) := by
  obtain ⟨l, m, ⟨⟩⟩ := x
  change l.length + m.length ≤ 1099511627 at hp
  change avp _ _ (Ret _ _ fun v s' => Frz1 s' v (sl (whereL .add l m))) (entry [.t (sl l), .t (sl m)] .empty)
  unfold G_span_Add
  have hd : (argA Trows).dec (.agg [.t (sl l), .t (sl m)]) = some ⟨l, m⟩ := Cell.dec_enc (⟨l, m⟩ : Trows)
  have hh : argH.dec (.fn 97 []) = some .add := rfl
  have ho : okH .add = True := rfl
  simp only [vP.down, vS.down, vE.down, qA, qB, qC, qD, qE, qF, qG, reduceIte, reduceCtorEq, qH, qI, qJ, ↓avp_condG, ↓tf_arrow, ↓ft_arrow, hd, hh, ho, hp, k_span_Add_span_rows_where.down, A_span_rows_where, p_span_rows_where, r_span_rows_where]
  simp only [vP.down, vS.down, vE.down, qA, qB, qC, qD, qE, qF, qG, reduceIte, reduceCtorEq, qH, qI, qJ, ↓avp_condG, ↓tf_arrow, ↓ft_arrow, vT.down]
noncomputable def c_span_Add : Con := fnCon A_span_Add p_span_Add r_span_Add
theorem ok_span_Add : COk Try.prog 84 c_span_Add := fn_ok sys_span_Add mixed Try.func84 (by kernel_rfl) geq_span_Add Try.ntmps84 (by rw [Try.results84]) fun x hx => ⟨Nat.le_of_ble_eq_true rfl, body_span_Add x hx⟩
def G_span_Less : GCode := .seq (.region [⟨(some 4), none, .assign (.const (.slice none 0 0))⟩]) (.seq (.region [⟨(some 5), none, .move (.tmp 0)⟩, ⟨(some 6), none, .move (.tmp 1)⟩, ⟨(some 7), none, .build 128 #[(0, .tmp 5), (1, .tmp 6)]⟩, ⟨(some 8), none, .call ⟨.value (.func 85), #[.tmp 7, .func 86], #[128, 130]⟩⟩, ⟨(some 4), none, .assign (.tmp 8)⟩]) (.ret))
noncomputable def l_span_Less : List (Nat × Con) := [(85, c_span_rows_where)]
noncomputable abbrev K_span_Less : Ctx := ctx (cl l_span_Less)
theorem geq_span_Less : gof K_span_Less Try.f71 = some G_span_Less.strip := by kernel_rfl
theorem sys_span_Less : Go.Eng.Sys Try.prog K_span_Less := sys_of' ⟨ok_span_rows_where, trivial⟩
noncomputable def k_span_Less_span_rows_where := PLift.up (call_fn (C := K_span_Less) (f := 85) (A := A_span_rows_where) (p := p_span_rows_where) (r := r_span_rows_where) rfl)
def A_span_Less := Arms.cons (argT (List TRun)) (Arms.cons (argT (List TRun)) Arms.nil)
def p_span_Less (x : List TRun × List TRun × Unit) : Prop := x.1.length + x.2.1.length ≤ 1099511627
def r_span_Less (x : List TRun × List TRun × Unit) : AV := .t (sl (whereL .less x.1 x.2.1))
theorem body_span_Less (x : List TRun × List TRun × Unit) (hp : p_span_Less x) : avp K_span_Less G_span_Less (Ret K_span_Less [.tmp 4] fun v s' => Frz s' v (r_span_Less x)) (entry (A_span_Less.enc x) .empty) := by
  obtain ⟨l, m, ⟨⟩⟩ := x
  change l.length + m.length ≤ 1099511627 at hp
  change avp _ _ (Ret _ _ fun v s' => Frz1 s' v (sl (whereL .less l m))) (entry [.t (sl l), .t (sl m)] .empty)
  unfold G_span_Less
  have hd : (argA Trows).dec (.agg [.t (sl l), .t (sl m)]) = some ⟨l, m⟩ := Cell.dec_enc (⟨l, m⟩ : Trows)
  have hh : argH.dec (.fn 86 []) = some .less := rfl
  have ho : okH .less = True := rfl
  simp only [vP.down, vS.down, vE.down, qA, qB, qC, qD, qE, qF, qG, reduceIte, reduceCtorEq, qH, qI, qJ, ↓avp_condG, ↓tf_arrow, ↓ft_arrow, hd, hh, ho, hp, k_span_Less_span_rows_where.down, A_span_rows_where, p_span_rows_where, r_span_rows_where]
  simp only [vP.down, vS.down, vE.down, qA, qB, qC, qD, qE, qF, qG, reduceIte, reduceCtorEq, qH, qI, qJ, ↓avp_condG, ↓tf_arrow, ↓ft_arrow, vT.down]
noncomputable def c_span_Less : Con := fnCon A_span_Less p_span_Less r_span_Less
theorem ok_span_Less : COk Try.prog 71 c_span_Less := fn_ok sys_span_Less mixed Try.func71 (by kernel_rfl) geq_span_Less Try.ntmps71 (by rw [Try.results71]) fun x hx => ⟨Nat.le_of_ble_eq_true rfl, body_span_Less x hx⟩
def G_span_Both : GCode := .seq (.region [⟨(some 4), none, .assign (.const (.slice none 0 0))⟩]) (.seq (.region [⟨(some 5), none, .move (.tmp 0)⟩, ⟨(some 6), none, .move (.tmp 1)⟩, ⟨(some 7), none, .build 128 #[(0, .tmp 5), (1, .tmp 6)]⟩, ⟨(some 8), none, .call ⟨.value (.func 85), #[.tmp 7, .func 96], #[128, 130]⟩⟩, ⟨(some 4), none, .assign (.tmp 8)⟩]) (.ret))
noncomputable def l_span_Both : List (Nat × Con) := [(85, c_span_rows_where)]
noncomputable abbrev K_span_Both : Ctx := ctx (cl l_span_Both)
theorem geq_span_Both : gof K_span_Both Try.f83 = some G_span_Both.strip := by kernel_rfl
theorem sys_span_Both : Go.Eng.Sys Try.prog K_span_Both := sys_of' ⟨ok_span_rows_where, trivial⟩
noncomputable def k_span_Both_span_rows_where := PLift.up (call_fn (C := K_span_Both) (f := 85) (A := A_span_rows_where) (p := p_span_rows_where) (r := r_span_rows_where) rfl)
def A_span_Both := Arms.cons (argT (List TRun)) (Arms.cons (argT (List TRun)) Arms.nil)
def p_span_Both (x : List TRun × List TRun × Unit) : Prop := x.1.length + x.2.1.length ≤ 1099511627
def r_span_Both (x : List TRun × List TRun × Unit) : AV := .t (sl (whereL .both x.1 x.2.1))
theorem body_span_Both (x : List TRun × List TRun × Unit) (hp : p_span_Both x) : avp K_span_Both G_span_Both (Ret K_span_Both [.tmp 4] fun v s' => Frz s' v (r_span_Both x)) (entry (A_span_Both.enc x) .empty) := by
  obtain ⟨l, m, ⟨⟩⟩ := x
  change l.length + m.length ≤ 1099511627 at hp
  change avp _ _ (Ret _ _ fun v s' => Frz1 s' v (sl (whereL .both l m))) (entry [.t (sl l), .t (sl m)] .empty)
  unfold G_span_Both
  have hd : (argA Trows).dec (.agg [.t (sl l), .t (sl m)]) = some ⟨l, m⟩ := Cell.dec_enc (⟨l, m⟩ : Trows)
  have hh : argH.dec (.fn 96 []) = some .both := rfl
  have ho : okH .both = True := rfl
  simp only [vP.down, vS.down, vE.down, qA, qB, qC, qD, qE, qF, qG, reduceIte, reduceCtorEq, qH, qI, qJ, ↓avp_condG, ↓tf_arrow, ↓ft_arrow, hd, hh, ho, hp, k_span_Both_span_rows_where.down, A_span_rows_where, p_span_rows_where, r_span_rows_where]
  simp only [vP.down, vS.down, vE.down, qA, qB, qC, qD, qE, qF, qG, reduceIte, reduceCtorEq, qH, qI, qJ, ↓avp_condG, ↓tf_arrow, ↓ft_arrow, vT.down]
noncomputable def c_span_Both : Con := fnCon A_span_Both p_span_Both r_span_Both
theorem ok_span_Both : COk Try.prog 83 c_span_Both := fn_ok sys_span_Both mixed Try.func83 (by kernel_rfl) geq_span_Both Try.ntmps83 (by rw [Try.results83]) fun x hx => ⟨Nat.le_of_ble_eq_true rfl, body_span_Both x hx⟩
def mayR : Int → List TRun → Bool
  | _, [] => true
  | a, r :: t => decide (a < r.From) && decide (r.From < r.To) && decide (r.To ≤ 1073741824) && mayR r.To t
theorem mayR_step {a : Int} {l : List TRun} {i : Nat} (h : i < l.length) : mayR a (l.drop i) = (decide (a < (l.getD i default).From) && decide ((l.getD i default).From < (l.getD i default).To) && decide ((l.getD i default).To ≤ 1073741824) && mayR (l.getD i default).To (l.drop (i + 1))) := by
  rw [List.drop_eq_getElem_cons h, mayR, List.getD_eq_getElem?_getD, List.getElem?_eq_getElem h, Option.getD_some]
def G_span_May : GCode := .seq (.region [⟨(some 2), none, .assign (.const (.bool false))⟩]) (.seq (.region [⟨(some 3), none, .assign (.const (.int .i64 (-1)))⟩]) (.seq (.seq (.region [⟨(some 6), none, .move (.tmp 0)⟩, ⟨(some 7), none, .call ⟨.builtin .len, #[.tmp 6], #[52]⟩⟩, ⟨(some 8), none, .move (.const (.int .i64 0))⟩]) (.block 0 (.loop (.seq .weak (.seq (.region [⟨(some 9), none, .binOp .lss 3 (.tmp 8) (.tmp 7) 3⟩]) (.seq (.cond (.tmp 9) (.skip) (.exit 0)) (.seq (.block 1 (.seq (.region [⟨(some 10), none, .indexAddr 52 (.tmp 6) (.tmp 8)⟩, ⟨(some 11), none, .load 69 (.tmp 10)⟩, ⟨(some 5), none, .alloc 69⟩, ⟨none, none, .store 69 (.tmp 5) (.tmp 11)⟩]) (.seq (.seq (.seq .weak (.region [⟨(some 12), none, .fieldAddr 69 (.tmp 5) 0⟩, ⟨(some 13), none, .load 3 (.tmp 12)⟩, ⟨(some 14), none, .move (.tmp 3)⟩, ⟨(some 15), none, .binOp .leq 3 (.tmp 13) (.tmp 14) 3⟩, ⟨(some 16), none, .move (.tmp 15)⟩, ⟨(some 17), (some (16, false)), .fieldAddr 69 (.tmp 5) 0⟩, ⟨(some 18), (some (16, false)), .load 3 (.tmp 17)⟩, ⟨(some 19), (some (16, false)), .fieldAddr 69 (.tmp 5) 1⟩, ⟨(some 20), (some (16, false)), .load 3 (.tmp 19)⟩, ⟨(some 21), (some (16, false)), .binOp .geq 3 (.tmp 18) (.tmp 20) 3⟩, ⟨(some 22), none, .pick (.tmp 16) (.const (.bool true)) (.tmp 21)⟩, ⟨(some 23), none, .move (.tmp 22)⟩, ⟨(some 24), (some (23, false)), .fieldAddr 69 (.tmp 5) 1⟩, ⟨(some 25), (some (23, false)), .load 3 (.tmp 24)⟩, ⟨(some 26), (some (23, false)), .binOp .gtr 3 (.tmp 25) (.const (.int .i64 1073741824)) 3⟩, ⟨(some 27), none, .pick (.tmp 23) (.const (.bool true)) (.tmp 26)⟩])) (.cond (.tmp 27) (.seq (.region [⟨(some 2), none, .assign (.const (.bool false))⟩]) (.ret)) (.skip))) (.region [⟨(some 28), none, .fieldAddr 69 (.tmp 5) 1⟩, ⟨(some 29), none, .load 3 (.tmp 28)⟩, ⟨(some 3), none, .assign (.tmp 29)⟩])))) (.region [⟨(some 30), none, .binOp .add 3 (.tmp 8) (.const (.int .i64 1)) 3⟩, ⟨(some 8), none, .move (.tmp 30)⟩])))))))) (.seq (.region [⟨(some 2), none, .assign (.const (.bool true))⟩]) (.ret))))
noncomputable def l_span_May : List (Nat × Con) := []
noncomputable abbrev K_span_May : Ctx := ctx (cl l_span_May)
theorem geq_span_May : gof K_span_May Try.f70 = some G_span_May.strip := by kernel_rfl
theorem sys_span_May : Go.Eng.Sys Try.prog K_span_May := sys_of' (l := []) trivial
theorem hm_span_May : ConMono K_span_May := conMono_of sys_span_May.con
def A_span_May := Arms.cons (argT (List TRun)) Arms.nil
def p_span_May (x : List TRun × Unit) : Prop := x.1.length < 4611686018427387904
def r_span_May (x : List TRun × Unit) : AV := .t (.bool (mayR (-1) x.1))
theorem body_span_May (x : List TRun × Unit) (hp : p_span_May x) : avp K_span_May G_span_May (Ret K_span_May [.tmp 2] fun v _ => v = r_span_May x) (entry (A_span_May.enc x) .empty) := by
  obtain ⟨l, ⟨⟩⟩ := x
  change l.length < 4611686018427387904 at hp
  change avp _ _ (Ret _ _ fun v _ => v = .t (.bool (mayR (-1) l))) (entry [.t (sl l)] .empty)
  unfold G_span_May
  simp only [vP.down, vS.down, vE.down, qA, qB, qC, qD, qE, qF, qG, reduceIte, reduceCtorEq, qH, qI, qJ, ↓avp_condG, ↓tf_arrow, ↓ft_arrow]
  refine loop_weak hm_span_May (fun k σ => ∃ (i : Nat) (a : Int), k = l.length - i ∧ i ≤ l.length ∧ mayR (-1) l = mayR a (l.drop i) ∧ σ = mkS [(3, .t (.int .i64 a)), (6, .t (sl l)), (7, .t (.int .i64 (l.length : Nat))), (8, .t (.int .i64 (i : Nat)))] .empty) ⟨0, -1, rfl, by omega, rfl, rfl⟩ (wk_to fewer_refl (by simp only [vP.down, vS.down, vE.down, qA, qB, qC, qD, qE, qF, qG, reduceIte, reduceCtorEq, qH, qI, qJ, ↓avp_condG, ↓tf_arrow, ↓ft_arrow, wP.down, Int.natCast_zero])) ?_
  rintro k _ ⟨i, a, rfl, hi, ht, rfl⟩
  have hi1 : IntKind.i64.wrap ((i : Int) + 1) = ((i + 1 : Nat) : Int) := by rw [IntWalk.i64_in _ (by omega)]; rfl
  by_cases hlt : i < l.length
  case neg =>
    obtain rfl : i = l.length := by omega
    have hge : ¬ ((l.length : Int) < (l.length : Int)) := by omega
    rw [List.drop_length, mayR] at ht
    simp only [vP.down, vS.down, vE.down, qA, qB, qC, qD, qE, qF, qG, reduceIte, reduceCtorEq, qH, qI, qJ, ↓avp_condG, ↓tf_arrow, ↓ft_arrow, hge]
    simp only [vP.down, vS.down, vE.down, qA, qB, qC, qD, qE, qF, qG, reduceIte, reduceCtorEq, qH, qI, qJ, ↓avp_condG, ↓tf_arrow, ↓ft_arrow, vT.down, ht]
  have hlt' : (i : Int) < (l.length : Int) := by omega
  have hix := idx_at (C := K_span_May) (l := l) ty_Lapi_Run ty_api_Run rfl hlt .i64
  rw [mayR_step hlt] at ht
  obtain ⟨r, hr⟩ : ∃ r, r = l.getD i default := ⟨_, rfl⟩
  rw [← hr] at hix ht
  simp only [vP.down, vS.down, vE.down, qA, qB, qC, qD, qE, qF, qG, reduceIte, reduceCtorEq, qH, qI, qJ, ↓avp_condG, ↓tf_arrow, ↓ft_arrow, hlt', hix]
  intro g hg
  refine weak_at [(3, .t (.int .i64 a)), (5, .imm [.int .i64 r.From, .int .i64 r.To]), (6, .t (sl l)), (7, .t (.int .i64 (l.length : Nat))), (8, .t (.int .i64 (i : Nat)))] .empty fewer_empty (by simp only [vP.down, vS.down, vE.down, qA, qB, qC, qD, qE, qF, qG, reduceIte, reduceCtorEq, qH, qI, qJ, ↓avp_condG, ↓tf_arrow, ↓ft_arrow, wP.down]; exact w2_imm (l := [.int .i64 r.From, .int .i64 r.To]) (ro := false) (Store.set_same _ _ _) rfl) ?_
  by_cases c1 : r.From ≤ a
  · have hn : ¬ a < r.From := by omega
    simp only [vP.down, vS.down, vE.down, qA, qB, qC, qD, qE, qF, qG, reduceIte, reduceCtorEq, qH, qI, qJ, ↓avp_condG, ↓tf_arrow, ↓ft_arrow, c1, pick_of, pick_ot, false_implies]
    simp only [vP.down, vS.down, vE.down, qA, qB, qC, qD, qE, qF, qG, reduceIte, reduceCtorEq, qH, qI, qJ, ↓avp_condG, ↓tf_arrow, ↓ft_arrow, vT.down, ht, hn]
  have hn : a < r.From := by omega
  by_cases c2 : r.To ≤ r.From
  · have hn2 : ¬ r.From < r.To := by omega
    simp only [vP.down, vS.down, vE.down, qA, qB, qC, qD, qE, qF, qG, reduceIte, reduceCtorEq, qH, qI, qJ, ↓avp_condG, ↓tf_arrow, ↓ft_arrow, c1, c2, ge_iff_le, pick_of, pick_ot, false_implies]
    simp only [vP.down, vS.down, vE.down, qA, qB, qC, qD, qE, qF, qG, reduceIte, reduceCtorEq, qH, qI, qJ, ↓avp_condG, ↓tf_arrow, ↓ft_arrow, vT.down, ht, hn2]
  have hn2 : r.From < r.To := by omega
  by_cases c3 : 1073741824 < r.To
  · have hn3 : ¬ r.To ≤ 1073741824 := by omega
    simp only [vP.down, vS.down, vE.down, qA, qB, qC, qD, qE, qF, qG, reduceIte, reduceCtorEq, qH, qI, qJ, ↓avp_condG, ↓tf_arrow, ↓ft_arrow, c1, c2, c3, ge_iff_le, gt_iff_lt, pick_of, pick_ot, false_implies]
    simp only [vP.down, vS.down, vE.down, qA, qB, qC, qD, qE, qF, qG, reduceIte, reduceCtorEq, qH, qI, qJ, ↓avp_condG, ↓tf_arrow, ↓ft_arrow, vT.down, ht, hn3]
  have hn3 : r.To ≤ 1073741824 := by omega
  simp only [hn, hn2, hn3, decide_true, Bool.true_and] at ht
  simp only [vP.down, vS.down, vE.down, qA, qB, qC, qD, qE, qF, qG, reduceIte, reduceCtorEq, qH, qI, qJ, ↓avp_condG, ↓tf_arrow, ↓ft_arrow, c1, c2, c3, ge_iff_le, gt_iff_lt, pick_of, pick_ot, false_implies]
  exact round_to (l.length - (i + 1)) [(3, .t (.int .i64 r.To)), (6, .t (sl l)), (7, .t (.int .i64 (l.length : Nat))), (8, .t (.int .i64 (i + 1 : Nat)))] .empty (by omega) fewer_refl (by simp only [vP.down, vS.down, vE.down, qA, qB, qC, qD, qE, qF, qG, reduceIte, reduceCtorEq, qH, qI, qJ, ↓avp_condG, ↓tf_arrow, ↓ft_arrow, wP.down, hi1]) ⟨i + 1, r.To, rfl, by omega, ht, rfl⟩
noncomputable def c_span_May : Con := fnScal A_span_May p_span_May r_span_May
theorem ok_span_May : COk Try.prog 70 c_span_May := fn_sok sys_span_May mixed Try.func70 (by kernel_rfl) geq_span_May Try.ntmps70 (by rw [Try.results70]) (fun x => by unfold r_span_May; simp [AV.scal]) fun x hx => ⟨Nat.le_of_ble_eq_true rfl, body_span_May x hx⟩
theorem live_fi {C : Ctx} {s : Store} {T T' : TypeId} {n : Nat} {l : List TRun} {i : AV} : liveL s ((fieldAddrB C T ((idxB C T' (.t (sl l)) i).av []) n).av []) = True := by
  have key : ∀ v : AV, (v = .unk ∨ ∃ c, v = .imm c) → liveL s ((fieldAddrB C T v n).av []) = True := fun v hv => by
    have : (fieldAddrB C T v n).av [] = .unk ∨ ∃ c, (fieldAddrB C T v n).av [] = .imm c := by
      unfold fieldAddrB
      cases C.ty T with
      | none => exact .inl rfl
      | some d =>
        dsimp only
        cases d.sh with
        | struct fs =>
          dsimp only
          cases fs[n]? with
          | none => exact .inl rfl
          | some p =>
            dsimp only
            cases C.ty p.1 with
            | none => exact .inl rfl
            | some dt =>
              rcases hv with rfl | ⟨c, rfl⟩
              · exact .inl rfl
              · exact .inr ⟨_, rfl⟩
        | _ => exact .inl rfl
    rcases this with h | ⟨c, h⟩ <;> rw [h] <;> rfl
  apply key
  unfold idxB
  split
  · split
    · exact .inr ⟨_, rfl⟩
    all_goals first
      | (rename_i h; cases h; done)
      | exact .inl rfl
      | (split <;> first | exact .inl rfl | (rename_i h _ _; cases h; done))
  · exact .inl rfl
def G_ref8_MayRuns : GCode := .seq (.region [⟨(some 2), none, .assign (.const (.bool false))⟩]) (.seq (.seq (.region [⟨(some 3), none, .assign (.const (.int .i64 0))⟩]) (.block 0 (.loop (.seq .weak (.seq (.seq (.region [⟨(some 4), none, .move (.tmp 3)⟩, ⟨(some 5), none, .move (.tmp 0)⟩, ⟨(some 6), none, .call ⟨.builtin .len, #[.tmp 5], #[52]⟩⟩, ⟨(some 7), none, .binOp .lss 3 (.tmp 4) (.tmp 6) 3⟩]) (.cond (.tmp 7) (.skip) (.exit 0))) (.seq (.block 1 (.seq (.region [⟨(some 10), none, .move (.tmp 0)⟩, ⟨(some 11), none, .move (.tmp 3)⟩, ⟨(some 12), none, .indexAddr 52 (.tmp 10) (.tmp 11)⟩, ⟨(some 13), none, .fieldAddr 69 (.tmp 12) 0⟩, ⟨(some 14), none, .load 3 (.tmp 13)⟩, ⟨(some 15), none, .binOp .lss 3 (.tmp 14) (.const (.int .i64 0)) 3⟩, ⟨(some 16), none, .move (.tmp 15)⟩, ⟨(some 17), (some (16, false)), .move (.tmp 0)⟩, ⟨(some 18), (some (16, false)), .move (.tmp 3)⟩, ⟨(some 19), (some (16, false)), .indexAddr 52 (.tmp 17) (.tmp 18)⟩, ⟨(some 20), (some (16, false)), .fieldAddr 69 (.tmp 19) 1⟩, ⟨(some 21), (some (16, false)), .load 3 (.tmp 20)⟩, ⟨(some 22), (some (16, false)), .move (.tmp 0)⟩, ⟨(some 23), (some (16, false)), .move (.tmp 3)⟩, ⟨(some 24), (some (16, false)), .indexAddr 52 (.tmp 22) (.tmp 23)⟩, ⟨(some 25), (some (16, false)), .fieldAddr 69 (.tmp 24) 0⟩, ⟨(some 26), (some (16, false)), .load 3 (.tmp 25)⟩, ⟨(some 27), (some (16, false)), .binOp .leq 3 (.tmp 21) (.tmp 26) 3⟩, ⟨(some 28), none, .pick (.tmp 16) (.const (.bool true)) (.tmp 27)⟩, ⟨(some 29), none, .move (.tmp 28)⟩, ⟨(some 30), (some (29, false)), .move (.tmp 0)⟩, ⟨(some 31), (some (29, false)), .move (.tmp 3)⟩, ⟨(some 32), (some (29, false)), .indexAddr 52 (.tmp 30) (.tmp 31)⟩, ⟨(some 33), (some (29, false)), .fieldAddr 69 (.tmp 32) 1⟩, ⟨(some 34), (some (29, false)), .load 3 (.tmp 33)⟩, ⟨(some 35), (some (29, false)), .binOp .gtr 3 (.tmp 34) (.const (.int .i64 1073741824)) 3⟩, ⟨(some 36), none, .pick (.tmp 29) (.const (.bool true)) (.tmp 35)⟩, ⟨(some 37), none, .move (.tmp 36)⟩, ⟨(some 38), (some (37, false)), .move (.tmp 3)⟩, ⟨(some 39), (some (37, false)), .binOp .gtr 3 (.tmp 38) (.const (.int .i64 0)) 3⟩, ⟨(some 40), (some (37, false)), .move (.tmp 39)⟩, ⟨(some 41), (some (40, true)), .move (.tmp 0)⟩, ⟨(some 42), (some (40, true)), .move (.tmp 3)⟩, ⟨(some 43), (some (40, true)), .indexAddr 52 (.tmp 41) (.tmp 42)⟩, ⟨(some 44), (some (40, true)), .fieldAddr 69 (.tmp 43) 0⟩, ⟨(some 45), (some (40, true)), .load 3 (.tmp 44)⟩, ⟨(some 46), (some (40, true)), .move (.tmp 0)⟩, ⟨(some 47), (some (40, true)), .move (.tmp 3)⟩, ⟨(some 48), (some (40, true)), .binOp .sub 3 (.tmp 47) (.const (.int .i64 1)) 3⟩, ⟨(some 49), (some (40, true)), .indexAddr 52 (.tmp 46) (.tmp 48)⟩, ⟨(some 50), (some (40, true)), .fieldAddr 69 (.tmp 49) 1⟩, ⟨(some 51), (some (40, true)), .load 3 (.tmp 50)⟩, ⟨(some 52), (some (40, true)), .binOp .leq 3 (.tmp 45) (.tmp 51) 3⟩, ⟨(some 53), (some (37, false)), .pick (.tmp 40) (.tmp 52) (.const (.bool false))⟩, ⟨(some 54), none, .pick (.tmp 37) (.const (.bool true)) (.tmp 53)⟩]) (.cond (.tmp 54) (.seq (.region [⟨(some 2), none, .assign (.const (.bool false))⟩]) (.ret)) (.skip)))) (.region [⟨(some 8), none, .move (.tmp 3)⟩, ⟨(some 9), none, .binOp .add 3 (.tmp 8) (.const (.int .i64 1)) 3⟩, ⟨(some 3), none, .assign (.tmp 9)⟩]))))))) (.seq (.region [⟨(some 2), none, .assign (.const (.bool true))⟩]) (.ret)))
noncomputable def l_ref8_MayRuns : List (Nat × Con) := []
noncomputable abbrev K_ref8_MayRuns : Ctx := ctx (cl l_ref8_MayRuns)
theorem geq_ref8_MayRuns : gof K_ref8_MayRuns Try.f90 = some G_ref8_MayRuns.strip := by kernel_rfl
theorem sys_ref8_MayRuns : Go.Eng.Sys Try.prog K_ref8_MayRuns := sys_of' (l := []) trivial
theorem hm_ref8_MayRuns : ConMono K_ref8_MayRuns := conMono_of sys_ref8_MayRuns.con
def A_ref8_MayRuns := Arms.cons (argT (List TRun)) Arms.nil
def p_ref8_MayRuns (x : List TRun × Unit) : Prop := x.1.length < 4611686018427387904
def r_ref8_MayRuns (x : List TRun × Unit) : AV := .t (.bool (mayR (-1) x.1))
set_option maxRecDepth 100000 in
set_option maxHeartbeats 4000000 in
theorem body_ref8_MayRuns (x : List TRun × Unit) (hp : p_ref8_MayRuns x) : avp K_ref8_MayRuns G_ref8_MayRuns (Ret K_ref8_MayRuns [.tmp 2] fun v _ => v = r_ref8_MayRuns x) (entry (A_ref8_MayRuns.enc x) .empty) := by
  obtain ⟨l, ⟨⟩⟩ := x
  change l.length < 4611686018427387904 at hp
  change avp _ _ (Ret _ _ fun v _ => v = .t (.bool (mayR (-1) l))) (entry [.t (sl l)] .empty)
  unfold G_ref8_MayRuns
  simp only [vP.down, vS.down, vE.down, qA, qB, qC, qD, qE, qF, qG, reduceIte, reduceCtorEq, qH, qI, qJ, ↓avp_condG, ↓tf_arrow, ↓ft_arrow]
  refine loop_weak hm_ref8_MayRuns (fun k σ => ∃ (i : Nat) (a : Int), k = l.length - i ∧ i ≤ l.length ∧ mayR (-1) l = mayR a (l.drop i) ∧ (i = 0 → a = -1) ∧ (∀ j, i = j + 1 → a = (l.getD j default).To ∧ 0 ≤ a) ∧ σ = mkS [(0, .t (sl l)), (3, .t (.int .i64 (i : Nat)))] .empty) ⟨0, -1, rfl, by omega, rfl, fun _ => rfl, fun j hj => by omega, rfl⟩ (wk_to fewer_refl (by simp only [vP.down, vS.down, vE.down, qA, qB, qC, qD, qE, qF, qG, reduceIte, reduceCtorEq, qH, qI, qJ, ↓avp_condG, ↓tf_arrow, ↓ft_arrow, wP.down, Int.natCast_zero])) ?_
  rintro k _ ⟨i, a, rfl, hi, ht, ha0, ha1, rfl⟩
  have hi1 : IntKind.i64.wrap ((i : Int) + 1) = ((i + 1 : Nat) : Int) := by rw [IntWalk.i64_in _ (by omega)]; rfl
  by_cases hlt : i < l.length
  case neg =>
    obtain rfl : i = l.length := by omega
    have hge : ¬ ((l.length : Int) < (l.length : Int)) := by omega
    rw [List.drop_length, mayR] at ht
    simp only [vP.down, vS.down, vE.down, qA, qB, qC, qD, qE, qF, qG, reduceIte, reduceCtorEq, qH, qI, qJ, ↓avp_condG, ↓tf_arrow, ↓ft_arrow, hge]
    simp only [vP.down, vS.down, vE.down, qA, qB, qC, qD, qE, qF, qG, reduceIte, reduceCtorEq, qH, qI, qJ, ↓avp_condG, ↓tf_arrow, ↓ft_arrow, vT.down, ht]
  have hlt' : (i : Int) < (l.length : Int) := by omega
  have hix := idx_at (C := K_ref8_MayRuns) (l := l) ty_Lapi_Run ty_api_Run rfl hlt .i64
  rw [mayR_step hlt] at ht
  obtain ⟨r, hr⟩ : ∃ r, r = l.getD i default := ⟨_, rfl⟩
  rw [← hr] at hix ht
  have ham : -1 ≤ a := by
    by_cases h0 : i = 0
    · rw [ha0 h0]; omega
    · have := (ha1 (i - 1) (by omega)).2; omega
  have next : a < r.From → r.From < r.To → r.To ≤ 1073741824 → ∀ σ', Wk σ' (mkS [(0, .t (sl l)), (3, .t (.int .i64 (i + 1 : Nat)))] .empty) → ∃ (k' : Nat) (σ'' : St), k' < l.length - i ∧ Wk σ' σ'' ∧ ∃ (i : Nat) (a : Int), k' = l.length - i ∧ i ≤ l.length ∧ mayR (-1) l = mayR a (l.drop i) ∧ (i = 0 → a = -1) ∧ (∀ j, i = j + 1 → a = (l.getD j default).To ∧ 0 ≤ a) ∧ σ'' = mkS [(0, .t (sl l)), (3, .t (.int .i64 (i : Nat)))] .empty := fun n1 n2 n3 σ' hσ => by
    simp only [n1, n2, n3, decide_true, Bool.true_and] at ht
    exact ⟨l.length - (i + 1), _, by omega, hσ, i + 1, r.To, rfl, by omega, ht, fun h => by omega, fun j hj => ⟨by rw [hr, show j = i from by omega], by omega⟩, rfl⟩
  by_cases c1 : r.From < 0
  · have hn : ¬ a < r.From := by omega
    simp only [vP.down, vS.down, vE.down, qA, qB, qC, qD, qE, qF, qG, reduceIte, reduceCtorEq, qH, qI, qJ, ↓avp_condG, ↓tf_arrow, ↓ft_arrow, hlt', hix, c1, live_fi, pick_of, pick_ot, false_implies]
    simp only [vP.down, vS.down, vE.down, qA, qB, qC, qD, qE, qF, qG, reduceIte, reduceCtorEq, qH, qI, qJ, ↓avp_condG, ↓tf_arrow, ↓ft_arrow, vT.down, ht, hn]
  by_cases c2 : r.To ≤ r.From
  · have hn2 : ¬ r.From < r.To := by omega
    simp only [vP.down, vS.down, vE.down, qA, qB, qC, qD, qE, qF, qG, reduceIte, reduceCtorEq, qH, qI, qJ, ↓avp_condG, ↓tf_arrow, ↓ft_arrow, hlt', hix, c1, c2, live_fi, pick_of, pick_ot, false_implies]
    simp only [vP.down, vS.down, vE.down, qA, qB, qC, qD, qE, qF, qG, reduceIte, reduceCtorEq, qH, qI, qJ, ↓avp_condG, ↓tf_arrow, ↓ft_arrow, vT.down, ht, hn2]
  by_cases c3 : 1073741824 < r.To
  · have hn3 : ¬ r.To ≤ 1073741824 := by omega
    simp only [vP.down, vS.down, vE.down, qA, qB, qC, qD, qE, qF, qG, reduceIte, reduceCtorEq, qH, qI, qJ, ↓avp_condG, ↓tf_arrow, ↓ft_arrow, hlt', hix, c1, c2, c3, live_fi, gt_iff_lt, pick_of, pick_ot, false_implies]
    simp only [vP.down, vS.down, vE.down, qA, qB, qC, qD, qE, qF, qG, reduceIte, reduceCtorEq, qH, qI, qJ, ↓avp_condG, ↓tf_arrow, ↓ft_arrow, vT.down, ht, hn3]
  by_cases c4 : (0 : Int) < (i : Int)
  case neg =>
    have := ha0 (by omega)
    simp only [vP.down, vS.down, vE.down, qA, qB, qC, qD, qE, qF, qG, reduceIte, reduceCtorEq, qH, qI, qJ, ↓avp_condG, ↓tf_arrow, ↓ft_arrow, hlt', hix, c1, c2, c3, c4, live_fi, gt_iff_lt, pick_of, pick_ot, false_implies]
    exact next (by omega) (by omega) (by omega) _ (wk_to fewer_refl (by simp only [vP.down, vS.down, vE.down, qA, qB, qC, qD, qE, qF, qG, reduceIte, reduceCtorEq, qH, qI, qJ, ↓avp_condG, ↓tf_arrow, ↓ft_arrow, wP.down, hi1]))
  have hm1 : IntKind.i64.wrap ((i : Int) - 1) = ((i - 1 : Nat) : Int) := by rw [IntWalk.i64_in _ (by omega)]; omega
  have hix1 := idx_at (C := K_ref8_MayRuns) (l := l) ty_Lapi_Run ty_api_Run rfl (by omega : i - 1 < l.length) .i64
  have ha := (ha1 (i - 1) (by omega)).1
  obtain ⟨q, hq⟩ : ∃ q, q = l.getD (i - 1) default := ⟨_, rfl⟩
  rw [← hq] at hix1 ha
  by_cases c5 : r.From ≤ q.To
  · have hn : ¬ a < r.From := by omega
    simp only [vP.down, vS.down, vE.down, qA, qB, qC, qD, qE, qF, qG, reduceIte, reduceCtorEq, qH, qI, qJ, ↓avp_condG, ↓tf_arrow, ↓ft_arrow, hlt', hix, hm1, hix1, c1, c2, c3, c4, c5, live_fi, gt_iff_lt, pick_of, pick_ot, false_implies]
    simp only [vP.down, vS.down, vE.down, qA, qB, qC, qD, qE, qF, qG, reduceIte, reduceCtorEq, qH, qI, qJ, ↓avp_condG, ↓tf_arrow, ↓ft_arrow, vT.down, ht, hn]
  simp only [vP.down, vS.down, vE.down, qA, qB, qC, qD, qE, qF, qG, reduceIte, reduceCtorEq, qH, qI, qJ, ↓avp_condG, ↓tf_arrow, ↓ft_arrow, hlt', hix, hm1, hix1, c1, c2, c3, c4, c5, live_fi, gt_iff_lt, pick_of, pick_ot, false_implies]
  exact next (by omega) (by omega) (by omega) _ (wk_to fewer_refl (by simp only [vP.down, vS.down, vE.down, qA, qB, qC, qD, qE, qF, qG, reduceIte, reduceCtorEq, qH, qI, qJ, ↓avp_condG, ↓tf_arrow, ↓ft_arrow, wP.down, hi1]))
noncomputable def c_ref8_MayRuns : Con := fnScal A_ref8_MayRuns p_ref8_MayRuns r_ref8_MayRuns
theorem ok_ref8_MayRuns : COk Try.prog 90 c_ref8_MayRuns := fn_sok sys_ref8_MayRuns mixed Try.func90 (by kernel_rfl) geq_ref8_MayRuns Try.ntmps90 (by rw [Try.results90]) (fun x => by unfold r_ref8_MayRuns; simp [AV.scal]) fun x hx => ⟨Nat.le_of_ble_eq_true rfl, body_ref8_MayRuns x hx⟩
end Go.Proofs.Ytofcmdkmhbbbjaa
namespace Go.Proofs.Ytofcmdkmhbbbjaa
open Go Go.Eng
set_option maxRecDepth 100000
def okB (l : List TRun) : Prop := ∀ r ∈ l, 0 ≤ r.From ∧ r.From ≤ r.To ∧ r.To ≤ 1073741824
def cntR (l : List TRun) : Int := (l.map fun r => r.To - r.From).sum
end Go.Proofs.Ytofcmdkmhbbbjaa
namespace Go.Proofs.Ytofcmdkmhbbbjaa
open Go Go.Eng
set_option maxRecDepth 100000
def seg (a : Int) (k : Nat) : List Int := (List.range k).map fun j => a + (j : Nat)
theorem seg_len {a : Int} {k : Nat} : (seg a k).length = k := by simp [seg]
def secs (l : List TRun) : List Int := l.flatMap fun r => seg r.From (r.To - r.From).toNat
end Go.Proofs.Ytofcmdkmhbbbjaa
namespace Go.Eng
theorem PV.len {C : Ctx} {T e : TypeId} {n m : Nat} {z : List TV} {S : Store} {v : AV} {l : List Int} (hl : PV S v l) (h : C.ty T = some ⟨.slice e, n, m, z⟩) : lenB C T v = .val True (.t (.int .i64 (l.length : Int))) := by
  rcases hl with ⟨rfl, rfl⟩ | ⟨g, r, rfl, _⟩
  · exact nil_len h
  · exact tok_len h
theorem PV.w2 {S : Store} {v : AV} {l : List Int} (h : PV S v l) : W2 S .empty v (.t (sl l)) := by
  rcases h.frz with rfl | ⟨n, h1, h2⟩ | ⟨ros, h1⟩
  · exact .inl (.inl rfl)
  · exact .inl (.inr (.inl ⟨n, by rw [h1], h2⟩))
  · exact .inl (.inr (.inr ⟨_, ros, h1, .inl rfl, fun _ _ => rfl⟩))
end Go.Eng
namespace Go.Proofs.Ytofcmdkmhbbbjaa
open Go Go.Eng
set_option maxRecDepth 100000
def G_slices_Clone___int_int_ : GCode := .seq (.region [⟨(some 2), none, .assign (.const (.slice none 0 0))⟩]) (.seq (.seq (.region [⟨(some 3), none, .move (.tmp 0)⟩, ⟨(some 4), none, .binOp .eql 58 (.tmp 3) (.const (.slice none 0 0)) 58⟩]) (.cond (.tmp 4) (.seq (.region [⟨(some 2), none, .assign (.const (.slice none 0 0))⟩]) (.ret)) (.skip))) (.seq (.region [⟨(some 5), none, .buildSlice 58 0 #[]⟩, ⟨(some 6), none, .move (.tmp 0)⟩, ⟨(some 7), none, .call ⟨.builtin .append, #[.tmp 5, .tmp 6], #[58, 58]⟩⟩, ⟨(some 2), none, .assign (.tmp 7)⟩]) (.ret)))
noncomputable def l_slices_Clone___int_int_ : List (Nat × Con) := []
noncomputable abbrev K_slices_Clone___int_int_ : Ctx := ctx (cl l_slices_Clone___int_int_)
theorem geq_slices_Clone___int_int_ : gof K_slices_Clone___int_int_ Try.f91 = some G_slices_Clone___int_int_.strip := by kernel_rfl
theorem sys_slices_Clone___int_int_ : Go.Eng.Sys Try.prog K_slices_Clone___int_int_ := sys_of' (l := []) trivial
theorem nil_slices_Clone___int_int_ : avp K_slices_Clone___int_int_ G_slices_Clone___int_int_ (Ret K_slices_Clone___int_int_ [.tmp 2] fun r _ => r = .t .nilS) (entry [.t (.emq true)] .empty) := by
  unfold G_slices_Clone___int_int_
  simp only [vP.down, vS.down, vE.down, qA, qB, qC, qD, qE, qF, qG, reduceIte, reduceCtorEq, qH, qI, qJ, ↓avp_condG, ↓tf_arrow, ↓ft_arrow, eql_emq ty_Lint, false_implies]
  simp only [vP.down, vS.down, vE.down, qA, qB, qC, qD, qE, qF, qG, reduceIte, reduceCtorEq, qH, qI, qJ, ↓avp_condG, ↓tf_arrow, ↓ft_arrow, vT.down]
theorem row_slices_Clone___int_int_ (x : TV) (l : List Int) (h : (x = .emq false ∧ l = []) ∨ (∃ y r, x = sl l ∧ l = y :: r)) (hl : l.length ≤ 1099511627776) :
    avp K_slices_Clone___int_int_ G_slices_Clone___int_int_ (Ret K_slices_Clone___int_int_ [.tmp 2] fun r s' => ∃ g, r = .tok g (Cell.width Int) 0 l.length ∧ s'.f g = some (.row (Cell.width Int) (l.map Cell.enc) false)) (entry [.t x] .empty) := by
  have fin : ∀ g, Store.empty.f g = none → Shows (Store.empty.set g (some (.row 1 [] false))) (.t x) l → appendV K_slices_Clone___int_int_ 58 (.tok g 1 0 0) (.t x) (fun v s => ∃ g', v = .tok g' (Cell.width Int) 0 l.length ∧ s.f g' = some (.row (Cell.width Int) (l.map Cell.enc) false)) (Store.empty.set g (some (.row 1 [] false))) := fun g hg hs => by
    refine append_tok (l := ([] : List Int)) ty_Lint ty_int rfl (by decide) (Store.set_same _ _ _) hs (by simp; omega) (by simp; omega) fun g' hg' => ⟨g', rfl, Store.set_same _ _ _⟩
  unfold G_slices_Clone___int_int_
  rcases h with ⟨rfl, rfl⟩ | ⟨y, r, rfl, rfl⟩
  · simp only [vP.down, vS.down, vE.down, qA, qB, qC, qD, qE, qF, qG, reduceIte, reduceCtorEq, qH, qI, qJ, ↓avp_condG, ↓tf_arrow, ↓ft_arrow, eql_emq ty_Lint, false_implies]
    ((repeat' with_reducible refine And.intro ?_ ?_) <;> try (first | omega | (simp only [List.length_take, List.length_drop, List.length_append, List.length_map, List.length_replicate] <;> omega)))
    intro g hg
    simp only [vP.down, vS.down, vE.down, qA, qB, qC, qD, qE, qF, qG, reduceIte, reduceCtorEq, qH, qI, qJ, ↓avp_condG, ↓tf_arrow, ↓ft_arrow, vT.down]
    exact fin g hg shows_emq
  · simp only [vP.down, vS.down, vE.down, qA, qB, qC, qD, qE, qF, qG, reduceIte, reduceCtorEq, qH, qI, qJ, ↓avp_condG, ↓tf_arrow, ↓ft_arrow, eql_seq ty_Lint, false_implies]
    ((repeat' with_reducible refine And.intro ?_ ?_) <;> try (first | omega | (simp only [List.length_take, List.length_drop, List.length_append, List.length_map, List.length_replicate] <;> omega)))
    intro g hg
    simp only [vP.down, vS.down, vE.down, qA, qB, qC, qD, qE, qF, qG, reduceIte, reduceCtorEq, qH, qI, qJ, ↓avp_condG, ↓tf_arrow, ↓ft_arrow, vT.down]
    exact fin g hg shows_sl
abbrev A_slices_Clone___int_int_ := clA Int
abbrev p_slices_Clone___int_int_ := clP (α := Int)
abbrev e_slices_Clone___int_int_ := clE (α := Int)
abbrev mk_slices_Clone___int_int_ := clM (α := Int)
noncomputable def c_slices_Clone___int_int_ : Con := ownCon A_slices_Clone___int_int_ p_slices_Clone___int_int_ e_slices_Clone___int_int_ mk_slices_Clone___int_int_
theorem ok_slices_Clone___int_int_ : COk Try.prog 91 c_slices_Clone___int_int_ := clone_ok sys_slices_Clone___int_int_ mixed Try.func91 (by kernel_rfl) geq_slices_Clone___int_int_ Try.ntmps91 (by rw [Try.results91]) (by decide) nil_slices_Clone___int_int_ row_slices_Clone___int_int_
def ofStep (o : List TRun) (a : Int) : List TRun := if 0 ≤ a ∧ a < 1073741824 then behindL o ⟨a, a + 1⟩ else o
theorem ofStep_len {o : List TRun} {a : Int} : (ofStep o a).length ≤ o.length + 1 := by
  unfold ofStep
  split
  · exact behindL_len
  · omega
def ofL (l : List Int) : List TRun := (cpL (sortL l)).foldl ofStep []
theorem fold_next {α β : Type} [Inhabited α] {f : β → α → β} {b : β} {e : List α} {i : Nat} (h : i < e.length) : (e.take (i + 1)).foldl f b = f ((e.take i).foldl f b) (e.getD i default) := by
  rw [List.take_add_one, List.getD_eq_getElem?_getD, List.getElem?_eq_getElem h, List.foldl_append]
  rfl
def G_span_Of : GCode := .seq (.region [⟨(some 2), none, .assign (.const (.slice none 0 0))⟩]) (.seq (.region [⟨(some 3), none, .assign (.const (.slice none 0 0))⟩]) (.seq (.region [⟨(some 6), none, .move (.tmp 0)⟩, ⟨(some 7), none, .call ⟨.value (.func 91), #[.tmp 6], #[58]⟩⟩, ⟨(some 0), none, .assign (.tmp 7)⟩]) (.seq (.region [⟨(some 8), none, .move (.tmp 0)⟩, ⟨(some 9), none, .call ⟨.value (.func 92), #[.tmp 8], #[58]⟩⟩]) (.seq (.seq (.region [⟨(some 10), none, .move (.tmp 0)⟩, ⟨(some 11), none, .call ⟨.value (.func 93), #[.tmp 10], #[58]⟩⟩, ⟨(some 12), none, .call ⟨.builtin .len, #[.tmp 11], #[58]⟩⟩, ⟨(some 13), none, .move (.const (.int .i64 0))⟩]) (.block 0 (.loop (.seq .weak (.seq (.region [⟨(some 14), none, .binOp .lss 3 (.tmp 13) (.tmp 12) 3⟩]) (.seq (.cond (.tmp 14) (.skip) (.exit 0)) (.seq (.block 1 (.seq (.region [⟨(some 15), none, .indexAddr 58 (.tmp 11) (.tmp 13)⟩, ⟨(some 16), none, .load 3 (.tmp 15)⟩, ⟨(some 5), none, .assign (.tmp 16)⟩]) (.seq (.region [⟨(some 17), none, .move (.tmp 5)⟩, ⟨(some 18), none, .binOp .geq 3 (.tmp 17) (.const (.int .i64 0)) 3⟩, ⟨(some 19), none, .move (.tmp 18)⟩, ⟨(some 20), (some (19, true)), .move (.tmp 5)⟩, ⟨(some 21), (some (19, true)), .binOp .lss 3 (.tmp 20) (.const (.int .i64 1073741824)) 3⟩, ⟨(some 22), none, .pick (.tmp 19) (.tmp 21) (.const (.bool false))⟩]) (.cond (.tmp 22) (.region [⟨(some 23), none, .move (.tmp 3)⟩, ⟨(some 24), none, .move (.tmp 5)⟩, ⟨(some 25), none, .move (.tmp 5)⟩, ⟨(some 26), none, .binOp .add 3 (.tmp 25) (.const (.int .i64 1)) 3⟩, ⟨(some 27), none, .build 69 #[(0, .tmp 24), (1, .tmp 26)]⟩, ⟨(some 28), none, .call ⟨.value (.func 94), #[.tmp 23, .tmp 27], #[52, 69]⟩⟩, ⟨(some 3), none, .assign (.tmp 28)⟩]) (.skip))))) (.region [⟨(some 29), none, .binOp .add 3 (.tmp 13) (.const (.int .i64 1)) 3⟩, ⟨(some 13), none, .move (.tmp 29)⟩])))))))) (.seq (.region [⟨(some 30), none, .move (.tmp 3)⟩, ⟨(some 2), none, .assign (.tmp 30)⟩]) (.ret))))))
noncomputable def l_span_Of : List (Nat × Con) := [(91, c_slices_Clone___int_int_), (92, c_slices_Sort___int_int_), (93, c_slices_Compact___int_int_), (94, c_span_behind)]
noncomputable abbrev K_span_Of : Ctx := ctx (cl l_span_Of)
theorem geq_span_Of : gof K_span_Of Try.f77 = some G_span_Of.strip := by kernel_rfl
theorem sys_span_Of : Go.Eng.Sys Try.prog K_span_Of := sys_of' ⟨ok_slices_Clone___int_int_, ok_slices_Sort___int_int_, ok_slices_Compact___int_int_, ok_span_behind, trivial⟩
theorem hm_span_Of : ConMono K_span_Of := conMono_of sys_span_Of.con
noncomputable def k_span_Of_slices_Clone___int_int_ := PLift.up (call_own (C := K_span_Of) (f := 91) (A := A_slices_Clone___int_int_) (p := p_slices_Clone___int_int_) (es := e_slices_Clone___int_int_) (mk := mk_slices_Clone___int_int_) rfl)
noncomputable def k_span_Of_slices_Sort___int_int_ := PLift.up (call_gen (C := K_span_Of) (f := 92) (modes := m_slices_Sort___int_int_) (F := F_slices_Sort___int_int_) rfl)
noncomputable def k_span_Of_slices_Compact___int_int_ := PLift.up (call_gen (C := K_span_Of) (f := 93) (modes := m_slices_Compact___int_int_) (F := F_slices_Compact___int_int_) rfl)
noncomputable def k_span_Of_span_behind := PLift.up (call_gen (C := K_span_Of) (f := 94) (modes := m_span_behind) (F := F_span_behind) rfl)
def A_span_Of := Arms.cons (argT (List Int)) Arms.nil
def p_span_Of (x : List Int × Unit) : Prop := x.1.length ≤ 1099511627776
def r_span_Of (x : List Int × Unit) : AV := .t (sl (ofL x.1))
set_option maxRecDepth 100000 in
theorem body_span_Of (x : List Int × Unit) (hp : p_span_Of x) : avp K_span_Of G_span_Of (Ret K_span_Of [.tmp 2] fun v s' => Frz s' v (r_span_Of x)) (entry (A_span_Of.enc x) .empty) := by
  obtain ⟨l, ⟨⟩⟩ := x
  change l.length ≤ 1099511627776 at hp
  change avp _ _ (Ret _ _ fun v s' => Frz1 s' v (sl (ofL l))) (entry [.t (sl l)] .empty)
  unfold G_span_Of
  simp only [vP.down, vS.down, vE.down, qA, qB, qC, qD, qE, qF, qG, reduceIte, reduceCtorEq, qH, qI, qJ, ↓avp_condG, ↓tf_arrow, ↓ft_arrow, hp, k_span_Of_slices_Clone___int_int_.down, A_slices_Clone___int_int_, p_slices_Clone___int_int_, e_slices_Clone___int_int_, mk_slices_Clone___int_int_, clA, clP, clE, clM]
  intro g hg
  have hv0 : OW (Store.empty.set g (some (.row 1 (l.map Cell.enc) false))) (.tok g 1 0 l.length) l := .inr ⟨g, rfl, Store.set_same _ _ _⟩
  simp only [vP.down, vS.down, vE.down, qA, qB, qC, qD, qE, qF, qG, reduceIte, reduceCtorEq, qH, qI, qJ, ↓avp_condG, ↓tf_arrow, ↓ft_arrow, k_span_Of_slices_Sort___int_int_.down, m_slices_Sort___int_int_]
  refine sort_ow hv0 (by omega) fun S1 h1 _ => ?_
  simp only [vP.down, vS.down, vE.down, qA, qB, qC, qD, qE, qF, qG, reduceIte, reduceCtorEq, qH, qI, qJ, ↓avp_condG, ↓tf_arrow, ↓ft_arrow, k_span_Of_slices_Compact___int_int_.down, m_slices_Compact___int_int_]
  refine comp_pv cpL_len h1 (by rw [sortL_len]; omega) fun v1 S2 h2 _ => ?_
  obtain ⟨e, he⟩ : ∃ e, e = cpL (sortL l) := ⟨_, rfl⟩
  have hel := cpL_len (sortL l)
  rw [sortL_len, ← he] at hel
  rw [← he] at h2
  have hlen : lenB K_span_Of 58 v1 = .val True (.t (.int .i64 (e.length : Int))) := h2.len ty_Lint
  simp only [vP.down, vS.down, vE.down, qA, qB, qC, qD, qE, qF, qG, reduceIte, reduceCtorEq, qH, qI, qJ, ↓avp_condG, ↓tf_arrow, ↓ft_arrow, hlen]
  refine loop_weak hm_span_Of (fun k σ => ∃ (i : Nat) (v : AV) (S : Store), k = e.length - i ∧ i ≤ e.length ∧ ((e.take i).foldl ofStep []).length ≤ i ∧ OW S v ((e.take i).foldl ofStep []) ∧
      σ = mkS [(3, v), (11, .t (sl e)), (12, .t (.int .i64 (e.length : Nat))), (13, .t (.int .i64 (i : Nat)))] S)
    ⟨0, .t .nilS, .empty, rfl, by omega, by simp, .inl ⟨rfl, rfl⟩, rfl⟩ (wk_to fewer_empty (by
      simp only [vP.down, vS.down, vE.down, qA, qB, qC, qD, qE, qF, qG, reduceIte, reduceCtorEq, qH, qI, qJ, ↓avp_condG, ↓tf_arrow, ↓ft_arrow, wP.down, Int.natCast_zero]
      exact h2.w2)) ?_
  clear h2 h1 hv0
  rintro k _ ⟨i, v, S, rfl, hi, ho, hv, rfl⟩
  have hi1 : IntKind.i64.wrap ((i : Int) + 1) = ((i + 1 : Nat) : Int) := by rw [IntWalk.i64_in _ (by omega)]; rfl
  by_cases hlt : i < e.length
  case neg =>
    obtain rfl : i = e.length := by omega
    have hge : ¬ ((e.length : Int) < (e.length : Int)) := by omega
    rw [List.take_length] at hv
    simp only [vP.down, vS.down, vE.down, qA, qB, qC, qD, qE, qF, qG, reduceIte, reduceCtorEq, qH, qI, qJ, ↓avp_condG, ↓tf_arrow, ↓ft_arrow, hge]
    simp only [vP.down, vS.down, vE.down, qA, qB, qC, qD, qE, qF, qG, reduceIte, reduceCtorEq, qH, qI, qJ, ↓avp_condG, ↓tf_arrow, ↓ft_arrow, vT.down]
    rw [ofL, ← he]
    exact hv.lv.frz
  have hlt' : (i : Int) < (e.length : Int) := by omega
  have hix := idx_at (C := K_span_Of) (l := e) ty_Lint ty_int rfl hlt .i64
  have hn := fold_next (f := ofStep) (b := []) hlt
  obtain ⟨a, ha⟩ : ∃ a, a = e.getD i default := ⟨_, rfl⟩
  rw [← ha] at hix hn
  obtain ⟨o, hO⟩ : ∃ o, o = (e.take i).foldl ofStep [] := ⟨_, rfl⟩
  rw [← hO] at hn hv ho
  have hsl := ofStep_len (o := o) (a := a)
  by_cases c1 : 0 ≤ a
  case neg =>
    have hs : ofStep o a = o := if_neg (fun h => c1 h.1)
    rw [hs] at hn
    simp only [vP.down, vS.down, vE.down, qA, qB, qC, qD, qE, qF, qG, reduceIte, reduceCtorEq, qH, qI, qJ, ↓avp_condG, ↓tf_arrow, ↓ft_arrow, hlt', hix, c1, ge_iff_le, pick_of, pick_ot, false_implies]
    exact round_to (e.length - (i + 1)) [(3, v), (11, .t (sl e)), (12, .t (.int .i64 (e.length : Nat))), (13, .t (.int .i64 (i + 1 : Nat)))] S (by omega) fewer_refl (by simp only [vP.down, vS.down, vE.down, qA, qB, qC, qD, qE, qF, qG, reduceIte, reduceCtorEq, qH, qI, qJ, ↓avp_condG, ↓tf_arrow, ↓ft_arrow, wP.down, hi1]) ⟨i + 1, v, S, rfl, by omega, by rw [hn]; omega, by rw [hn]; exact hv, rfl⟩
  by_cases c2 : a < 1073741824
  case neg =>
    have hs : ofStep o a = o := if_neg (fun h => c2 h.2)
    rw [hs] at hn
    simp only [vP.down, vS.down, vE.down, qA, qB, qC, qD, qE, qF, qG, reduceIte, reduceCtorEq, qH, qI, qJ, ↓avp_condG, ↓tf_arrow, ↓ft_arrow, hlt', hix, c1, c2, ge_iff_le, pick_of, pick_ot, false_implies]
    exact round_to (e.length - (i + 1)) [(3, v), (11, .t (sl e)), (12, .t (.int .i64 (e.length : Nat))), (13, .t (.int .i64 (i + 1 : Nat)))] S (by omega) fewer_refl (by simp only [vP.down, vS.down, vE.down, qA, qB, qC, qD, qE, qF, qG, reduceIte, reduceCtorEq, qH, qI, qJ, ↓avp_condG, ↓tf_arrow, ↓ft_arrow, wP.down, hi1]) ⟨i + 1, v, S, rfl, by omega, by rw [hn]; omega, by rw [hn]; exact hv, rfl⟩
  have hs : ofStep o a = behindL o ⟨a, a + 1⟩ := if_pos ⟨c1, c2⟩
  rw [hs] at hn hsl
  have hw : IntKind.i64.wrap (a + 1) = a + 1 := IntWalk.i64_in _ (by omega)
  simp only [vP.down, vS.down, vE.down, qA, qB, qC, qD, qE, qF, qG, reduceIte, reduceCtorEq, qH, qI, qJ, ↓avp_condG, ↓tf_arrow, ↓ft_arrow, hlt', hix, c1, c2, hw, ge_iff_le, pick_of, pick_ot, false_implies, k_span_Of_span_behind.down, m_span_behind]
  refine ⟨v, o, ⟨a, a + 1⟩, rfl, hv, by omega, fun v' S' hv' _ => ?_⟩
  exact round_to (e.length - (i + 1)) [(3, v'), (11, .t (sl e)), (12, .t (.int .i64 (e.length : Nat))), (13, .t (.int .i64 (i + 1 : Nat)))] S' (by omega) fewer_refl (by simp only [vP.down, vS.down, vE.down, qA, qB, qC, qD, qE, qF, qG, reduceIte, reduceCtorEq, qH, qI, qJ, ↓avp_condG, ↓tf_arrow, ↓ft_arrow, wP.down, hi1]) ⟨i + 1, v', S', rfl, by omega, by rw [hn]; omega, by rw [hn]; exact hv', rfl⟩
noncomputable def c_span_Of : Con := fnCon A_span_Of p_span_Of r_span_Of
theorem ok_span_Of : COk Try.prog 77 c_span_Of := fn_ok sys_span_Of mixed Try.func77 (by kernel_rfl) geq_span_Of Try.ntmps77 (by rw [Try.results77]) fun x hx => ⟨Nat.le_of_ble_eq_true rfl, body_span_Of x hx⟩
end Go.Proofs.Ytofcmdkmhbbbjaa
namespace Go.Eng
theorem tok_to {C : Ctx} {T e : TypeId} {n m n' off len : Nat} {z : List TV} {g : Nat} {k : IntKind} {x : Int} (h : C.ty T = some ⟨.slice e, n, m, z⟩) (he : (C.ty e).map (·.size) = some n') : sliceB C T (.tok g n' off len) none (some (.t (.int k x))) none = .val (0 ≤ x ∧ x ≤ (len : Int)) (.tok g n' off x.toNat) := by
  simp only [sliceB, h, AV.intOr, he]
  simp
theorem tok_from {C : Ctx} {T e : TypeId} {n m n' off len : Nat} {z : List TV} {g : Nat} {k : IntKind} {x : Int} (h : C.ty T = some ⟨.slice e, n, m, z⟩) (he : (C.ty e).map (·.size) = some n') : sliceB C T (.tok g n' off len) (some (.t (.int k x))) none none = .val (0 ≤ x ∧ x ≤ (len : Int)) (.tok g n' (off + x.toNat) (len - x.toNat)) := by
  simp only [sliceB, h, AV.intOr, he]
  simp [B.val]
theorem shows_part {α : Type} [Cell α] {s : Store} {g off len : Nat} {l : List α} {ro : Bool} (h : s.f g = some (.row (Cell.width α) (l.map Cell.enc) ro)) (hl : off + len ≤ l.length) : Shows s (.tok g (Cell.width α) off len) ((l.drop off).take len) := by
  refine ⟨?_, .inl rfl⟩
  simp only [Store.rowsAt, Store.borrow1, h]
  rw [if_pos ⟨trivial, by simpa using hl⟩]
  simp only [Option.bind_some, List.map_take, List.map_drop]
theorem append_kp {C : Ctx} {α : Type} [Cell α] {S : Store} {v y : AV} {l r : List α} {T e : TypeId} {n m : Nat} {z : List TV} {de : TyD} {K : AV → Store → Prop} (h : C.ty T = some ⟨.slice e, n, m, z⟩) (he : C.ty e = some de) (hw : de.size = Cell.width α) (hw0 : 0 < Cell.width α)
    (hv : LV S v l) (hy : Shows S y r) (h1 : l.length + r.length ≤ 140737488355328) (h2 : (l.length + r.length) * de.bytes ≤ 140737488355328)
    (hk : ∀ v' S', LV S' v' (l ++ r) → (∀ k e, S.f k = some e → Not v k → S'.f k = some e ∧ Not v' k) → K v' S') : appendV C T v y K S := by
  refine append_lv h he hw hw0 hv hy h1 h2 fun v' S' hv' q1 q2 => hk v' S' hv' fun k e hk hn => ?_
  have hn' : Not v' k := Classical.byContradiction fun hh => by
    have := q1 k hh
    rw [hk] at this; cases this
  exact ⟨by rw [q2 k hn' hn]; exact hk, hn'⟩
end Go.Eng
namespace Go.Proofs.Ytofcmdkmhbbbjaa
open Go Go.Eng
set_option maxRecDepth 100000
def riseL (n : Int) : List Int → List Int
  | [] => [n]
  | x :: r => if x = n then x :: r else if n < x then n :: x :: r else x :: riseL n r
theorem riseL_len (n : Int) : ∀ l, (riseL n l).length ≤ l.length + 1
  | [] => by simp [riseL]
  | x :: r => by
    have := riseL_len n r
    unfold riseL
    split
    · simp
    · split <;> simp <;> omega
def G_ref8_rising : GCode := .seq (.region [⟨(some 4), none, .assign (.const (.slice none 0 0))⟩]) (.seq (.seq (.region [⟨(some 5), none, .assign (.const (.int .i64 0))⟩]) (.block 0 (.loop (.seq .weak (.seq (.seq (.region [⟨(some 6), none, .move (.tmp 5)⟩, ⟨(some 7), none, .move (.tmp 0)⟩, ⟨(some 8), none, .call ⟨.builtin .len, #[.tmp 7], #[58]⟩⟩, ⟨(some 9), none, .binOp .lss 3 (.tmp 6) (.tmp 8) 3⟩]) (.cond (.tmp 9) (.skip) (.exit 0))) (.seq (.block 1 (.seq (.seq (.region [⟨(some 12), none, .move (.tmp 0)⟩, ⟨(some 13), none, .move (.tmp 5)⟩, ⟨(some 14), none, .indexAddr 58 (.tmp 12) (.tmp 13)⟩, ⟨(some 15), none, .load 3 (.tmp 14)⟩, ⟨(some 16), none, .move (.tmp 1)⟩, ⟨(some 17), none, .binOp .eql 3 (.tmp 15) (.tmp 16) 3⟩]) (.cond (.tmp 17) (.seq (.region [⟨(some 18), none, .move (.tmp 0)⟩, ⟨(some 4), none, .assign (.tmp 18)⟩]) (.ret)) (.skip))) (.seq (.region [⟨(some 19), none, .move (.tmp 0)⟩, ⟨(some 20), none, .move (.tmp 5)⟩, ⟨(some 21), none, .indexAddr 58 (.tmp 19) (.tmp 20)⟩, ⟨(some 22), none, .load 3 (.tmp 21)⟩, ⟨(some 23), none, .move (.tmp 1)⟩, ⟨(some 24), none, .binOp .gtr 3 (.tmp 22) (.tmp 23) 3⟩]) (.cond (.tmp 24) (.seq (.region [⟨(some 25), none, .buildSlice 58 0 #[]⟩, ⟨(some 26), none, .move (.tmp 0)⟩, ⟨(some 27), none, .move (.tmp 5)⟩, ⟨(some 28), none, .slice 58 (.tmp 26) none (some (.tmp 27)) none⟩, ⟨(some 29), none, .call ⟨.builtin .append, #[.tmp 25, .tmp 28], #[58, 58]⟩⟩, ⟨(some 30), none, .move (.tmp 1)⟩, ⟨(some 31), none, .buildSlice 58 1 #[(0, .tmp 30)]⟩, ⟨(some 32), none, .call ⟨.builtin .append, #[.tmp 29, .tmp 31], #[58, 58]⟩⟩, ⟨(some 33), none, .move (.tmp 0)⟩, ⟨(some 34), none, .move (.tmp 5)⟩, ⟨(some 35), none, .slice 58 (.tmp 33) (some (.tmp 34)) none none⟩, ⟨(some 36), none, .call ⟨.builtin .append, #[.tmp 32, .tmp 35], #[58, 58]⟩⟩, ⟨(some 4), none, .assign (.tmp 36)⟩]) (.ret)) (.skip))))) (.region [⟨(some 10), none, .move (.tmp 5)⟩, ⟨(some 11), none, .binOp .add 3 (.tmp 10) (.const (.int .i64 1)) 3⟩, ⟨(some 5), none, .assign (.tmp 11)⟩]))))))) (.seq (.region [⟨(some 37), none, .move (.tmp 0)⟩, ⟨(some 38), none, .move (.tmp 1)⟩, ⟨(some 39), none, .buildSlice 58 1 #[(0, .tmp 38)]⟩, ⟨(some 40), none, .call ⟨.builtin .append, #[.tmp 37, .tmp 39], #[58, 58]⟩⟩, ⟨(some 4), none, .assign (.tmp 40)⟩]) (.ret)))
noncomputable def l_ref8_rising : List (Nat × Con) := []
noncomputable abbrev K_ref8_rising : Ctx := ctx (cl l_ref8_rising)
theorem geq_ref8_rising : gof K_ref8_rising Try.f80 = some G_ref8_rising.strip := by kernel_rfl
theorem sys_ref8_rising : Go.Eng.Sys Try.prog K_ref8_rising := sys_of' (l := []) trivial
theorem hm_ref8_rising : ConMono K_ref8_rising := conMono_of sys_ref8_rising.con
def m_ref8_rising : List Bool := [true, false]
def F_ref8_rising (xs : List AV) (s : Store) (Q : AV → Store → Prop) : Prop := ∃ (v : AV) (l : List Int) (n : Int), xs = [v, .t (.int .i64 n)] ∧ LV s v l ∧ l.length ≤ 1099511627776 ∧
  ∀ v' S, LV S v' (riseL n l) → Keeps s S v v' → Q v' S
theorem mono_ref8_rising (xs : List AV) (s : Store) (Q Q' : AV → Store → Prop) (hq : ∀ r t, Q r t → Q' r t) : F_ref8_rising xs s Q → F_ref8_rising xs s Q' := fun ⟨v, l, n, a, b, c, d⟩ => ⟨v, l, n, a, b, c, fun v' S h k => hq _ _ (d v' S h k)⟩
theorem ex_ref8_rising (xs : List AV) (s : Store) (Q : AV → Store → Prop) : F_ref8_rising xs s Q → ∃ r t, Q r t := fun ⟨v, l, n, _, _, _, d⟩ =>
  let ⟨v', S, h, k⟩ := ow_ex s (riseL n l) v
  ⟨_, _, d v' S h.lv k⟩
set_option maxRecDepth 100000 in
theorem body_ref8_rising (xs : List AV) (s : Store) (Q : AV → Store → Prop) (h : F_ref8_rising xs s Q) : xs.length ≤ 41 ∧ avp K_ref8_rising G_ref8_rising (Ret K_ref8_rising [.tmp 4] fun r s' => ∃ s'', Sub s'' s' ∧ Q r s'') (entry xs s) := by
  obtain ⟨v, l, n, rfl, hv, hl, hq⟩ := h
  refine ⟨by simp, ?_⟩
  have hlen : lenB K_ref8_rising 58 v = .val True (.t (.int .i64 (l.length : Int))) := hv.len ty_Lint
  have hone := hv.one
  unfold G_ref8_rising
  simp only [vP.down, vS.down, vE.down, qA, qB, qC, qD, qE, qF, qG, reduceIte, reduceCtorEq, qH, qI, qJ, ↓avp_condG, ↓tf_arrow, ↓ft_arrow, hone]
  refine loop_weak hm_ref8_rising (fun k σ => ∃ i : Nat, k = l.length - i ∧ i ≤ l.length ∧ riseL n l = l.take i ++ riseL n (l.drop i) ∧ σ = mkS [(0, v), (1, .t (.int .i64 n)), (5, .t (.int .i64 (i : Nat)))] s) ⟨0, rfl, by omega, rfl, rfl⟩ (wk_to fewer_refl (by simp only [vP.down, vS.down, vE.down, qA, qB, qC, qD, qE, qF, qG, reduceIte, reduceCtorEq, qH, qI, qJ, ↓avp_condG, ↓tf_arrow, ↓ft_arrow, wP.down, Int.natCast_zero])) ?_
  rintro k _ ⟨i, rfl, hi, ht, rfl⟩
  have hi1 : IntKind.i64.wrap ((i : Int) + 1) = ((i + 1 : Nat) : Int) := by rw [IntWalk.i64_in _ (by omega)]; rfl
  by_cases hlt : i < l.length
  case neg =>
    obtain rfl : i = l.length := by omega
    have hge : ¬ ((l.length : Int) < (l.length : Int)) := by omega
    rw [List.drop_length, List.take_length] at ht
    simp only [vP.down, vS.down, vE.down, qA, qB, qC, qD, qE, qF, qG, reduceIte, reduceCtorEq, qH, qI, qJ, ↓avp_condG, ↓tf_arrow, ↓ft_arrow, hge, hlen, hone]
    intro g6 hg6
    refine append_new ty_Lint ty_int rfl (by decide) hv hg6 (shows_one (x := n) rfl rfl rfl) (by simp; omega) (by simp; omega) fun v' S' hv' kp => ?_
    simp only [vP.down, vS.down, vE.down, qA, qB, qC, qD, qE, qF, qG, reduceIte, reduceCtorEq, qH, qI, qJ, ↓avp_condG, ↓tf_arrow, ↓ft_arrow, vT.down]
    exact ⟨S', fun _ _ h => h, hq _ _ (by rw [ht]; exact hv') kp⟩
  have hlt' : (i : Int) < (l.length : Int) := by omega
  rcases hv with ⟨rfl, _⟩ | ⟨g, rfl, ro, hr⟩
  · simp at hlt
  have cw : Cell.width Int = 1 := rfl
  rw [cw] at hr
  have hv : LV s (.tok g 1 0 l.length) l := .inr ⟨g, rfl, ro, hr⟩
  have hix := rowL_at (α := Int) (w := 1) rfl hr hlt
  obtain ⟨x, hx⟩ : ∃ x, x = l.getD i default := ⟨_, rfl⟩
  have hdr : l.drop i = x :: l.drop (i + 1) := by
    rw [List.drop_eq_getElem_cons hlt, hx, List.getD_eq_getElem?_getD, List.getElem?_eq_getElem hlt, Option.getD_some]
  have htk : l.take (i + 1) = l.take i ++ [x] := by
    rw [List.take_add_one, hx, List.getD_eq_getElem?_getD, List.getElem?_eq_getElem hlt]; rfl
  rw [← hx] at hix
  have h0i : (0 : Int) ≤ (i : Int) := by omega
  by_cases c1 : x = n
  · have hs : riseL n l = l := by rw [ht, hdr, riseL, if_pos c1, ← hdr, List.take_append_drop]
    simp only [vP.down, vS.down, vE.down, qA, qB, qC, qD, qE, qF, qG, reduceIte, reduceCtorEq, qH, qI, qJ, ↓avp_condG, ↓tf_arrow, ↓ft_arrow, hlt', hlen, hone, cw, hix, c1]
    refine ⟨h0i, ?_⟩
    simp only [vP.down, vS.down, vE.down, qA, qB, qC, qD, qE, qF, qG, reduceIte, reduceCtorEq, qH, qI, qJ, ↓avp_condG, ↓tf_arrow, ↓ft_arrow, vT.down]
    exact ⟨s, fun _ _ h => h, hq _ _ (by rw [hs]; exact hv) fun k e hk hn => ⟨hk, hn⟩⟩
  by_cases c2 : n < x
  · have hs : riseL n l = l.take i ++ [n] ++ l.drop i := by rw [ht, hdr, riseL, if_neg c1, if_pos c2]; simp
    have hto : sliceB K_ref8_rising 58 (.tok g 1 0 l.length) none (some (.t (.int .i64 (i : Int)))) none = .val (0 ≤ (i : Int) ∧ (i : Int) ≤ (l.length : Int)) (.tok g 1 0 i) := tok_to ty_Lint rfl
    have hfr : sliceB K_ref8_rising 58 (.tok g 1 0 l.length) (some (.t (.int .i64 (i : Int)))) none none = .val (0 ≤ (i : Int) ∧ (i : Int) ≤ (l.length : Int)) (.tok g 1 i (l.length - i)) := by
      have := tok_from (C := K_ref8_rising) (T := 58) (g := g) (n' := 1) (off := 0) (len := l.length) (k := .i64) (x := (i : Int)) ty_Lint rfl
      rw [Nat.zero_add, Int.toNat_natCast] at this
      exact this
    simp only [vP.down, vS.down, vE.down, qA, qB, qC, qD, qE, qF, qG, reduceIte, reduceCtorEq, qH, qI, qJ, ↓avp_condG, ↓tf_arrow, ↓ft_arrow, hlt', hlen, hone, cw, hix, c1, c2, gt_iff_lt]
    refine ⟨h0i, h0i, fun g1 hg1 => ?_⟩
    have hne : g ≠ g1 := ne_of hr hg1
    simp only [vP.down, vS.down, vE.down, qA, qB, qC, qD, qE, qF, qG, reduceIte, reduceCtorEq, qH, qI, qJ, ↓avp_condG, ↓tf_arrow, ↓ft_arrow, hto]
    refine ⟨⟨h0i, by omega⟩, ?_⟩
    have hv0 : LV (s.set g1 (some (.row 1 [] false))) (.tok g1 1 0 0) ([] : List Int) := lv_at (α := Int) (l := []) (ro := false) rfl (Store.set_same _ _ _)
    have hr1 : (s.set g1 (some (.row 1 [] false))).f g = some (.row 1 (l.map Cell.enc) ro) := by rw [Store.set_other _ _ hne]; exact hr
    have hsh := shows_part (α := Int) (l := l) (off := 0) (len := i) hr1 (by omega)
    rw [List.drop_zero] at hsh
    refine append_kp ty_Lint ty_int rfl (by decide) hv0 hsh (by simp; omega) (by simp; omega) fun v1 S1 hv1 kp1 => ?_
    rw [List.nil_append] at hv1
    have hr2 := kp1 g _ hr1 (not_tok (Ne.symm hne))
    intro g6 hg6
    refine append_new ty_Lint ty_int rfl (by decide) hv1 hg6 (shows_one (x := n) rfl rfl rfl) (by simp; omega) (by simp; omega) fun v2 S2 hv2 kp2 => ?_
    have hr3 := kp2 g _ hr2.1 hr2.2
    simp only [vP.down, vS.down, vE.down, qA, qB, qC, qD, qE, qF, qG, reduceIte, reduceCtorEq, qH, qI, qJ, ↓avp_condG, ↓tf_arrow, ↓ft_arrow, hfr]
    refine ⟨⟨h0i, by omega⟩, ?_⟩
    have hsh2 := shows_part (α := Int) (l := l) (off := i) (len := l.length - i) hr3.1 (by omega)
    rw [List.take_of_length_le (by simp)] at hsh2
    refine append_kp ty_Lint ty_int rfl (by decide) hv2 hsh2 (by simp; omega) (by simp; omega) fun v3 S3 hv3 kp3 => ?_
    simp only [vP.down, vS.down, vE.down, qA, qB, qC, qD, qE, qF, qG, reduceIte, reduceCtorEq, qH, qI, qJ, ↓avp_condG, ↓tf_arrow, ↓ft_arrow, vT.down]
    refine ⟨S3, fun _ _ h => h, hq _ _ (by rw [hs]; exact hv3) fun k e hk hn => ?_⟩
    have hk1 : k ≠ g1 := ne_of hk hg1
    have a1 := kp1 k e (by rw [Store.set_other _ _ hk1]; exact hk) (not_tok (Ne.symm hk1))
    have a2 := kp2 k e a1.1 a1.2
    exact kp3 k e a2.1 a2.2
  have hs : riseL n l = l.take (i + 1) ++ riseL n (l.drop (i + 1)) := by
    rw [ht, hdr, riseL, if_neg c1, if_neg c2, htk]; simp
  simp only [vP.down, vS.down, vE.down, qA, qB, qC, qD, qE, qF, qG, reduceIte, reduceCtorEq, qH, qI, qJ, ↓avp_condG, ↓tf_arrow, ↓ft_arrow, hlt', hlen, hone, cw, hix, c1, c2, gt_iff_lt]
  refine ⟨h0i, h0i, ?_⟩
  exact round_to (l.length - (i + 1)) [(0, .tok g 1 0 l.length), (1, .t (.int .i64 n)), (5, .t (.int .i64 (i + 1 : Nat)))] s (by omega) fewer_refl (by simp only [vP.down, vS.down, vE.down, qA, qB, qC, qD, qE, qF, qG, reduceIte, reduceCtorEq, qH, qI, qJ, ↓avp_condG, ↓tf_arrow, ↓ft_arrow, wP.down, hi1]) ⟨i + 1, rfl, by omega, hs, rfl⟩
noncomputable def c_ref8_rising : Con := .gen m_ref8_rising F_ref8_rising
theorem ok_ref8_rising : COk Try.prog 80 c_ref8_rising := fn_gok sys_ref8_rising mixed Try.func80 (by kernel_rfl) geq_ref8_rising Try.ntmps80 (by rw [Try.results80]) mono_ref8_rising ex_ref8_rising body_ref8_rising
end Go.Proofs.Ytofcmdkmhbbbjaa
namespace Go.Proofs.Ytofcmdkmhbbbjaa
open Go Go.Eng
set_option maxRecDepth 100000
def rise2 (o : List Int) (r : TRun) : List Int := riseL r.To (riseL r.From o)
theorem rise2_len {o : List Int} {r : TRun} : (rise2 o r).length ≤ o.length + 2 := by
  have h1 := riseL_len r.From o
  have h2 := riseL_len r.To (riseL r.From o)
  unfold rise2; omega
def endsL (l m : List TRun) : List Int := m.foldl rise2 (l.foldl rise2 [])
theorem rise_gen {s : Store} {v : AV} {l : List Int} {n : Int} {Q : AV → Store → Prop} (h : LV s v l) (hl : l.length ≤ 1099511627776) (hq : ∀ v' S, LV S v' (riseL n l) → Q v' S) : F_ref8_rising [v, .t (.int .i64 n)] s Q :=
  ⟨v, l, n, rfl, h, hl, fun v' S h _ => hq v' S h⟩
theorem fold_len {l : List TRun} {o : List Int} : (l.foldl rise2 o).length ≤ o.length + 2 * l.length := by
  induction l generalizing o with
  | nil => simp
  | cons r t ih =>
    rw [List.foldl_cons]
    have := ih (o := rise2 o r)
    have h2 := rise2_len (o := o) (r := r)
    simp only [List.length_cons]; omega
def G_ref8_ends : GCode := .seq (.region [⟨(some 4), none, .assign (.const (.slice none 0 0))⟩]) (.seq (.region [⟨(some 5), none, .assign (.const (.slice none 0 0))⟩]) (.seq (.seq (.region [⟨(some 6), none, .assign (.const (.int .i64 0))⟩]) (.block 0 (.loop (.seq .weak (.seq (.seq (.region [⟨(some 8), none, .move (.tmp 6)⟩, ⟨(some 9), none, .move (.tmp 0)⟩, ⟨(some 10), none, .call ⟨.builtin .len, #[.tmp 9], #[52]⟩⟩, ⟨(some 11), none, .binOp .lss 3 (.tmp 8) (.tmp 10) 3⟩]) (.cond (.tmp 11) (.skip) (.exit 0))) (.seq (.block 1 (.orders (.one ⟨(some 14), none, .move (.tmp 5)⟩ (.one ⟨(some 15), none, .move (.tmp 0)⟩ (.one ⟨(some 16), none, .move (.tmp 6)⟩ (.one ⟨(some 17), none, .indexAddr 52 (.tmp 15) (.tmp 16)⟩ (.one ⟨(some 18), none, .fieldAddr 69 (.tmp 17) 0⟩ (.one ⟨(some 19), none, .load 3 (.tmp 18)⟩ (.one ⟨(some 21), none, .move (.tmp 0)⟩ (.one ⟨(some 22), none, .move (.tmp 6)⟩ (.one ⟨(some 23), none, .indexAddr 52 (.tmp 21) (.tmp 22)⟩ (.one ⟨(some 24), none, .fieldAddr 69 (.tmp 23) 1⟩ (.both (.one ⟨(some 20), none, .call ⟨.value (.func 80), #[.tmp 14, .tmp 19], #[58, 3]⟩⟩ (.one ⟨(some 25), none, .load 3 (.tmp 24)⟩ (.one ⟨(some 26), none, .call ⟨.value (.func 80), #[.tmp 20, .tmp 25], #[58, 3]⟩⟩ (.one ⟨(some 5), none, .assign (.tmp 26)⟩ (.done))))) (.one ⟨(some 25), none, .load 3 (.tmp 24)⟩ (.one ⟨(some 20), none, .call ⟨.value (.func 80), #[.tmp 14, .tmp 19], #[58, 3]⟩⟩ (.one ⟨(some 26), none, .call ⟨.value (.func 80), #[.tmp 20, .tmp 25], #[58, 3]⟩⟩ (.one ⟨(some 5), none, .assign (.tmp 26)⟩ (.done)))))))))))))))))) (.region [⟨(some 12), none, .move (.tmp 6)⟩, ⟨(some 13), none, .binOp .add 3 (.tmp 12) (.const (.int .i64 1)) 3⟩, ⟨(some 6), none, .assign (.tmp 13)⟩]))))))) (.seq (.seq (.region [⟨(some 7), none, .assign (.const (.int .i64 0))⟩]) (.block 2 (.loop (.seq .weak (.seq (.seq (.region [⟨(some 27), none, .move (.tmp 7)⟩, ⟨(some 28), none, .move (.tmp 1)⟩, ⟨(some 29), none, .call ⟨.builtin .len, #[.tmp 28], #[52]⟩⟩, ⟨(some 30), none, .binOp .lss 3 (.tmp 27) (.tmp 29) 3⟩]) (.cond (.tmp 30) (.skip) (.exit 2))) (.seq (.block 3 (.orders (.one ⟨(some 33), none, .move (.tmp 5)⟩ (.one ⟨(some 34), none, .move (.tmp 1)⟩ (.one ⟨(some 35), none, .move (.tmp 7)⟩ (.one ⟨(some 36), none, .indexAddr 52 (.tmp 34) (.tmp 35)⟩ (.one ⟨(some 37), none, .fieldAddr 69 (.tmp 36) 0⟩ (.one ⟨(some 38), none, .load 3 (.tmp 37)⟩ (.one ⟨(some 40), none, .move (.tmp 1)⟩ (.one ⟨(some 41), none, .move (.tmp 7)⟩ (.one ⟨(some 42), none, .indexAddr 52 (.tmp 40) (.tmp 41)⟩ (.one ⟨(some 43), none, .fieldAddr 69 (.tmp 42) 1⟩ (.both (.one ⟨(some 39), none, .call ⟨.value (.func 80), #[.tmp 33, .tmp 38], #[58, 3]⟩⟩ (.one ⟨(some 44), none, .load 3 (.tmp 43)⟩ (.one ⟨(some 45), none, .call ⟨.value (.func 80), #[.tmp 39, .tmp 44], #[58, 3]⟩⟩ (.one ⟨(some 5), none, .assign (.tmp 45)⟩ (.done))))) (.one ⟨(some 44), none, .load 3 (.tmp 43)⟩ (.one ⟨(some 39), none, .call ⟨.value (.func 80), #[.tmp 33, .tmp 38], #[58, 3]⟩⟩ (.one ⟨(some 45), none, .call ⟨.value (.func 80), #[.tmp 39, .tmp 44], #[58, 3]⟩⟩ (.one ⟨(some 5), none, .assign (.tmp 45)⟩ (.done)))))))))))))))))) (.region [⟨(some 31), none, .move (.tmp 7)⟩, ⟨(some 32), none, .binOp .add 3 (.tmp 31) (.const (.int .i64 1)) 3⟩, ⟨(some 7), none, .assign (.tmp 32)⟩]))))))) (.seq (.region [⟨(some 46), none, .move (.tmp 5)⟩, ⟨(some 4), none, .assign (.tmp 46)⟩]) (.ret)))))
noncomputable def l_ref8_ends : List (Nat × Con) := [(80, c_ref8_rising)]
noncomputable abbrev K_ref8_ends : Ctx := ctx (cl l_ref8_ends)
theorem geq_ref8_ends : gof K_ref8_ends Try.f66 = some G_ref8_ends.strip := by kernel_rfl
theorem sys_ref8_ends : Go.Eng.Sys Try.prog K_ref8_ends := sys_of' ⟨ok_ref8_rising, trivial⟩
theorem hm_ref8_ends : ConMono K_ref8_ends := conMono_of sys_ref8_ends.con
noncomputable def k_ref8_ends_ref8_rising := PLift.up (call_gen (C := K_ref8_ends) (f := 80) (modes := m_ref8_rising) (F := F_ref8_rising) rfl)
def A_ref8_ends := Arms.cons (argT (List TRun)) (Arms.cons (argT (List TRun)) Arms.nil)
def p_ref8_ends (x : List TRun × List TRun × Unit) : Prop := x.1.length + x.2.1.length ≤ 1099511627
def r_ref8_ends (x : List TRun × List TRun × Unit) : AV := .t (sl (endsL x.1 x.2.1))
set_option maxRecDepth 100000 in
set_option maxHeartbeats 1000000 in
theorem body_ref8_ends (x : List TRun × List TRun × Unit) (hp : p_ref8_ends x) : avp K_ref8_ends G_ref8_ends (Ret K_ref8_ends [.tmp 4] fun v s' => Frz s' v (r_ref8_ends x)) (entry (A_ref8_ends.enc x) .empty) := by
  obtain ⟨l, m, ⟨⟩⟩ := x
  change l.length + m.length ≤ 1099511627 at hp
  change avp _ _ (Ret _ _ fun v s' => Frz1 s' v (sl (endsL l m))) (entry [.t (sl l), .t (sl m)] .empty)
  unfold G_ref8_ends
  simp only [vP.down, vS.down, vE.down, qA, qB, qC, qD, qE, qF, qG, reduceIte, reduceCtorEq, qH, qI, qJ, ↓avp_condG, ↓tf_arrow, ↓ft_arrow]
  refine loop_weak hm_ref8_ends (fun k σ => ∃ (i : Nat) (v : AV) (S : Store), k = l.length - i ∧ i ≤ l.length ∧ LV S v ((l.take i).foldl rise2 []) ∧ σ = mkS [(0, .t (sl l)), (1, .t (sl m)), (5, v), (6, .t (.int .i64 (i : Nat)))] S) ⟨0, .t .nilS, .empty, rfl, by omega, lv_nil, rfl⟩ (wk_to fewer_refl (by simp only [vP.down, vS.down, vE.down, qA, qB, qC, qD, qE, qF, qG, reduceIte, reduceCtorEq, qH, qI, qJ, ↓avp_condG, ↓tf_arrow, ↓ft_arrow, wP.down, Int.natCast_zero])) ?_
  rintro k _ ⟨i, v, S, rfl, hi, hv, rfl⟩
  have hi1 : IntKind.i64.wrap ((i : Int) + 1) = ((i + 1 : Nat) : Int) := by rw [IntWalk.i64_in _ (by omega)]; rfl
  by_cases hlt : i < l.length
  case pos =>
    have hlt' : (i : Int) < (l.length : Int) := by omega
    have hix := idx_at (C := K_ref8_ends) (l := l) ty_Lapi_Run ty_api_Run rfl hlt .i64
    have hn := fold_next (f := rise2) (b := []) hlt
    have hol := fold_len (l := l.take i) (o := [])
    rw [List.length_take, List.length_nil] at hol
    obtain ⟨r, hr⟩ : ∃ r, r = l.getD i default := ⟨_, rfl⟩
    rw [← hr] at hix hn
    obtain ⟨o, hO⟩ : ∃ o, o = (l.take i).foldl rise2 [] := ⟨_, rfl⟩
    rw [← hO] at hn hv hol
    simp only [vP.down, vS.down, vE.down, qA, qB, qC, qD, qE, qF, qG, reduceIte, reduceCtorEq, qH, qI, qJ, ↓avp_condG, ↓tf_arrow, ↓ft_arrow, hlt', hix, k_ref8_ends_ref8_rising.down, m_ref8_rising]
    ((repeat' with_reducible refine And.intro ?_ ?_) <;> try (first | omega | (simp only [List.length_take, List.length_drop, List.length_append, List.length_map, List.length_replicate] <;> omega)))
    all_goals
      refine rise_gen hv (by omega) fun v1 S1 hv1 => ?_
      have hl1 := riseL_len r.From o
      refine rise_gen hv1 (by omega) fun v2 S2 hv2 => ?_
      exact round_to (l.length - (i + 1)) [(0, .t (sl l)), (1, .t (sl m)), (5, v2), (6, .t (.int .i64 (i + 1 : Nat)))] S2 (by omega) fewer_refl (by simp only [vP.down, vS.down, vE.down, qA, qB, qC, qD, qE, qF, qG, reduceIte, reduceCtorEq, qH, qI, qJ, ↓avp_condG, ↓tf_arrow, ↓ft_arrow, wP.down, hi1]) ⟨i + 1, v2, S2, rfl, by omega, by rw [hn]; exact hv2, rfl⟩
  obtain rfl : i = l.length := by omega
  have hge : ¬ ((l.length : Int) < (l.length : Int)) := by omega
  rw [List.take_length] at hv
  simp only [vP.down, vS.down, vE.down, qA, qB, qC, qD, qE, qF, qG, reduceIte, reduceCtorEq, qH, qI, qJ, ↓avp_condG, ↓tf_arrow, ↓ft_arrow, hge]
  obtain ⟨b, hb⟩ : ∃ b, b = l.foldl rise2 [] := ⟨_, rfl⟩
  have hbl := fold_len (l := l) (o := [])
  rw [← hb, List.length_nil] at hbl
  rw [← hb] at hv
  refine loop_weak hm_ref8_ends (fun k σ => ∃ (i : Nat) (v : AV) (S : Store), k = m.length - i ∧ i ≤ m.length ∧ LV S v ((m.take i).foldl rise2 b) ∧ σ = mkS [(1, .t (sl m)), (5, v), (7, .t (.int .i64 (i : Nat)))] S) ⟨0, v, S, rfl, by omega, hv, rfl⟩ (wk_to fewer_refl (by simp only [vP.down, vS.down, vE.down, qA, qB, qC, qD, qE, qF, qG, reduceIte, reduceCtorEq, qH, qI, qJ, ↓avp_condG, ↓tf_arrow, ↓ft_arrow, wP.down, Int.natCast_zero])) ?_
  clear hv
  rintro k _ ⟨i, v, S, rfl, hi, hv, rfl⟩
  have hi1 : IntKind.i64.wrap ((i : Int) + 1) = ((i + 1 : Nat) : Int) := by rw [IntWalk.i64_in _ (by omega)]; rfl
  by_cases hlt : i < m.length
  case pos =>
    have hlt' : (i : Int) < (m.length : Int) := by omega
    have hix := idx_at (C := K_ref8_ends) (l := m) ty_Lapi_Run ty_api_Run rfl hlt .i64
    have hn := fold_next (f := rise2) (b := b) hlt
    have hol := fold_len (l := m.take i) (o := b)
    rw [List.length_take] at hol
    obtain ⟨r, hr⟩ : ∃ r, r = m.getD i default := ⟨_, rfl⟩
    rw [← hr] at hix hn
    obtain ⟨o, hO⟩ : ∃ o, o = (m.take i).foldl rise2 b := ⟨_, rfl⟩
    rw [← hO] at hn hv hol
    simp only [vP.down, vS.down, vE.down, qA, qB, qC, qD, qE, qF, qG, reduceIte, reduceCtorEq, qH, qI, qJ, ↓avp_condG, ↓tf_arrow, ↓ft_arrow, hlt', hix, k_ref8_ends_ref8_rising.down, m_ref8_rising]
    ((repeat' with_reducible refine And.intro ?_ ?_) <;> try (first | omega | (simp only [List.length_take, List.length_drop, List.length_append, List.length_map, List.length_replicate] <;> omega)))
    all_goals
      refine rise_gen hv (by omega) fun v1 S1 hv1 => ?_
      have hl1 := riseL_len r.From o
      refine rise_gen hv1 (by omega) fun v2 S2 hv2 => ?_
      exact round_to (m.length - (i + 1)) [(1, .t (sl m)), (5, v2), (7, .t (.int .i64 (i + 1 : Nat)))] S2 (by omega) fewer_refl (by simp only [vP.down, vS.down, vE.down, qA, qB, qC, qD, qE, qF, qG, reduceIte, reduceCtorEq, qH, qI, qJ, ↓avp_condG, ↓tf_arrow, ↓ft_arrow, wP.down, hi1]) ⟨i + 1, v2, S2, rfl, by omega, by rw [hn]; exact hv2, rfl⟩
  obtain rfl : i = m.length := by omega
  have hge : ¬ ((m.length : Int) < (m.length : Int)) := by omega
  rw [List.take_length, hb] at hv
  simp only [vP.down, vS.down, vE.down, qA, qB, qC, qD, qE, qF, qG, reduceIte, reduceCtorEq, qH, qI, qJ, ↓avp_condG, ↓tf_arrow, ↓ft_arrow, hge]
  simp only [vP.down, vS.down, vE.down, qA, qB, qC, qD, qE, qF, qG, reduceIte, reduceCtorEq, qH, qI, qJ, ↓avp_condG, ↓tf_arrow, ↓ft_arrow, vT.down]
  exact hv.frz
noncomputable def c_ref8_ends : Con := fnCon A_ref8_ends p_ref8_ends r_ref8_ends
theorem ok_ref8_ends : COk Try.prog 66 c_ref8_ends := fn_ok sys_ref8_ends mixed Try.func66 (by kernel_rfl) geq_ref8_ends Try.ntmps66 (by rw [Try.results66]) fun x hx => ⟨Nat.le_of_ble_eq_true rfl, body_ref8_ends x hx⟩
end Go.Proofs.Ytofcmdkmhbbbjaa
namespace Go.Proofs.Ytofcmdkmhbbbjaa
open Go Go.Eng
set_option maxRecDepth 100000
def hop (h : Int) (a b : Bool) : Bool := if h = 0 then a || b else if h = 1 then a && !b else a && b
def putR (h : Int) (l m : List TRun) : List TRun := whG (hop h) l m (endsL l m) []
def G_ref8_put_7 : GCode := .seq (.seq .weak (.region [⟨(some 67), none, .move (.tmp 8)⟩, ⟨(some 68), none, .call ⟨.builtin .len, #[.tmp 67], #[52]⟩⟩, ⟨(some 69), none, .binOp .gtr 3 (.tmp 68) (.const (.int .i64 0)) 3⟩, ⟨(some 70), none, .move (.tmp 69)⟩, ⟨(some 71), (some (70, true)), .move (.tmp 8)⟩, ⟨(some 72), (some (70, true)), .move (.tmp 8)⟩, ⟨(some 73), (some (70, true)), .call ⟨.builtin .len, #[.tmp 72], #[52]⟩⟩, ⟨(some 74), (some (70, true)), .binOp .sub 3 (.tmp 73) (.const (.int .i64 1)) 3⟩, ⟨(some 75), (some (70, true)), .indexAddr 52 (.tmp 71) (.tmp 74)⟩, ⟨(some 76), (some (70, true)), .fieldAddr 69 (.tmp 75) 1⟩, ⟨(some 77), (some (70, true)), .load 3 (.tmp 76)⟩, ⟨(some 78), (some (70, true)), .move (.tmp 7)⟩, ⟨(some 79), (some (70, true)), .move (.tmp 9)⟩, ⟨(some 80), (some (70, true)), .indexAddr 58 (.tmp 78) (.tmp 79)⟩, ⟨(some 81), (some (70, true)), .load 3 (.tmp 80)⟩, ⟨(some 82), (some (70, true)), .binOp .eql 3 (.tmp 77) (.tmp 81) 3⟩, ⟨(some 83), none, .pick (.tmp 70) (.tmp 82) (.const (.bool false))⟩])) (.cond (.tmp 83) (.region [⟨(some 84), none, .move (.tmp 8)⟩, ⟨(some 85), none, .move (.tmp 8)⟩, ⟨(some 86), none, .call ⟨.builtin .len, #[.tmp 85], #[52]⟩⟩, ⟨(some 87), none, .binOp .sub 3 (.tmp 86) (.const (.int .i64 1)) 3⟩, ⟨(some 88), none, .move (.tmp 7)⟩, ⟨(some 89), none, .move (.tmp 9)⟩, ⟨(some 90), none, .binOp .add 3 (.tmp 89) (.const (.int .i64 1)) 3⟩, ⟨(some 91), none, .indexAddr 58 (.tmp 88) (.tmp 90)⟩, ⟨(some 92), none, .load 3 (.tmp 91)⟩, ⟨(some 93), none, .indexAddr 52 (.tmp 84) (.tmp 87)⟩, ⟨(some 94), none, .fieldAddr 69 (.tmp 93) 1⟩, ⟨none, none, .store 3 (.tmp 94) (.tmp 92)⟩]) (.region [⟨(some 95), none, .move (.tmp 8)⟩, ⟨(some 96), none, .move (.tmp 7)⟩, ⟨(some 97), none, .move (.tmp 9)⟩, ⟨(some 98), none, .indexAddr 58 (.tmp 96) (.tmp 97)⟩, ⟨(some 99), none, .load 3 (.tmp 98)⟩, ⟨(some 100), none, .move (.tmp 7)⟩, ⟨(some 101), none, .move (.tmp 9)⟩, ⟨(some 102), none, .binOp .add 3 (.tmp 101) (.const (.int .i64 1)) 3⟩, ⟨(some 103), none, .indexAddr 58 (.tmp 100) (.tmp 102)⟩, ⟨(some 104), none, .load 3 (.tmp 103)⟩, ⟨(some 105), none, .build 69 #[(0, .tmp 99), (1, .tmp 104)]⟩, ⟨(some 106), none, .buildSlice 52 1 #[(0, .tmp 105)]⟩, ⟨(some 107), none, .call ⟨.builtin .append, #[.tmp 95, .tmp 106], #[52, 52]⟩⟩, ⟨(some 8), none, .assign (.tmp 107)⟩]))
def G_ref8_put : GCode := .seq (.region [⟨(some 6), none, .assign (.const (.slice none 0 0))⟩]) (.seq (.region [⟨(some 12), none, .move (.tmp 0)⟩, ⟨(some 13), none, .move (.tmp 1)⟩, ⟨(some 14), none, .call ⟨.value (.func 66), #[.tmp 12, .tmp 13], #[52, 52]⟩⟩, ⟨(some 7), none, .assign (.tmp 14)⟩]) (.seq (.region [⟨(some 8), none, .assign (.const (.slice none 0 0))⟩]) (.seq (.seq (.region [⟨(some 9), none, .assign (.const (.int .i64 0))⟩]) (.block 0 (.loop (.seq .weak (.seq (.seq (.region [⟨(some 15), none, .move (.tmp 9)⟩, ⟨(some 16), none, .binOp .add 3 (.tmp 15) (.const (.int .i64 1)) 3⟩, ⟨(some 17), none, .move (.tmp 7)⟩, ⟨(some 18), none, .call ⟨.builtin .len, #[.tmp 17], #[58]⟩⟩, ⟨(some 19), none, .binOp .lss 3 (.tmp 16) (.tmp 18) 3⟩]) (.cond (.tmp 19) (.skip) (.exit 0))) (.seq (.block 1 (.seq (.region [⟨(some 22), none, .move (.tmp 0)⟩, ⟨(some 23), none, .move (.tmp 7)⟩, ⟨(some 24), none, .move (.tmp 9)⟩, ⟨(some 25), none, .indexAddr 58 (.tmp 23) (.tmp 24)⟩, ⟨(some 26), none, .load 3 (.tmp 25)⟩, ⟨(some 27), none, .call ⟨.value (.func 67), #[.tmp 22, .tmp 26], #[52, 3]⟩⟩, ⟨(some 28), none, .move (.tmp 1)⟩, ⟨(some 29), none, .move (.tmp 7)⟩, ⟨(some 30), none, .move (.tmp 9)⟩, ⟨(some 31), none, .indexAddr 58 (.tmp 29) (.tmp 30)⟩, ⟨(some 32), none, .load 3 (.tmp 31)⟩, ⟨(some 33), none, .call ⟨.value (.func 67), #[.tmp 28, .tmp 32], #[52, 3]⟩⟩, ⟨(some 10), none, .assign (.tmp 27)⟩, ⟨(some 11), none, .assign (.tmp 33)⟩]) (.seq (.seq (.seq .weak (.region [⟨(some 34), none, .move (.tmp 2)⟩, ⟨(some 35), none, .binOp .eql 3 (.tmp 34) (.const (.int .i64 0)) 3⟩, ⟨(some 36), none, .move (.tmp 35)⟩, ⟨(some 37), (some (36, true)), .move (.tmp 10)⟩, ⟨(some 38), (some (36, true)), .unOp .not 4 (.tmp 37)⟩, ⟨(some 39), none, .pick (.tmp 36) (.tmp 38) (.const (.bool false))⟩, ⟨(some 40), none, .move (.tmp 39)⟩, ⟨(some 41), (some (40, true)), .move (.tmp 11)⟩, ⟨(some 42), (some (40, true)), .unOp .not 4 (.tmp 41)⟩, ⟨(some 43), none, .pick (.tmp 40) (.tmp 42) (.const (.bool false))⟩, ⟨(some 44), none, .move (.tmp 43)⟩, ⟨(some 45), (some (44, false)), .move (.tmp 2)⟩, ⟨(some 46), (some (44, false)), .binOp .eql 3 (.tmp 45) (.const (.int .i64 1)) 3⟩, ⟨(some 47), (some (44, false)), .move (.tmp 46)⟩, ⟨(some 48), (some (47, true)), .move (.tmp 10)⟩, ⟨(some 49), (some (47, true)), .unOp .not 4 (.tmp 48)⟩, ⟨(some 50), (some (47, true)), .move (.tmp 49)⟩, ⟨(some 51), (some (50, false)), .move (.tmp 11)⟩, ⟨(some 52), (some (47, true)), .pick (.tmp 50) (.const (.bool true)) (.tmp 51)⟩, ⟨(some 53), (some (44, false)), .pick (.tmp 47) (.tmp 52) (.const (.bool false))⟩, ⟨(some 54), none, .pick (.tmp 44) (.const (.bool true)) (.tmp 53)⟩, ⟨(some 55), none, .move (.tmp 54)⟩, ⟨(some 56), (some (55, false)), .move (.tmp 2)⟩, ⟨(some 57), (some (55, false)), .binOp .eql 3 (.tmp 56) (.const (.int .i64 2)) 3⟩, ⟨(some 58), (some (55, false)), .move (.tmp 57)⟩, ⟨(some 59), (some (58, true)), .move (.tmp 10)⟩, ⟨(some 60), (some (58, true)), .unOp .not 4 (.tmp 59)⟩, ⟨(some 61), (some (58, true)), .move (.tmp 60)⟩, ⟨(some 62), (some (61, false)), .move (.tmp 11)⟩, ⟨(some 63), (some (61, false)), .unOp .not 4 (.tmp 62)⟩, ⟨(some 64), (some (58, true)), .pick (.tmp 61) (.const (.bool true)) (.tmp 63)⟩, ⟨(some 65), (some (55, false)), .pick (.tmp 58) (.tmp 64) (.const (.bool false))⟩, ⟨(some 66), none, .pick (.tmp 55) (.const (.bool true)) (.tmp 65)⟩])) (.cond (.tmp 66) (.exit 1) (.skip))) (G_ref8_put_7)))) (.seq .weak (.region [⟨(some 20), none, .move (.tmp 9)⟩, ⟨(some 21), none, .binOp .add 3 (.tmp 20) (.const (.int .i64 1)) 3⟩, ⟨(some 9), none, .assign (.tmp 21)⟩])))))))) (.seq (.region [⟨(some 108), none, .move (.tmp 8)⟩, ⟨(some 6), none, .assign (.tmp 108)⟩]) (.ret)))))
noncomputable def l_ref8_put : List (Nat × Con) := [(66, c_ref8_ends), (67, c_ref8_Has)]
noncomputable abbrev K_ref8_put : Ctx := ctx (cl l_ref8_put)
theorem geq_ref8_put : gof K_ref8_put Try.f50 = some G_ref8_put.strip := by kernel_rfl
theorem sys_ref8_put : Go.Eng.Sys Try.prog K_ref8_put := sys_of' ⟨ok_ref8_ends, ok_ref8_Has, trivial⟩
theorem hm_ref8_put : ConMono K_ref8_put := conMono_of sys_ref8_put.con
noncomputable def k_ref8_put_ref8_ends := PLift.up (call_fn (C := K_ref8_put) (f := 66) (A := A_ref8_ends) (p := p_ref8_ends) (r := r_ref8_ends) rfl)
noncomputable def k_ref8_put_ref8_Has := PLift.up (call_scal (C := K_ref8_put) (f := 67) (A := A_ref8_Has) (p := p_ref8_Has) (r := r_ref8_Has) rfl)
set_option maxRecDepth 100000 in
set_option maxHeartbeats 1000000 in
theorem put_7 {l m : List TRun} {h : Int} {e : List Int} {o : List TRun} {v : AV} {S : Store} {i : Nat} (hi : i + 1 < e.length) (hel : e.length ≤ 1099511627776) (ho : o.length ≤ 1099511627776) (hv : OW S v o) {σ : St} {Q : Exit → St → Prop}
    (hσ : Wk σ (mkS [(0, .t (sl l)), (1, .t (sl m)), (2, .t (.int .i64 h)), (7, .t (sl e)), (8, v), (9, .t (.int .i64 (i : Nat)))] S))
    (hQ : ∀ v' S', OW S' v' (behindL o ⟨e.getD i default, e.getD (i + 1) default⟩) → ∀ σf, Wk σf (mkS [(0, .t (sl l)), (1, .t (sl m)), (2, .t (.int .i64 h)), (7, .t (sl e)), (8, v'), (9, .t (.int .i64 (i : Nat)))] S') → Q .normal σf) :
    avp K_ref8_put G_ref8_put_7 Q σ := by
  have hi1 : IntKind.i64.wrap ((i : Int) + 1) = ((i + 1 : Nat) : Int) := by rw [IntWalk.i64_in _ (by omega)]; rfl
  have hx0 := idx_at (C := K_ref8_put) (l := e) ty_Lint ty_int rfl (by omega : i < e.length) .i64
  have hx1 := idx_at (C := K_ref8_put) (l := e) ty_Lint ty_int rfl hi .i64
  obtain ⟨a, ha⟩ : ∃ a, a = e.getD i default := ⟨_, rfl⟩
  obtain ⟨b, hb⟩ : ∃ b, b = e.getD (i + 1) default := ⟨_, rfl⟩
  rw [← ha] at hx0
  rw [← hb] at hx1
  rw [← ha, ← hb] at hQ
  have hlen : lenB K_ref8_put 52 v = .val True (.t (.int .i64 (o.length : Int))) := hv.lv.len ty_Lapi_Run
  have hone := hv.lv.one
  have hst := hv.lv.strip
  have happ : behindL o ⟨a, b⟩ = o ++ [⟨a, b⟩] → ∀ g6, S.f g6 = none → ∀ K : AV → Store → Prop,
      (∀ v' S', OW S' v' (behindL o ⟨a, b⟩) → K v' S') → appendV K_ref8_put 52 v (.tok g6 2 0 1) K (S.set g6 (some (.row 2 [[.int .i64 a, .int .i64 b]] false))) := by
    intro hb g6 hg6 K hK
    refine append_ow ty_Lapi_Run ty_api_Run rfl (by decide) hv hg6 (shows_one (x := (⟨a, b⟩ : TRun)) rfl rfl rfl) (by simp; omega) (by simp; omega) fun g' S' hr keep => ?_
    exact hK _ _ (.inr ⟨g', by rw [hb], by rw [hb]; exact hr⟩)
  unfold G_ref8_put_7
  simp only [avp_seq]
  refine ⟨_, hσ, ?_⟩
  rcases hv with ⟨rfl, rfl⟩ | ⟨g, rfl, hr⟩
  · have hb : behindL [] (⟨a, b⟩ : TRun) = [] ++ [⟨a, b⟩] := rfl
    have hc : ¬ ((0 : Int) < ((0 : Nat) : Int)) := by omega
    have hni : idxB K_ref8_put 52 (.t .nilS) (.t (.int .i64 (IntKind.i64.wrap (0 - 1)))) = .no := idx_nilS ty_Lapi_Run
    simp only [vP.down, vS.down, vE.down, qA, qB, qC, qD, qE, qF, qG, reduceIte, reduceCtorEq, qH, qI, qJ, ↓avp_condG, ↓tf_arrow, ↓ft_arrow, hlen, hone, hc, hni, hx0, hx1, hi1, no_av, fa_unk, liveL_unk, pick_of, gt_iff_lt, false_implies]
    refine ⟨⟨rfl, rfl⟩, ⟨rfl, rfl⟩, fun g6 hg6 => ?_⟩
    refine happ hb g6 hg6 _ fun v' S' h => ?_
    exact hQ v' S' h _ (wk_to fewer_refl (by simp only [vP.down, vS.down, vE.down, qA, qB, qC, qD, qE, qF, qG, reduceIte, reduceCtorEq, qH, qI, qJ, ↓avp_condG, ↓tf_arrow, ↓ft_arrow, wP.down]))
  have cw : Cell.width TRun = 2 := rfl
  rw [cw] at hr happ
  by_cases h0 : o.length = 0
  · have hb : behindL o ⟨a, b⟩ = o ++ [⟨a, b⟩] := if_neg (by omega)
    have hc : ¬ ((0 : Int) < ((0 : Nat) : Int)) := by omega
    have hh := happ hb
    rw [h0] at hlen hh
    simp only [vP.down, vS.down, vE.down, qA, qB, qC, qD, qE, qF, qG, reduceIte, reduceCtorEq, qH, qI, qJ, ↓avp_condG, ↓tf_arrow, ↓ft_arrow, hlen, hone, hc, h0, hx0, hx1, hi1, hr, pick_of, gt_iff_lt, false_implies]
    intro g6 hg6
    refine hh g6 hg6 _ fun v' S' h => ?_
    exact hQ v' S' h _ (wk_to fewer_refl (by simp only [vP.down, vS.down, vE.down, qA, qB, qC, qD, qE, qF, qG, reduceIte, reduceCtorEq, qH, qI, qJ, ↓avp_condG, ↓tf_arrow, ↓ft_arrow, wP.down]))
  obtain ⟨n, hn⟩ : ∃ n, o.length = n + 1 := ⟨o.length - 1, by omega⟩
  have hix : IntKind.i64.wrap (((n + 1 : Nat) : Int) - 1) = (n : Int) := by rw [IntWalk.i64_in _ (by omega)]; omega
  have hll : (o.map Cell.enc).length = n + 1 := by rw [List.length_map, hn]
  have hrg : (o.map Cell.enc).getD n [] = [.int .i64 (o.getD n default).From, .int .i64 (o.getD n default).To] := by
    rw [row_get (by omega)]; rfl
  have hin : n < n + 1 := by omega
  have hin' : (n : Int) < ((n + 1 : Nat) : Int) := by omega
  have hn0 : (0 : Int) ≤ (n : Int) := by omega
  have hc : (0 : Int) < ((n + 1 : Nat) : Int) := by omega
  rw [hn] at hlen
  by_cases c1 : (o.getD n default).To = a
  · simp only [vP.down, vS.down, vE.down, qA, qB, qC, qD, qE, qF, qG, reduceIte, reduceCtorEq, qH, qI, qJ, ↓avp_condG, ↓tf_arrow, ↓ft_arrow, hlen, hone, hc, gt_iff_lt, cw, hix, hn, hx0, hx1, hi1, hr, hll, hin, hin', hn0, hrg, c1, pick_ot, false_implies]
    have hb : behindL o ⟨a, b⟩ = o.set n ⟨(o.getD n default).From, b⟩ := by
      rw [behindL, hn, Nat.add_sub_cancel, if_pos ⟨by omega, c1⟩]
    have epr : putRow (o.map Cell.enc) n 1 [.int .i64 b] = (behindL o ⟨a, b⟩).map Cell.enc := by
      rw [hb, List.map_set, putRow, hrg]
      rfl
    rw [epr]
    have hlb : (behindL o ⟨a, b⟩).length = n + 1 := by rw [hb, List.length_set, hn]
    refine ⟨by simp, ?_⟩
    refine hQ (.tok g 2 0 (n + 1)) (S.set g (some (.row 2 ((behindL o ⟨a, b⟩).map Cell.enc) false))) (.inr ⟨g, by rw [hlb]; rfl, Store.set_same _ _ _⟩) _ ?_
    exact wk_to fewer_refl (by simp only [vP.down, vS.down, vE.down, qA, qB, qC, qD, qE, qF, qG, reduceIte, reduceCtorEq, qH, qI, qJ, ↓avp_condG, ↓tf_arrow, ↓ft_arrow, wP.down])
  · have hb : behindL o ⟨a, b⟩ = o ++ [⟨a, b⟩] := by rw [behindL, hn, Nat.add_sub_cancel, if_neg (fun h => c1 h.2)]
    have hh := happ hb
    rw [hn] at hh
    simp only [vP.down, vS.down, vE.down, qA, qB, qC, qD, qE, qF, qG, reduceIte, reduceCtorEq, qH, qI, qJ, ↓avp_condG, ↓tf_arrow, ↓ft_arrow, hlen, hone, hc, gt_iff_lt, cw, hix, hn, hx0, hx1, hi1, hr, hll, hin, hin', hn0, hrg, c1, pick_ot, false_implies]
    intro g6 hg6
    refine hh g6 hg6 _ fun v' S' h => ?_
    exact hQ v' S' h _ (wk_to fewer_refl (by simp only [vP.down, vS.down, vE.down, qA, qB, qC, qD, qE, qF, qG, reduceIte, reduceCtorEq, qH, qI, qJ, ↓avp_condG, ↓tf_arrow, ↓ft_arrow, wP.down]))
def A_ref8_put := Arms.cons (argT (List TRun)) (Arms.cons (argT (List TRun)) (Arms.cons (argT Int) Arms.nil))
def p_ref8_put (x : List TRun × List TRun × Int × Unit) : Prop := x.1.length + x.2.1.length ≤ 1099511627 ∧ (x.2.2.1 = 0 ∨ x.2.2.1 = 1 ∨ x.2.2.1 = 2)
def r_ref8_put (x : List TRun × List TRun × Int × Unit) : AV := .t (sl (putR x.2.2.1 x.1 x.2.1))
theorem endsL_len {l m : List TRun} : (endsL l m).length ≤ 2 * (l.length + m.length) := by
  have h1 := fold_len (l := m) (o := l.foldl rise2 [])
  have h2 := fold_len (l := l) (o := [])
  rw [List.length_nil] at h2
  unfold endsL; omega
set_option maxRecDepth 100000 in
set_option maxHeartbeats 4000000 in
theorem body_ref8_put (x : List TRun × List TRun × Int × Unit) (hp : p_ref8_put x) : avp K_ref8_put G_ref8_put (Ret K_ref8_put [.tmp 6] fun v s' => Frz s' v (r_ref8_put x)) (entry (A_ref8_put.enc x) .empty) := by
  obtain ⟨l, m, h, ⟨⟩⟩ := x
  obtain ⟨hp, hh⟩ : l.length + m.length ≤ 1099511627 ∧ (h = 0 ∨ h = 1 ∨ h = 2) := hp
  change avp _ _ (Ret _ _ fun v s' => Frz1 s' v (sl (putR h l m))) (entry [.t (sl l), .t (sl m), .t (.int .i64 h)] .empty)
  unfold G_ref8_put
  simp only [vP.down, vS.down, vE.down, qA, qB, qC, qD, qE, qF, qG, reduceIte, reduceCtorEq, qH, qI, qJ, ↓avp_condG, ↓tf_arrow, ↓ft_arrow, hp, k_ref8_put_ref8_ends.down, A_ref8_ends, p_ref8_ends, r_ref8_ends]
  obtain ⟨e, he⟩ : ∃ e, e = endsL l m := ⟨_, rfl⟩
  have hel := endsL_len (l := l) (m := m)
  rw [← he] at hel
  have hW : putR h l m = whG (hop h) l m (e.drop 0) [] := by rw [he]; rfl
  rw [← he]
  have hll : l.length < 4611686018427387904 := by omega
  have hml : m.length < 4611686018427387904 := by omega
  refine loop_weak hm_ref8_put (fun k σ => ∃ (i : Nat) (o : List TRun) (v : AV) (S : Store), k = e.length - i ∧ i ≤ 2 * (l.length + m.length) ∧ o.length ≤ i ∧ putR h l m = whG (hop h) l m (e.drop i) o ∧ OW S v o ∧
      σ = mkS [(0, .t (sl l)), (1, .t (sl m)), (2, .t (.int .i64 h)), (7, .t (sl e)), (8, v), (9, .t (.int .i64 (i : Nat)))] S)
    ⟨0, [], .t .nilS, .empty, rfl, by omega, by simp, hW, .inl ⟨rfl, rfl⟩, rfl⟩ (wk_to fewer_refl (by simp only [vP.down, vS.down, vE.down, qA, qB, qC, qD, qE, qF, qG, reduceIte, reduceCtorEq, qH, qI, qJ, ↓avp_condG, ↓tf_arrow, ↓ft_arrow, wP.down, Int.natCast_zero])) ?_
  rintro k _ ⟨i, o, v, S, rfl, hi, ho, hW, hv, rfl⟩
  have hi1 : IntKind.i64.wrap ((i : Int) + 1) = ((i + 1 : Nat) : Int) := by rw [IntWalk.i64_in _ (by omega)]; rfl
  by_cases hlt : i + 1 < e.length
  case neg =>
    have hge : ¬ (((i + 1 : Nat) : Int) < (e.length : Int)) := by omega
    rw [whG_end (by omega)] at hW
    simp only [vP.down, vS.down, vE.down, qA, qB, qC, qD, qE, qF, qG, reduceIte, reduceCtorEq, qH, qI, qJ, ↓avp_condG, ↓tf_arrow, ↓ft_arrow, hge, hi1]
    simp only [vP.down, vS.down, vE.down, qA, qB, qC, qD, qE, qF, qG, reduceIte, reduceCtorEq, qH, qI, qJ, ↓avp_condG, ↓tf_arrow, ↓ft_arrow, vT.down]
    rw [hW]
    exact hv.lv.frz
  have hlt' : ((i + 1 : Nat) : Int) < (e.length : Int) := by omega
  have hx0 := idx_at (C := K_ref8_put) (l := e) ty_Lint ty_int rfl (by omega : i < e.length) .i64
  have hst := whG_step (f := hop h) (l := l) (m := m) (o := o) hlt
  have hsl := stepW_len (f := hop h) (l := l) (m := m) (o := o) (a := e.getD i default) (b := e.getD (i + 1) default)
  obtain ⟨p, hpp⟩ : ∃ p, p = hasR l (e.getD i default) := ⟨_, rfl⟩
  obtain ⟨q, hqq⟩ : ∃ q, q = hasR m (e.getD i default) := ⟨_, rfl⟩
  simp only [vP.down, vS.down, vE.down, qA, qB, qC, qD, qE, qF, qG, reduceIte, reduceCtorEq, qH, qI, qJ, ↓avp_condG, ↓tf_arrow, ↓ft_arrow, hlt', hi1, hx0, hll, hml, ← hpp, ← hqq, k_ref8_put_ref8_Has.down, A_ref8_Has, p_ref8_Has, r_ref8_Has]
  refine weak_at [(0, .t (sl l)), (1, .t (sl m)), (2, .t (.int .i64 h)), (7, .t (sl e)), (8, v), (9, .t (.int .i64 (i : Nat))), (10, .t (.bool p)), (11, .t (.bool q))] S fewer_refl (by simp only [vP.down, vS.down, vE.down, qA, qB, qC, qD, qE, qF, qG, reduceIte, reduceCtorEq, qH, qI, qJ, ↓avp_condG, ↓tf_arrow, ↓ft_arrow, wP.down]) ?_
  clear hx0
  have hz : ((h = 0) = True ∧ (h = 1) = False ∧ (h = 2) = False) ∨ ((h = 0) = False ∧ (h = 1) = True ∧ (h = 2) = False) ∨ ((h = 0) = False ∧ (h = 1) = False ∧ (h = 2) = True) := by
    simp only [eq_iff_iff, iff_true, iff_false]
    omega
  rcases hz with ⟨e0, e1, e2⟩ | ⟨e0, e1, e2⟩ | ⟨e0, e1, e2⟩ <;> cases p <;> cases q
  all_goals
    simp only [vP.down, vS.down, vE.down, qA, qB, qC, qD, qE, qF, qG, reduceIte, reduceCtorEq, qH, qI, qJ, ↓avp_condG, ↓tf_arrow, ↓ft_arrow, pick_of, pick_ot, e0, e1, e2, false_implies]
    first
    | rw [stepW, ← hpp, ← hqq, if_neg (by simp [hop, e0, e1, e2])] at hst hsl
      refine weak_at [(0, .t (sl l)), (1, .t (sl m)), (2, .t (.int .i64 h)), (7, .t (sl e)), (8, v), (9, .t (.int .i64 (i : Nat)))] S fewer_refl (by simp only [vP.down, vS.down, vE.down, qA, qB, qC, qD, qE, qF, qG, reduceIte, reduceCtorEq, qH, qI, qJ, ↓avp_condG, ↓tf_arrow, ↓ft_arrow, wP.down]) ?_
      simp only [vP.down, vS.down, vE.down, qA, qB, qC, qD, qE, qF, qG, reduceIte, reduceCtorEq, qH, qI, qJ, ↓avp_condG, ↓tf_arrow, ↓ft_arrow]
      exact round_to (e.length - (i + 1)) [(0, .t (sl l)), (1, .t (sl m)), (2, .t (.int .i64 h)), (7, .t (sl e)), (8, v), (9, .t (.int .i64 (i + 1 : Nat)))] S (by omega) fewer_refl (by simp only [vP.down, vS.down, vE.down, qA, qB, qC, qD, qE, qF, qG, reduceIte, reduceCtorEq, qH, qI, qJ, ↓avp_condG, ↓tf_arrow, ↓ft_arrow, wP.down, hi1]) ⟨i + 1, _, v, S, rfl, by omega, by omega, hW.trans hst, hv, rfl⟩
    | refine put_7 (l := l) (m := m) (h := h) hlt (by omega) (by omega) hv (wk_to fewer_refl (by simp only [vP.down, vS.down, vE.down, qA, qB, qC, qD, qE, qF, qG, reduceIte, reduceCtorEq, qH, qI, qJ, ↓avp_condG, ↓tf_arrow, ↓ft_arrow, wP.down])) fun v' S' hv' σf hσf => ?_
      rw [stepW, ← hpp, ← hqq, if_pos (by simp [hop, e0, e1, e2])] at hst hsl
      simp only [Exit.inBlockA, Exit.thenA, avp_seq]
      refine ⟨_, hσf, ?_⟩
      simp only [vP.down, vS.down, vE.down, qA, qB, qC, qD, qE, qF, qG, reduceIte, reduceCtorEq, qH, qI, qJ, ↓avp_condG, ↓tf_arrow, ↓ft_arrow]
      exact round_to (e.length - (i + 1)) [(0, .t (sl l)), (1, .t (sl m)), (2, .t (.int .i64 h)), (7, .t (sl e)), (8, v'), (9, .t (.int .i64 (i + 1 : Nat)))] S' (by omega) fewer_refl (by simp only [vP.down, vS.down, vE.down, qA, qB, qC, qD, qE, qF, qG, reduceIte, reduceCtorEq, qH, qI, qJ, ↓avp_condG, ↓tf_arrow, ↓ft_arrow, wP.down, hi1]) ⟨i + 1, _, v', S', rfl, by omega, by omega, hW.trans hst, hv', rfl⟩
noncomputable def c_ref8_put : Con := fnCon A_ref8_put p_ref8_put r_ref8_put
theorem ok_ref8_put : COk Try.prog 50 c_ref8_put := fn_ok sys_ref8_put mixed Try.func50 (by kernel_rfl) geq_ref8_put Try.ntmps50 (by rw [Try.results50]) fun x hx => ⟨Nat.le_of_ble_eq_true rfl, body_ref8_put x hx⟩
end Go.Proofs.Ytofcmdkmhbbbjaa
