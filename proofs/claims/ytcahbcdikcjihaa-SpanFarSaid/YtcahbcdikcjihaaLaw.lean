/-
  A run from one of some numbers to another.
-/
import Derived.Test.YtcahbcdikcjihaaFnsC
set_option linter.unusedSimpArgs false
set_option linter.unusedVariables false
namespace Go.Proofs.Ytcahbcdikcjihaa
open Go Go.Eng
def G_law8_run : GCode := .seq (.region [⟨(some 6), none, .assign (.const (.slice none 0 0))⟩]) (.seq (.region [⟨(some 7), none, .move (.tmp 0)⟩, ⟨(some 8), none, .move (.tmp 1)⟩, ⟨(some 9), none, .indexAddr 24 (.tmp 7) (.tmp 8)⟩, ⟨(some 10), none, .load 3 (.tmp 9)⟩, ⟨(some 11), none, .move (.tmp 0)⟩, ⟨(some 12), none, .move (.tmp 2)⟩, ⟨(some 13), none, .indexAddr 24 (.tmp 11) (.tmp 12)⟩, ⟨(some 14), none, .load 3 (.tmp 13)⟩, ⟨(some 15), none, .build 31 #[(0, .tmp 10), (1, .tmp 14)]⟩, ⟨(some 16), none, .buildSlice 23 1 #[(0, .tmp 15)]⟩, ⟨(some 6), none, .assign (.tmp 16)⟩]) (.ret))
noncomputable def l_law8_run : List (Nat × Con) := []
noncomputable abbrev K_law8_run : Ctx := ctx (cl l_law8_run)
theorem geq_law8_run : gof K_law8_run Try.f32 = some G_law8_run.strip := by kernel_rfl
theorem sys_law8_run : Go.Eng.Sys Try.prog K_law8_run := sys_of' (l := []) trivial
theorem hm_law8_run : ConMono K_law8_run := conMono_of sys_law8_run.con
def A_law8_run := Arms.cons (argT (List Int)) (Arms.cons (argT Int) (Arms.cons (argT Int) Arms.nil))
def p_law8_run (x : List Int × Int × Int × Unit) : Prop := (0 ≤ x.2.1 ∧ x.2.1 < (x.1.length : Int)) ∧ 0 ≤ x.2.2.1 ∧ x.2.2.1 < (x.1.length : Int)
def r_law8_run (x : List Int × Int × Int × Unit) : AV := .t (sl [(⟨x.1.getD x.2.1.toNat default, x.1.getD x.2.2.1.toNat default⟩ : TRun)])
set_option maxRecDepth 10000 in
theorem body_law8_run (x : List Int × Int × Int × Unit) (hp : p_law8_run x) : avp K_law8_run G_law8_run (Ret K_law8_run [.tmp 6] fun v s' => Frz s' v (r_law8_run x)) (entry (A_law8_run.enc x) .empty) := by
  obtain ⟨l, i, k, ⟨⟩⟩ := x
  obtain ⟨⟨h1, h2⟩, h3, h4⟩ : (0 ≤ i ∧ i < (l.length : Int)) ∧ 0 ≤ k ∧ k < (l.length : Int) := hp
  obtain ⟨i, rfl⟩ : ∃ n : Nat, i = n := ⟨i.toNat, by omega⟩
  obtain ⟨k, rfl⟩ : ∃ n : Nat, k = n := ⟨k.toNat, by omega⟩
  change avp _ _ (Ret _ _ fun v s' => Frz1 s' v (sl [(⟨l.getD i default, l.getD k default⟩ : TRun)])) (entry [.t (sl l), .t (.int .i64 (i : Nat)), .t (.int .i64 (k : Nat))] .empty)
  unfold G_law8_run
  have hx0 := idx_at (C := K_law8_run) (l := l) (i := i) ty_Lint ty_int rfl (by omega) .i64
  have hx1 := idx_at (C := K_law8_run) (l := l) (i := k) ty_Lint ty_int rfl (by omega) .i64
  obtain ⟨a, ha⟩ : ∃ a, a = l.getD i default := ⟨_, rfl⟩
  obtain ⟨b, hb⟩ : ∃ b, b = l.getD k default := ⟨_, rfl⟩
  rw [← ha] at hx0 ⊢
  rw [← hb] at hx1 ⊢
  simp only [vP.down, vS.down, vE.down, Nat.reduceEqDiff, Nat.reduceAdd, Nat.reduceSub, Nat.reduceMul, Nat.reduceLeDiff, Nat.reduceLT, Int.reduceToNat, reduceIte, reduceCtorEq, Int.reduceEq, Int.reduceLT, Int.reduceLE, ↓avp_condG, ↓tf_arrow, ↓ft_arrow, hx0, hx1]
  intro g hg
  simp only [vP.down, vS.down, vE.down, Nat.reduceEqDiff, Nat.reduceAdd, Nat.reduceSub, Nat.reduceMul, Nat.reduceLeDiff, Nat.reduceLT, Int.reduceToNat, reduceIte, reduceCtorEq, Int.reduceEq, Int.reduceLT, Int.reduceLE, ↓avp_condG, ↓tf_arrow, ↓ft_arrow, vT.down]
  have hv : LV (Store.empty.set g (some (.row 2 [[.int .i64 a, .int .i64 b]] false))) (.tok g 2 0 1) [(⟨a, b⟩ : TRun)] := lv_at (α := TRun) (l := [⟨a, b⟩]) (ro := false) rfl (Store.set_same _ _ _)
  exact hv.frz
noncomputable def c_law8_run : Con := fnCon A_law8_run p_law8_run r_law8_run
theorem ok_law8_run : COk Try.prog 32 c_law8_run := fn_ok sys_law8_run mixed Try.func32 (by kernel_rfl) geq_law8_run Try.ntmps32 (by rw [Try.results32]) fun x hx => ⟨Nat.le_of_ble_eq_true rfl, body_law8_run x hx⟩
end Go.Proofs.Ytcahbcdikcjihaa


namespace Go.Proofs.Ytcahbcdikcjihaa
open Go Go.Eng
/-- How far four numbers are sorted: behind i passes and j steps. -/
def Bub (i j : Nat) (a b c d : Int) : Prop :=
  (1 ≤ i → a ≤ d ∧ b ≤ d ∧ c ≤ d) ∧ (2 ≤ i → a ≤ c ∧ b ≤ c) ∧ (3 ≤ i → a ≤ b) ∧ (j = 1 ∨ (1 ≤ j ∧ 2 ≤ i) → a ≤ b) ∧ (j = 2 ∨ (j = 3 ∧ 1 ≤ i) → a ≤ c ∧ b ≤ c) ∧ (j = 3 → a ≤ d ∧ b ≤ d ∧ c ≤ d)
def In30 (a b c d : Int) : Prop := (0 ≤ a ∧ a ≤ 1073741824) ∧ (0 ≤ b ∧ b ≤ 1073741824) ∧ (0 ≤ c ∧ c ≤ 1073741824) ∧ 0 ≤ d ∧ d ≤ 1073741824
theorem bub_0 {i : Nat} {a b c d : Int} (h : Bub i 0 a b c d) : Bub i 1 (min a b) (max a b) c d := by
  unfold Bub at *; omega
theorem bub_1 {i : Nat} {a b c d : Int} (h : Bub i 1 a b c d) : Bub i 2 a (min b c) (max b c) d := by
  unfold Bub at *; omega
theorem bub_2 {i : Nat} {a b c d : Int} (h : Bub i 2 a b c d) : Bub i 3 a b (min c d) (max c d) := by
  unfold Bub at *; omega
theorem bub_n {i : Nat} {a b c d : Int} (h : Bub i 3 a b c d) : Bub (i + 1) 0 a b c d := by
  unfold Bub at *; omega
theorem bub_e {a b c d : Int} (h : Bub 4 0 a b c d) : a ≤ b ∧ b ≤ c ∧ c ≤ d := by
  unfold Bub at *; omega
/-- Two swapped, or not. -/
theorem mm (a b : Int) : (b < a → min a b = b ∧ max a b = a) ∧ (¬ b < a → min a b = a ∧ max a b = b) := by omega
theorem f_eq {l m : List TRun} {h : How} {n : List TRun} (hn : Nf n) (e : ∀ i, (h.op (hasR l i) (hasR m i)) = hasR n i) : (whereL h l m = n) = True := w_ext hn e
theorem nf_two {a b c d : Int} (h1 : a < b) (h2 : b < c) (h3 : c < d) : Nf [⟨a, b⟩, ⟨c, d⟩] :=
  ⟨List.pairwise_cons.2 ⟨fun y hy => by rw [List.mem_singleton.1 hy]; exact h2, List.pairwise_singleton ..⟩, fun r hr => by
    simp only [List.mem_cons, List.not_mem_nil, or_false] at hr
    rcases hr with rfl | rfl
    · exact h1
    · exact h3⟩
def G_law8_SpanFar_15 : GCode := .seq (.seq .weak (.region [⟨(some 102), none, .move (.tmp 12)⟩, ⟨(some 103), none, .call ⟨.value (.func 13), #[.tmp 102], #[23]⟩⟩, ⟨(some 104), none, .move (.tmp 103)⟩, ⟨(some 105), (some (104, true)), .move (.tmp 9)⟩, ⟨(some 106), (some (104, true)), .call ⟨.value (.func 32), #[.tmp 105, .const (.int .i64 0), .const (.int .i64 3)], #[24, 3, 3]⟩⟩, ⟨(some 107), (some (104, true)), .move (.tmp 9)⟩, ⟨(some 108), (some (104, true)), .call ⟨.value (.func 32), #[.tmp 107, .const (.int .i64 1), .const (.int .i64 2)], #[24, 3, 3]⟩⟩, ⟨(some 109), (some (104, true)), .call ⟨.value (.func 18), #[.tmp 106, .tmp 108], #[23, 23]⟩⟩, ⟨(some 110), (some (104, true)), .move (.tmp 12)⟩, ⟨(some 111), (some (104, true)), .call ⟨.value (.func 15), #[.tmp 109, .tmp 110], #[23, 23]⟩⟩, ⟨(some 112), none, .pick (.tmp 104) (.tmp 111) (.const (.bool false))⟩, ⟨(some 113), none, .move (.tmp 112)⟩, ⟨(some 114), (some (113, true)), .move (.tmp 9)⟩, ⟨(some 115), (some (113, true)), .call ⟨.value (.func 32), #[.tmp 114, .const (.int .i64 0), .const (.int .i64 3)], #[24, 3, 3]⟩⟩, ⟨(some 116), (some (113, true)), .move (.tmp 9)⟩, ⟨(some 117), (some (113, true)), .call ⟨.value (.func 32), #[.tmp 116, .const (.int .i64 1), .const (.int .i64 2)], #[24, 3, 3]⟩⟩, ⟨(some 118), (some (113, true)), .call ⟨.value (.func 20), #[.tmp 115, .tmp 117], #[23, 23]⟩⟩, ⟨(some 119), (some (113, true)), .move (.tmp 9)⟩, ⟨(some 120), (some (113, true)), .call ⟨.value (.func 32), #[.tmp 119, .const (.int .i64 1), .const (.int .i64 2)], #[24, 3, 3]⟩⟩, ⟨(some 121), (some (113, true)), .call ⟨.value (.func 15), #[.tmp 118, .tmp 120], #[23, 23]⟩⟩, ⟨(some 122), none, .pick (.tmp 113) (.tmp 121) (.const (.bool false))⟩, ⟨(some 123), none, .move (.tmp 122)⟩, ⟨(some 124), (some (123, true)), .move (.tmp 9)⟩, ⟨(some 125), (some (123, true)), .call ⟨.value (.func 32), #[.tmp 124, .const (.int .i64 0), .const (.int .i64 2)], #[24, 3, 3]⟩⟩, ⟨(some 126), (some (123, true)), .move (.tmp 9)⟩, ⟨(some 127), (some (123, true)), .call ⟨.value (.func 32), #[.tmp 126, .const (.int .i64 1), .const (.int .i64 3)], #[24, 3, 3]⟩⟩, ⟨(some 128), (some (123, true)), .call ⟨.value (.func 16), #[.tmp 125, .tmp 127], #[23, 23]⟩⟩, ⟨(some 129), (some (123, true)), .move (.tmp 9)⟩, ⟨(some 130), (some (123, true)), .call ⟨.value (.func 32), #[.tmp 129, .const (.int .i64 0), .const (.int .i64 3)], #[24, 3, 3]⟩⟩, ⟨(some 131), (some (123, true)), .call ⟨.value (.func 15), #[.tmp 128, .tmp 130], #[23, 23]⟩⟩, ⟨(some 132), none, .pick (.tmp 123) (.tmp 131) (.const (.bool false))⟩, ⟨(some 133), none, .move (.tmp 132)⟩, ⟨(some 134), (some (133, true)), .move (.tmp 9)⟩, ⟨(some 135), (some (133, true)), .call ⟨.value (.func 32), #[.tmp 134, .const (.int .i64 0), .const (.int .i64 1)], #[24, 3, 3]⟩⟩, ⟨(some 136), (some (133, true)), .move (.tmp 9)⟩, ⟨(some 137), (some (133, true)), .call ⟨.value (.func 32), #[.tmp 136, .const (.int .i64 1), .const (.int .i64 2)], #[24, 3, 3]⟩⟩, ⟨(some 138), (some (133, true)), .call ⟨.value (.func 16), #[.tmp 135, .tmp 137], #[23, 23]⟩⟩, ⟨(some 139), (some (133, true)), .move (.tmp 9)⟩, ⟨(some 140), (some (133, true)), .call ⟨.value (.func 32), #[.tmp 139, .const (.int .i64 0), .const (.int .i64 2)], #[24, 3, 3]⟩⟩, ⟨(some 141), (some (133, true)), .call ⟨.value (.func 15), #[.tmp 138, .tmp 140], #[23, 23]⟩⟩, ⟨(some 142), none, .pick (.tmp 133) (.tmp 141) (.const (.bool false))⟩, ⟨(some 143), none, .move (.tmp 142)⟩, ⟨(some 144), (some (143, true)), .move (.tmp 12)⟩, ⟨(some 145), (some (143, true)), .move (.tmp 9)⟩, ⟨(some 146), (some (143, true)), .call ⟨.value (.func 32), #[.tmp 145, .const (.int .i64 1), .const (.int .i64 2)], #[24, 3, 3]⟩⟩, ⟨(some 147), (some (143, true)), .call ⟨.value (.func 16), #[.tmp 144, .tmp 146], #[23, 23]⟩⟩, ⟨(some 148), (some (143, true)), .move (.tmp 9)⟩, ⟨(some 149), (some (143, true)), .call ⟨.value (.func 32), #[.tmp 148, .const (.int .i64 0), .const (.int .i64 3)], #[24, 3, 3]⟩⟩, ⟨(some 150), (some (143, true)), .call ⟨.value (.func 15), #[.tmp 147, .tmp 149], #[23, 23]⟩⟩, ⟨(some 151), none, .pick (.tmp 143) (.tmp 150) (.const (.bool false))⟩, ⟨(some 152), none, .move (.tmp 151)⟩, ⟨(some 153), (some (152, true)), .move (.tmp 9)⟩, ⟨(some 154), (some (152, true)), .call ⟨.value (.func 32), #[.tmp 153, .const (.int .i64 0), .const (.int .i64 2)], #[24, 3, 3]⟩⟩, ⟨(some 155), (some (152, true)), .move (.tmp 9)⟩, ⟨(some 156), (some (152, true)), .call ⟨.value (.func 32), #[.tmp 155, .const (.int .i64 1), .const (.int .i64 3)], #[24, 3, 3]⟩⟩, ⟨(some 157), (some (152, true)), .call ⟨.value (.func 18), #[.tmp 154, .tmp 156], #[23, 23]⟩⟩, ⟨(some 158), (some (152, true)), .move (.tmp 9)⟩, ⟨(some 159), (some (152, true)), .call ⟨.value (.func 32), #[.tmp 158, .const (.int .i64 0), .const (.int .i64 1)], #[24, 3, 3]⟩⟩, ⟨(some 160), (some (152, true)), .call ⟨.value (.func 15), #[.tmp 157, .tmp 159], #[23, 23]⟩⟩, ⟨(some 161), none, .pick (.tmp 152) (.tmp 160) (.const (.bool false))⟩, ⟨(some 162), none, .move (.tmp 161)⟩, ⟨(some 163), (some (162, true)), .move (.tmp 12)⟩, ⟨(some 164), (some (162, true)), .call ⟨.value (.func 22), #[.tmp 163], #[23]⟩⟩, ⟨(some 165), (some (162, true)), .move (.tmp 9)⟩, ⟨(some 166), (some (162, true)), .indexAddr 24 (.tmp 165) (.const (.int .i64 1))⟩, ⟨(some 167), (some (162, true)), .load 3 (.tmp 166)⟩, ⟨(some 168), (some (162, true)), .move (.tmp 9)⟩, ⟨(some 169), (some (162, true)), .indexAddr 24 (.tmp 168) (.const (.int .i64 0))⟩, ⟨(some 170), (some (162, true)), .load 3 (.tmp 169)⟩, ⟨(some 171), (some (162, true)), .binOp .sub 3 (.tmp 167) (.tmp 170) 3⟩, ⟨(some 172), (some (162, true)), .move (.tmp 9)⟩, ⟨(some 173), (some (162, true)), .indexAddr 24 (.tmp 172) (.const (.int .i64 3))⟩, ⟨(some 174), (some (162, true)), .load 3 (.tmp 173)⟩, ⟨(some 175), (some (162, true)), .binOp .add 3 (.tmp 171) (.tmp 174) 3⟩, ⟨(some 176), (some (162, true)), .move (.tmp 9)⟩, ⟨(some 177), (some (162, true)), .indexAddr 24 (.tmp 176) (.const (.int .i64 2))⟩, ⟨(some 178), (some (162, true)), .load 3 (.tmp 177)⟩, ⟨(some 179), (some (162, true)), .binOp .sub 3 (.tmp 175) (.tmp 178) 3⟩, ⟨(some 180), (some (162, true)), .binOp .eql 3 (.tmp 164) (.tmp 179) 3⟩, ⟨(some 181), none, .pick (.tmp 162) (.tmp 180) (.const (.bool false))⟩, ⟨(some 182), none, .move (.tmp 181)⟩, ⟨(some 183), (some (182, true)), .move (.tmp 12)⟩, ⟨(some 184), (some (182, true)), .move (.tmp 9)⟩, ⟨(some 185), (some (182, true)), .indexAddr 24 (.tmp 184) (.const (.int .i64 0))⟩, ⟨(some 186), (some (182, true)), .load 3 (.tmp 185)⟩, ⟨(some 187), (some (182, true)), .call ⟨.value (.func 25), #[.tmp 183, .tmp 186], #[23, 3]⟩⟩, ⟨(some 188), none, .pick (.tmp 182) (.tmp 187) (.const (.bool false))⟩, ⟨(some 189), none, .move (.tmp 188)⟩, ⟨(some 190), (some (189, true)), .move (.tmp 12)⟩, ⟨(some 191), (some (189, true)), .move (.tmp 9)⟩, ⟨(some 192), (some (189, true)), .indexAddr 24 (.tmp 191) (.const (.int .i64 1))⟩, ⟨(some 193), (some (189, true)), .load 3 (.tmp 192)⟩, ⟨(some 194), (some (189, true)), .call ⟨.value (.func 25), #[.tmp 190, .tmp 193], #[23, 3]⟩⟩, ⟨(some 195), (some (189, true)), .unOp .not 4 (.tmp 194)⟩, ⟨(some 196), none, .pick (.tmp 189) (.tmp 195) (.const (.bool false))⟩, ⟨(some 197), none, .move (.tmp 196)⟩, ⟨(some 198), (some (197, true)), .move (.tmp 12)⟩, ⟨(some 199), (some (197, true)), .move (.tmp 9)⟩, ⟨(some 200), (some (197, true)), .indexAddr 24 (.tmp 199) (.const (.int .i64 3))⟩, ⟨(some 201), (some (197, true)), .load 3 (.tmp 200)⟩, ⟨(some 202), (some (197, true)), .binOp .sub 3 (.tmp 201) (.const (.int .i64 1)) 3⟩, ⟨(some 203), (some (197, true)), .call ⟨.value (.func 25), #[.tmp 198, .tmp 202], #[23, 3]⟩⟩, ⟨(some 204), none, .pick (.tmp 197) (.tmp 203) (.const (.bool false))⟩, ⟨(some 205), none, .move (.tmp 204)⟩, ⟨(some 206), (some (205, true)), .move (.tmp 12)⟩, ⟨(some 207), (some (205, true)), .move (.tmp 9)⟩, ⟨(some 208), (some (205, true)), .indexAddr 24 (.tmp 207) (.const (.int .i64 3))⟩, ⟨(some 209), (some (205, true)), .load 3 (.tmp 208)⟩, ⟨(some 210), (some (205, true)), .call ⟨.value (.func 25), #[.tmp 206, .tmp 209], #[23, 3]⟩⟩, ⟨(some 211), (some (205, true)), .unOp .not 4 (.tmp 210)⟩, ⟨(some 212), none, .pick (.tmp 205) (.tmp 211) (.const (.bool false))⟩, ⟨(some 8), none, .assign (.tmp 212)⟩])) (.ret)
def G_law8_SpanFar_12 : GCode := .seq (.seq (.seq .weak (.region [⟨(some 62), none, .move (.tmp 9)⟩, ⟨(some 63), none, .indexAddr 24 (.tmp 62) (.const (.int .i64 0))⟩, ⟨(some 64), none, .load 3 (.tmp 63)⟩, ⟨(some 65), none, .move (.tmp 9)⟩, ⟨(some 66), none, .indexAddr 24 (.tmp 65) (.const (.int .i64 1))⟩, ⟨(some 67), none, .load 3 (.tmp 66)⟩, ⟨(some 68), none, .binOp .eql 3 (.tmp 64) (.tmp 67) 3⟩, ⟨(some 69), none, .move (.tmp 68)⟩, ⟨(some 70), (some (69, false)), .move (.tmp 9)⟩, ⟨(some 71), (some (69, false)), .indexAddr 24 (.tmp 70) (.const (.int .i64 1))⟩, ⟨(some 72), (some (69, false)), .load 3 (.tmp 71)⟩, ⟨(some 73), (some (69, false)), .move (.tmp 9)⟩, ⟨(some 74), (some (69, false)), .indexAddr 24 (.tmp 73) (.const (.int .i64 2))⟩, ⟨(some 75), (some (69, false)), .load 3 (.tmp 74)⟩, ⟨(some 76), (some (69, false)), .binOp .eql 3 (.tmp 72) (.tmp 75) 3⟩, ⟨(some 77), none, .pick (.tmp 69) (.const (.bool true)) (.tmp 76)⟩, ⟨(some 78), none, .move (.tmp 77)⟩, ⟨(some 79), (some (78, false)), .move (.tmp 9)⟩, ⟨(some 80), (some (78, false)), .indexAddr 24 (.tmp 79) (.const (.int .i64 2))⟩, ⟨(some 81), (some (78, false)), .load 3 (.tmp 80)⟩, ⟨(some 82), (some (78, false)), .move (.tmp 9)⟩, ⟨(some 83), (some (78, false)), .indexAddr 24 (.tmp 82) (.const (.int .i64 3))⟩, ⟨(some 84), (some (78, false)), .load 3 (.tmp 83)⟩, ⟨(some 85), (some (78, false)), .binOp .eql 3 (.tmp 81) (.tmp 84) 3⟩, ⟨(some 86), none, .pick (.tmp 78) (.const (.bool true)) (.tmp 85)⟩])) (.cond (.tmp 86) (.seq (.region [⟨(some 8), none, .assign (.const (.bool true))⟩]) (.ret)) (.skip))) (.seq (.seq .weak (.region [⟨(some 87), none, .move (.tmp 9)⟩, ⟨(some 88), none, .indexAddr 24 (.tmp 87) (.const (.int .i64 0))⟩, ⟨(some 89), none, .load 3 (.tmp 88)⟩, ⟨(some 90), none, .move (.tmp 9)⟩, ⟨(some 91), none, .indexAddr 24 (.tmp 90) (.const (.int .i64 1))⟩, ⟨(some 92), none, .load 3 (.tmp 91)⟩, ⟨(some 93), none, .build 31 #[(0, .tmp 89), (1, .tmp 92)]⟩, ⟨(some 94), none, .move (.tmp 9)⟩, ⟨(some 95), none, .indexAddr 24 (.tmp 94) (.const (.int .i64 2))⟩, ⟨(some 96), none, .load 3 (.tmp 95)⟩, ⟨(some 97), none, .move (.tmp 9)⟩, ⟨(some 98), none, .indexAddr 24 (.tmp 97) (.const (.int .i64 3))⟩, ⟨(some 99), none, .load 3 (.tmp 98)⟩, ⟨(some 100), none, .build 31 #[(0, .tmp 96), (1, .tmp 99)]⟩, ⟨(some 101), none, .buildSlice 23 2 #[(0, .tmp 93), (1, .tmp 100)]⟩, ⟨(some 12), none, .assign (.tmp 101)⟩])) (G_law8_SpanFar_15))
def G_law8_SpanFar : GCode := .seq (.region [⟨(some 8), none, .assign (.const (.bool false))⟩]) (.seq (.seq (.region [⟨(some 13), none, .call ⟨.value (.func 10), #[], #[]⟩⟩, ⟨(some 14), none, .unOp .not 4 (.tmp 13)⟩]) (.cond (.tmp 14) (.seq (.region [⟨(some 8), none, .assign (.const (.bool false))⟩]) (.ret)) (.skip))) (.seq (.region [⟨(some 15), none, .move (.tmp 0)⟩, ⟨(some 16), none, .convert 45 3 (.tmp 15)⟩, ⟨(some 17), none, .binOp .rem 3 (.tmp 16) (.const (.int .i64 1073741825)) 3⟩, ⟨(some 18), none, .move (.tmp 1)⟩, ⟨(some 19), none, .convert 45 3 (.tmp 18)⟩, ⟨(some 20), none, .binOp .rem 3 (.tmp 19) (.const (.int .i64 1073741825)) 3⟩, ⟨(some 21), none, .move (.tmp 2)⟩, ⟨(some 22), none, .convert 45 3 (.tmp 21)⟩, ⟨(some 23), none, .binOp .rem 3 (.tmp 22) (.const (.int .i64 1073741825)) 3⟩, ⟨(some 24), none, .move (.tmp 3)⟩, ⟨(some 25), none, .convert 45 3 (.tmp 24)⟩, ⟨(some 26), none, .binOp .rem 3 (.tmp 25) (.const (.int .i64 1073741825)) 3⟩, ⟨(some 27), none, .buildSlice 24 4 #[(0, .tmp 17), (1, .tmp 20), (2, .tmp 23), (3, .tmp 26)]⟩, ⟨(some 9), none, .assign (.tmp 27)⟩]) (.seq (.seq (.region [⟨(some 10), none, .assign (.const (.int .i64 0))⟩]) (.block 0 (.loop (.seq .weak (.seq (.seq (.region [⟨(some 28), none, .move (.tmp 10)⟩, ⟨(some 29), none, .binOp .lss 3 (.tmp 28) (.const (.int .i64 4)) 3⟩]) (.cond (.tmp 29) (.skip) (.exit 0))) (.seq (.block 1 (.seq (.region [⟨(some 11), none, .assign (.const (.int .i64 0))⟩]) (.block 2 (.loop (.seq .weak (.seq (.seq (.region [⟨(some 32), none, .move (.tmp 11)⟩, ⟨(some 33), none, .binOp .lss 3 (.tmp 32) (.const (.int .i64 3)) 3⟩]) (.cond (.tmp 33) (.skip) (.exit 2))) (.seq (.block 3 (.seq (.region [⟨(some 36), none, .move (.tmp 9)⟩, ⟨(some 37), none, .move (.tmp 11)⟩, ⟨(some 38), none, .indexAddr 24 (.tmp 36) (.tmp 37)⟩, ⟨(some 39), none, .load 3 (.tmp 38)⟩, ⟨(some 40), none, .move (.tmp 9)⟩, ⟨(some 41), none, .move (.tmp 11)⟩, ⟨(some 42), none, .binOp .add 3 (.tmp 41) (.const (.int .i64 1)) 3⟩, ⟨(some 43), none, .indexAddr 24 (.tmp 40) (.tmp 42)⟩, ⟨(some 44), none, .load 3 (.tmp 43)⟩, ⟨(some 45), none, .binOp .gtr 3 (.tmp 39) (.tmp 44) 3⟩]) (.cond (.tmp 45) (.region [⟨(some 46), none, .move (.tmp 9)⟩, ⟨(some 47), none, .move (.tmp 11)⟩, ⟨(some 48), none, .move (.tmp 9)⟩, ⟨(some 49), none, .move (.tmp 11)⟩, ⟨(some 50), none, .binOp .add 3 (.tmp 49) (.const (.int .i64 1)) 3⟩, ⟨(some 51), none, .move (.tmp 9)⟩, ⟨(some 52), none, .move (.tmp 11)⟩, ⟨(some 53), none, .binOp .add 3 (.tmp 52) (.const (.int .i64 1)) 3⟩, ⟨(some 54), none, .indexAddr 24 (.tmp 51) (.tmp 53)⟩, ⟨(some 55), none, .load 3 (.tmp 54)⟩, ⟨(some 56), none, .move (.tmp 9)⟩, ⟨(some 57), none, .move (.tmp 11)⟩, ⟨(some 58), none, .indexAddr 24 (.tmp 56) (.tmp 57)⟩, ⟨(some 59), none, .load 3 (.tmp 58)⟩, ⟨(some 60), none, .indexAddr 24 (.tmp 46) (.tmp 47)⟩, ⟨none, none, .store 3 (.tmp 60) (.tmp 55)⟩, ⟨(some 61), none, .indexAddr 24 (.tmp 48) (.tmp 50)⟩, ⟨none, none, .store 3 (.tmp 61) (.tmp 59)⟩]) (.skip)))) (.region [⟨(some 34), none, .move (.tmp 11)⟩, ⟨(some 35), none, .binOp .add 3 (.tmp 34) (.const (.int .i64 1)) 3⟩, ⟨(some 11), none, .assign (.tmp 35)⟩])))))))) (.region [⟨(some 30), none, .move (.tmp 10)⟩, ⟨(some 31), none, .binOp .add 3 (.tmp 30) (.const (.int .i64 1)) 3⟩, ⟨(some 10), none, .assign (.tmp 31)⟩]))))))) (G_law8_SpanFar_12))))
noncomputable def l_law8_SpanFar : List (Nat × Con) := [(10, c_law8_begun), (13, c_span_May), (32, c_law8_run), (18, c_span_Less), (15, c_span_Same), (20, c_span_Both), (16, c_span_Add), (22, c_span_Count), (25, c_span_Has)]
noncomputable abbrev K_law8_SpanFar : Ctx := ctx (cl l_law8_SpanFar)
theorem geq_law8_SpanFar : gof K_law8_SpanFar Try.f8 = some G_law8_SpanFar.strip := by kernel_rfl
theorem sys_law8_SpanFar : Go.Eng.Sys Try.prog K_law8_SpanFar := sys_of' ⟨ok_law8_begun, ok_span_May, ok_law8_run, ok_span_Less, ok_span_Same, ok_span_Both, ok_span_Add, ok_span_Count, ok_span_Has, trivial⟩
theorem hm_law8_SpanFar : ConMono K_law8_SpanFar := conMono_of sys_law8_SpanFar.con
noncomputable def k_law8_SpanFar_law8_begun := PLift.up (call_scal (C := K_law8_SpanFar) (f := 10) (A := A_law8_begun) (p := p_law8_begun) (r := r_law8_begun) rfl)
noncomputable def k_law8_SpanFar_span_May := PLift.up (call_scal (C := K_law8_SpanFar) (f := 13) (A := A_span_May) (p := p_span_May) (r := r_span_May) rfl)
noncomputable def k_law8_SpanFar_law8_run := PLift.up (call_fn (C := K_law8_SpanFar) (f := 32) (A := A_law8_run) (p := p_law8_run) (r := r_law8_run) rfl)
noncomputable def k_law8_SpanFar_span_Less := PLift.up (call_fn (C := K_law8_SpanFar) (f := 18) (A := A_span_Less) (p := p_span_Less) (r := r_span_Less) rfl)
noncomputable def k_law8_SpanFar_span_Same := PLift.up (call_scal (C := K_law8_SpanFar) (f := 15) (A := A_span_Same) (p := p_span_Same) (r := r_span_Same) rfl)
noncomputable def k_law8_SpanFar_span_Both := PLift.up (call_fn (C := K_law8_SpanFar) (f := 20) (A := A_span_Both) (p := p_span_Both) (r := r_span_Both) rfl)
noncomputable def k_law8_SpanFar_span_Add := PLift.up (call_fn (C := K_law8_SpanFar) (f := 16) (A := A_span_Add) (p := p_span_Add) (r := r_span_Add) rfl)
noncomputable def k_law8_SpanFar_span_Count := PLift.up (call_scal (C := K_law8_SpanFar) (f := 22) (A := A_span_Count) (p := p_span_Count) (r := r_span_Count) rfl)
noncomputable def k_law8_SpanFar_span_Has := PLift.up (call_scal (C := K_law8_SpanFar) (f := 25) (A := A_span_Has) (p := p_span_Has) (r := r_span_Has) rfl)
noncomputable def A_law8_SpanFar : Arms (UInt32 × UInt32 × UInt32 × UInt32 × Unit) := Arms.cons (argT UInt32) (Arms.cons (argT UInt32) (Arms.cons (argT UInt32) (Arms.cons (argT UInt32) (Arms.nil))))
def p_law8_SpanFar (x : UInt32 × UInt32 × UInt32 × UInt32 × Unit) : Prop := (goodAny x.1) ∧ (goodAny x.2.1) ∧ (goodAny x.2.2.1) ∧ (goodAny x.2.2.2.1) ∧ goodAny (x.2.2.2.2)
abbrev r_law8_SpanFar (x : UInt32 × UInt32 × UInt32 × UInt32 × Unit) : AV := rTrue x
theorem rd_law8_SpanFar : ReadsA Try.prog [45, 45, 45, 45] A_law8_SpanFar p_law8_SpanFar := (readsA_T (reads_u32 Try.underlying45) (by kernel_rfl) (readsA_T (reads_u32 Try.underlying45) (by kernel_rfl) (readsA_T (reads_u32 Try.underlying45) (by kernel_rfl) (readsA_T (reads_u32 Try.underlying45) (by kernel_rfl) readsA_nil))))
set_option maxRecDepth 100000 in
set_option maxHeartbeats 8000000 in
theorem far_15 {a b c d : Int} (h1 : a < b) (h2 : b < c) (h3 : c < d) (h4 : In30 a b c d) {σ : St} (hσ : Wk σ (mkS [(9, .t (sl [a, b, c, d])), (12, .t (sl [(⟨a, b⟩ : TRun), ⟨c, d⟩]))] .empty)) :
    avp K_law8_SpanFar G_law8_SpanFar_15 (Ret K_law8_SpanFar [.tmp 8] fun v _ => v = .t (.bool true)) σ := by
  unfold G_law8_SpanFar_15
  simp only [avp_seq]
  refine ⟨_, hσ, ?_⟩
  obtain ⟨⟨a0, a1⟩, ⟨b0, b1⟩, ⟨c0, c1⟩, d0, d1⟩ := h4
  have nt := nf_two h1 h2 h3
  have q0 : mayR (-1) [(⟨a, b⟩ : TRun), ⟨c, d⟩] = true := mayR_of nt (fun r hr => by
    simp only [List.mem_cons, List.not_mem_nil, or_false] at hr
    rcases hr with rfl | rfl
    · show -1 < a; omega
    · show -1 < c; omega) fun r hr => by
    simp only [List.mem_cons, List.not_mem_nil, or_false] at hr
    rcases hr with rfl | rfl
    · exact b1
    · exact d1
  have ev : ∀ (x y i : Int), hasR [(⟨x, y⟩ : TRun)] i = (decide (x ≤ i) && decide (i < y)) := fun x y i => by simp [hasR, inR]
  have ev2 : ∀ (x y z w i : Int), hasR [(⟨x, y⟩ : TRun), ⟨z, w⟩] i = ((decide (x ≤ i) && decide (i < y)) || (decide (z ≤ i) && decide (i < w))) := fun x y z w i => by simp [hasR, inR]
  have q1 : (whereL .less [(⟨a, d⟩ : TRun)] [⟨b, c⟩] = [⟨a, b⟩, ⟨c, d⟩]) = True := w_ext nt fun i => by
    rw [ev, ev, ev2, Bool.eq_iff_iff]; simp only [How.op, Bool.and_eq_true, Bool.or_eq_true, Bool.not_eq_true', Bool.and_eq_false_imp, decide_eq_true_eq, decide_eq_false_iff_not]; omega
  have q2 : (whereL .both [(⟨a, d⟩ : TRun)] [⟨b, c⟩] = [⟨b, c⟩]) = True := w_ext (.one h2) fun i => by
    rw [ev, ev, Bool.eq_iff_iff]; simp only [How.op, Bool.and_eq_true, decide_eq_true_eq]; omega
  have q3 : (whereL .add [(⟨a, c⟩ : TRun)] [⟨b, d⟩] = [⟨a, d⟩]) = True := w_ext (.one (show a < d by omega)) fun i => by
    rw [ev, ev, ev, Bool.eq_iff_iff]; simp only [How.op, Bool.and_eq_true, Bool.or_eq_true, decide_eq_true_eq]; omega
  have q4 : (whereL .add [(⟨a, b⟩ : TRun)] [⟨b, c⟩] = [⟨a, c⟩]) = True := w_ext (.one (show a < c by omega)) fun i => by
    rw [ev, ev, ev, Bool.eq_iff_iff]; simp only [How.op, Bool.and_eq_true, Bool.or_eq_true, decide_eq_true_eq]; omega
  have q5 : (whereL .add [(⟨a, b⟩ : TRun), ⟨c, d⟩] [⟨b, c⟩] = [⟨a, d⟩]) = True := w_ext (.one (show a < d by omega)) fun i => by
    rw [ev, ev, ev2, Bool.eq_iff_iff]; simp only [How.op, Bool.and_eq_true, Bool.or_eq_true, decide_eq_true_eq]; omega
  have q6 : (whereL .less [(⟨a, c⟩ : TRun)] [⟨b, d⟩] = [⟨a, b⟩]) = True := w_ext (.one h1) fun i => by
    rw [ev, ev, ev, Bool.eq_iff_iff]; simp only [How.op, Bool.and_eq_true, Bool.or_eq_true, Bool.not_eq_true', Bool.and_eq_false_imp, decide_eq_true_eq, decide_eq_false_iff_not]; omega
  have q7 : cntR [(⟨a, b⟩ : TRun), ⟨c, d⟩] = b - a + d - c := by show (b - a) + ((d - c) + 0) = _; omega
  have ob : okB [(⟨a, b⟩ : TRun), ⟨c, d⟩] := fun r hr => by
    simp only [List.mem_cons, List.not_mem_nil, or_false] at hr
    rcases hr with rfl | rfl
    · show 0 ≤ a ∧ a ≤ b ∧ b ≤ 1073741824; omega
    · show 0 ≤ c ∧ c ≤ d ∧ d ≤ 1073741824; omega
  have w1 : IntKind.i64.wrap (b - a) = b - a := IntWalk.i64_in _ (by omega)
  have w2 : IntKind.i64.wrap (b - a + d) = b - a + d := IntWalk.i64_in _ (by omega)
  have w3 : IntKind.i64.wrap (b - a + d - c) = b - a + d - c := IntWalk.i64_in _ (by omega)
  have w4 : IntKind.i64.wrap (d - 1) = d - 1 := IntWalk.i64_in _ (by omega)
  have v1 : hasR [(⟨a, b⟩ : TRun), ⟨c, d⟩] a = true := by rw [ev2, Bool.or_eq_true, Bool.and_eq_true]; simp only [decide_eq_true_eq]; omega
  have v2 : hasR [(⟨a, b⟩ : TRun), ⟨c, d⟩] b = false := by rw [ev2, ← Bool.not_eq_true, Bool.or_eq_true, Bool.and_eq_true, Bool.and_eq_true]; simp only [decide_eq_true_eq]; omega
  have v3 : hasR [(⟨a, b⟩ : TRun), ⟨c, d⟩] (d - 1) = true := by rw [ev2, Bool.or_eq_true, Bool.and_eq_true, Bool.and_eq_true]; simp only [decide_eq_true_eq]; omega
  have v4 : hasR [(⟨a, b⟩ : TRun), ⟨c, d⟩] d = false := by rw [ev2, ← Bool.not_eq_true, Bool.or_eq_true, Bool.and_eq_true, Bool.and_eq_true]; simp only [decide_eq_true_eq]; omega
  have x0 : idxB K_law8_SpanFar 24 (.t (sl [a, b, c, d])) (.t (.int .i64 0)) = .val True (.imm [.int .i64 a]) := idx_at (l := [a, b, c, d]) (i := 0) ty_Lint ty_int rfl (by simp) .i64
  have x1 : idxB K_law8_SpanFar 24 (.t (sl [a, b, c, d])) (.t (.int .i64 1)) = .val True (.imm [.int .i64 b]) := idx_at (l := [a, b, c, d]) (i := 1) ty_Lint ty_int rfl (by simp) .i64
  have x2 : idxB K_law8_SpanFar 24 (.t (sl [a, b, c, d])) (.t (.int .i64 2)) = .val True (.imm [.int .i64 c]) := idx_at (l := [a, b, c, d]) (i := 2) ty_Lint ty_int rfl (by simp) .i64
  have x3 : idxB K_law8_SpanFar 24 (.t (sl [a, b, c, d])) (.t (.int .i64 3)) = .val True (.imm [.int .i64 d]) := idx_at (l := [a, b, c, d]) (i := 3) ty_Lint ty_int rfl (by simp) .i64
  have n1 := where_len .less [(⟨a, d⟩ : TRun)] [⟨b, c⟩]
  have n2 := where_len .both [(⟨a, d⟩ : TRun)] [⟨b, c⟩]
  have n3 := where_len .add [(⟨a, c⟩ : TRun)] [⟨b, d⟩]
  have n4 := where_len .add [(⟨a, b⟩ : TRun)] [⟨b, c⟩]
  have n5 := where_len .add [(⟨a, b⟩ : TRun), ⟨c, d⟩] [⟨b, c⟩]
  have n6 := where_len .less [(⟨a, c⟩ : TRun)] [⟨b, d⟩]
  simp only [List.length_cons, List.length_nil] at n1 n2 n3 n4 n5 n6
  have t0 : (0 : Int).toNat = 0 := rfl
  have t1 : (1 : Int).toNat = 1 := rfl
  have t2 : (2 : Int).toNat = 2 := rfl
  have t3 : (3 : Int).toNat = 3 := rfl
  simp only [vP.down, vS.down, vE.down, Nat.reduceEqDiff, Nat.reduceAdd, Nat.reduceSub, Nat.reduceMul, Nat.reduceLeDiff, Nat.reduceLT, Int.reduceToNat, reduceIte, reduceCtorEq, Int.reduceEq, Int.reduceLT, Int.reduceLE, ↓avp_condG, ↓tf_arrow, ↓ft_arrow, q0, q1, q2, q3, q4, q5, q6, q7, ob, w1, w2, w3, w4, v1, v2, v3, v4, x0, x1, x2, x3, t0, t1, t2, t3, pick_ot, k_law8_SpanFar_law8_run.down, A_law8_run, p_law8_run, r_law8_run, k_law8_SpanFar_span_May.down, A_span_May, p_span_May, r_span_May, k_law8_SpanFar_span_Less.down, A_span_Less, p_span_Less, r_span_Less, k_law8_SpanFar_span_Same.down, A_span_Same, p_span_Same, r_span_Same, k_law8_SpanFar_span_Both.down, A_span_Both, p_span_Both, r_span_Both, k_law8_SpanFar_span_Add.down, A_span_Add, p_span_Add, r_span_Add, k_law8_SpanFar_span_Count.down, A_span_Count, p_span_Count, r_span_Count, k_law8_SpanFar_span_Has.down, A_span_Has, p_span_Has, r_span_Has]
  ((repeat' with_reducible refine And.intro ?_ ?_) <;> try (first | omega | (simp only [List.length_take, List.length_drop, List.length_append, List.length_map, List.length_replicate] <;> omega)))
  simp only [vP.down, vS.down, vE.down, Nat.reduceEqDiff, Nat.reduceAdd, Nat.reduceSub, Nat.reduceMul, Nat.reduceLeDiff, Nat.reduceLT, Int.reduceToNat, reduceIte, reduceCtorEq, Int.reduceEq, Int.reduceLT, Int.reduceLE, ↓avp_condG, ↓tf_arrow, ↓ft_arrow, vT.down]
set_option maxRecDepth 100000 in
set_option maxHeartbeats 8000000 in
theorem far_12 {a b c d : Int} (h1 : a ≤ b) (h2 : b ≤ c) (h3 : c ≤ d) (h4 : In30 a b c d) {σ : St} (hσ : Wk σ (mkS [(9, .t (sl [a, b, c, d]))] .empty)) :
    avp K_law8_SpanFar G_law8_SpanFar_12 (Ret K_law8_SpanFar [.tmp 8] fun v _ => v = .t (.bool true)) σ := by
  unfold G_law8_SpanFar_12
  simp only [avp_seq]
  refine ⟨_, hσ, ?_⟩
  have x0 : idxB K_law8_SpanFar 24 (.t (sl [a, b, c, d])) (.t (.int .i64 0)) = .val True (.imm [.int .i64 a]) := idx_at (l := [a, b, c, d]) (i := 0) ty_Lint ty_int rfl (by simp) .i64
  have x1 : idxB K_law8_SpanFar 24 (.t (sl [a, b, c, d])) (.t (.int .i64 1)) = .val True (.imm [.int .i64 b]) := idx_at (l := [a, b, c, d]) (i := 1) ty_Lint ty_int rfl (by simp) .i64
  have x2 : idxB K_law8_SpanFar 24 (.t (sl [a, b, c, d])) (.t (.int .i64 2)) = .val True (.imm [.int .i64 c]) := idx_at (l := [a, b, c, d]) (i := 2) ty_Lint ty_int rfl (by simp) .i64
  have x3 : idxB K_law8_SpanFar 24 (.t (sl [a, b, c, d])) (.t (.int .i64 3)) = .val True (.imm [.int .i64 d]) := idx_at (l := [a, b, c, d]) (i := 3) ty_Lint ty_int rfl (by simp) .i64
  by_cases e1 : a = b
  · have e1 := eq_true e1
    simp only [vP.down, vS.down, vE.down, Nat.reduceEqDiff, Nat.reduceAdd, Nat.reduceSub, Nat.reduceMul, Nat.reduceLeDiff, Nat.reduceLT, Int.reduceToNat, reduceIte, reduceCtorEq, Int.reduceEq, Int.reduceLT, Int.reduceLE, ↓avp_condG, ↓tf_arrow, ↓ft_arrow, x0, x1, x2, x3, e1, pick_of, pick_ot]
    simp only [vP.down, vS.down, vE.down, Nat.reduceEqDiff, Nat.reduceAdd, Nat.reduceSub, Nat.reduceMul, Nat.reduceLeDiff, Nat.reduceLT, Int.reduceToNat, reduceIte, reduceCtorEq, Int.reduceEq, Int.reduceLT, Int.reduceLE, ↓avp_condG, ↓tf_arrow, ↓ft_arrow, vT.down]
  have e1 := eq_false e1
  by_cases e2 : b = c
  · have e2 := eq_true e2
    simp only [vP.down, vS.down, vE.down, Nat.reduceEqDiff, Nat.reduceAdd, Nat.reduceSub, Nat.reduceMul, Nat.reduceLeDiff, Nat.reduceLT, Int.reduceToNat, reduceIte, reduceCtorEq, Int.reduceEq, Int.reduceLT, Int.reduceLE, ↓avp_condG, ↓tf_arrow, ↓ft_arrow, x0, x1, x2, x3, e1, e2, pick_of, pick_ot]
    simp only [vP.down, vS.down, vE.down, Nat.reduceEqDiff, Nat.reduceAdd, Nat.reduceSub, Nat.reduceMul, Nat.reduceLeDiff, Nat.reduceLT, Int.reduceToNat, reduceIte, reduceCtorEq, Int.reduceEq, Int.reduceLT, Int.reduceLE, ↓avp_condG, ↓tf_arrow, ↓ft_arrow, vT.down]
  have e2 := eq_false e2
  by_cases e3 : c = d
  · have e3 := eq_true e3
    simp only [vP.down, vS.down, vE.down, Nat.reduceEqDiff, Nat.reduceAdd, Nat.reduceSub, Nat.reduceMul, Nat.reduceLeDiff, Nat.reduceLT, Int.reduceToNat, reduceIte, reduceCtorEq, Int.reduceEq, Int.reduceLT, Int.reduceLE, ↓avp_condG, ↓tf_arrow, ↓ft_arrow, x0, x1, x2, x3, e1, e2, e3, pick_of, pick_ot]
    simp only [vP.down, vS.down, vE.down, Nat.reduceEqDiff, Nat.reduceAdd, Nat.reduceSub, Nat.reduceMul, Nat.reduceLeDiff, Nat.reduceLT, Int.reduceToNat, reduceIte, reduceCtorEq, Int.reduceEq, Int.reduceLT, Int.reduceLE, ↓avp_condG, ↓tf_arrow, ↓ft_arrow, vT.down]
  have e3 := eq_false e3
  simp only [vP.down, vS.down, vE.down, Nat.reduceEqDiff, Nat.reduceAdd, Nat.reduceSub, Nat.reduceMul, Nat.reduceLeDiff, Nat.reduceLT, Int.reduceToNat, reduceIte, reduceCtorEq, Int.reduceEq, Int.reduceLT, Int.reduceLE, ↓avp_condG, ↓tf_arrow, ↓ft_arrow, x0, x1, x2, x3, e1, e2, e3, pick_of, pick_ot]
  refine weak_at [(9, .t (sl [a, b, c, d]))] .empty fewer_refl (by simp only [vP.down, vS.down, vE.down, Nat.reduceEqDiff, Nat.reduceAdd, Nat.reduceSub, Nat.reduceMul, Nat.reduceLeDiff, Nat.reduceLT, Int.reduceToNat, reduceIte, reduceCtorEq, Int.reduceEq, Int.reduceLT, Int.reduceLE, ↓avp_condG, ↓tf_arrow, ↓ft_arrow, wP.down]) ?_
  simp only [vP.down, vS.down, vE.down, Nat.reduceEqDiff, Nat.reduceAdd, Nat.reduceSub, Nat.reduceMul, Nat.reduceLeDiff, Nat.reduceLT, Int.reduceToNat, reduceIte, reduceCtorEq, Int.reduceEq, Int.reduceLT, Int.reduceLE, ↓avp_condG, ↓tf_arrow, ↓ft_arrow, x0, x1, x2, x3]
  intro g hg
  have l1 : a < b := by have := of_eq_false e1; omega
  have l2 : b < c := by have := of_eq_false e2; omega
  have l3 : c < d := by have := of_eq_false e3; omega
  exact far_15 (a := a) (b := b) (c := c) (d := d) l1 l2 l3 h4 (wk_to fewer_empty (by
    simp only [vP.down, vS.down, vE.down, Nat.reduceEqDiff, Nat.reduceAdd, Nat.reduceSub, Nat.reduceMul, Nat.reduceLeDiff, Nat.reduceLT, Int.reduceToNat, reduceIte, reduceCtorEq, Int.reduceEq, Int.reduceLT, Int.reduceLE, ↓avp_condG, ↓tf_arrow, ↓ft_arrow, wP.down]
    exact (lv_at (α := TRun) (l := [⟨a, b⟩, ⟨c, d⟩]) (ro := false) rfl (Store.set_same _ _ _)).w2 fun _ _ => rfl))
end Go.Proofs.Ytcahbcdikcjihaa


namespace Go.Proofs.Ytcahbcdikcjihaa
open Go Go.Eng
def row4 (a b c d : Int) : Entry := .row 1 [[.int .i64 a], [.int .i64 b], [.int .i64 c], [.int .i64 d]] false
set_option maxRecDepth 100000 in
set_option maxHeartbeats 8000000 in
theorem body_law8_SpanFar (x) (hx : p_law8_SpanFar x) : avp K_law8_SpanFar G_law8_SpanFar (Ret K_law8_SpanFar [.tmp 8] fun v _ => v = r_law8_SpanFar x) (entry (A_law8_SpanFar.enc x) .empty) := by
  obtain ⟨p, q, r, s, ⟨⟩⟩ := x
  change avp _ _ (Ret _ _ fun v _ => v = .t (.bool true)) (entry [.t (.int .u32 (p.toNat : Int)), .t (.int .u32 (q.toNat : Int)), .t (.int .u32 (r.toNat : Int)), .t (.int .u32 (s.toNat : Int))] .empty)
  unfold G_law8_SpanFar
  have wu : ∀ x : UInt32, IntKind.i64.wrap (x.toNat : Int) = (x.toNat : Int) := fun x => IntWalk.i64_in _ (by have := x.toNat_lt; omega)
  have wm : ∀ x : UInt32, 0 ≤ (x.toNat : Int).tmod 1073741825 ∧ (x.toNat : Int).tmod 1073741825 ≤ 1073741824 := fun x => by
    have h1 := Int.tmod_nonneg (a := (x.toNat : Int)) 1073741825 (by omega)
    have h2 := Int.tmod_lt_of_pos (x.toNat : Int) (b := 1073741825) (by omega)
    omega
  have ww : ∀ x : UInt32, IntKind.i64.wrap ((x.toNat : Int).tmod 1073741825) = (x.toNat : Int).tmod 1073741825 := fun x => IntWalk.i64_in _ (by have := wm x; omega)
  simp only [vP.down, vS.down, vE.down, Nat.reduceEqDiff, Nat.reduceAdd, Nat.reduceSub, Nat.reduceMul, Nat.reduceLeDiff, Nat.reduceLT, Int.reduceToNat, reduceIte, reduceCtorEq, Int.reduceEq, Int.reduceLT, Int.reduceLE, ↓avp_condG, ↓tf_arrow, ↓ft_arrow, wu, ww, k_law8_SpanFar_law8_begun.down, A_law8_begun, p_law8_begun, r_law8_begun]
  intro g hg
  have I0 : In30 ((p.toNat : Int).tmod 1073741825) ((q.toNat : Int).tmod 1073741825) ((r.toNat : Int).tmod 1073741825) ((s.toNat : Int).tmod 1073741825) := ⟨wm p, wm q, wm r, wm s⟩
  refine loop_weak hm_law8_SpanFar (fun k σ => ∃ (i : Nat) (a b c d : Int) (S : Store), k = 4 - i ∧ i ≤ 4 ∧ Bub i 0 a b c d ∧ In30 a b c d ∧ S.f g = some (row4 a b c d) ∧ σ = mkS [(9, .tok g 1 0 4), (10, .t (.int .i64 (i : Nat)))] S)
    ⟨0, _, _, _, _, _, rfl, by omega, by unfold Bub; omega, I0, Store.set_same _ _ _, rfl⟩ (wk_to fewer_refl (by simp only [vP.down, vS.down, vE.down, Nat.reduceEqDiff, Nat.reduceAdd, Nat.reduceSub, Nat.reduceMul, Nat.reduceLeDiff, Nat.reduceLT, Int.reduceToNat, reduceIte, reduceCtorEq, Int.reduceEq, Int.reduceLT, Int.reduceLE, ↓avp_condG, ↓tf_arrow, ↓ft_arrow, wP.down, Int.natCast_zero])) ?_
  rintro k _ ⟨i, a, b, c, d, S, rfl, hi, hB, hI, hr, rfl⟩
  have hi1 : IntKind.i64.wrap ((i : Int) + 1) = ((i + 1 : Nat) : Int) := by rw [IntWalk.i64_in _ (by omega)]; rfl
  by_cases hlt : i < 4
  case neg =>
    obtain rfl : i = 4 := by omega
    have hge : ¬ ((4 : Int) < 4) := by omega
    simp only [vP.down, vS.down, vE.down, Nat.reduceEqDiff, Nat.reduceAdd, Nat.reduceSub, Nat.reduceMul, Nat.reduceLeDiff, Nat.reduceLT, Int.reduceToNat, reduceIte, reduceCtorEq, Int.reduceEq, Int.reduceLT, Int.reduceLE, ↓avp_condG, ↓tf_arrow, ↓ft_arrow, hge]
    obtain ⟨b1, b2, b3⟩ := bub_e hB
    exact far_12 (a := a) (b := b) (c := c) (d := d) b1 b2 b3 hI (wk_to fewer_empty (by
      simp only [vP.down, vS.down, vE.down, Nat.reduceEqDiff, Nat.reduceAdd, Nat.reduceSub, Nat.reduceMul, Nat.reduceLeDiff, Nat.reduceLT, Int.reduceToNat, reduceIte, reduceCtorEq, Int.reduceEq, Int.reduceLT, Int.reduceLE, ↓avp_condG, ↓tf_arrow, ↓ft_arrow, wP.down]
      exact (lv_at (α := Int) (l := [a, b, c, d]) (ro := false) rfl hr).w2 fun _ _ => rfl))
  have hlt' : (i : Int) < 4 := by omega
  simp only [vP.down, vS.down, vE.down, Nat.reduceEqDiff, Nat.reduceAdd, Nat.reduceSub, Nat.reduceMul, Nat.reduceLeDiff, Nat.reduceLT, Int.reduceToNat, reduceIte, reduceCtorEq, Int.reduceEq, Int.reduceLT, Int.reduceLE, ↓avp_condG, ↓tf_arrow, ↓ft_arrow, hlt']
  refine loop_weak hm_law8_SpanFar (fun k σ => ∃ (j : Nat) (a b c d : Int) (S : Store), k = 3 - j ∧ j ≤ 3 ∧ Bub i j a b c d ∧ In30 a b c d ∧ S.f g = some (row4 a b c d) ∧ σ = mkS [(9, .tok g 1 0 4), (10, .t (.int .i64 (i : Nat))), (11, .t (.int .i64 (j : Nat)))] S)
    ⟨0, a, b, c, d, S, rfl, by omega, hB, hI, hr, rfl⟩ (wk_to fewer_refl (by simp only [vP.down, vS.down, vE.down, Nat.reduceEqDiff, Nat.reduceAdd, Nat.reduceSub, Nat.reduceMul, Nat.reduceLeDiff, Nat.reduceLT, Int.reduceToNat, reduceIte, reduceCtorEq, Int.reduceEq, Int.reduceLT, Int.reduceLE, ↓avp_condG, ↓tf_arrow, ↓ft_arrow, wP.down, Int.natCast_zero])) ?_
  clear hB hI hr a b c d S I0 hg
  rintro k _ ⟨j, a, b, c, d, S, rfl, hj, hB, hI, hr, rfl⟩
  unfold row4 at hr
  have next : ∀ (j' : Nat) (a b c d : Int) (S : Store) (σ' : St), j' ≤ 3 → 3 - j' < 3 - j → Bub i j' a b c d → In30 a b c d → S.f g = some (row4 a b c d) → Wk σ' (mkS [(9, .tok g 1 0 4), (10, .t (.int .i64 (i : Nat))), (11, .t (.int .i64 (j' : Nat)))] S) → ∃ (k' : Nat) (σ'' : St), k' < 3 - j ∧ Wk σ' σ'' ∧ ∃ (j : Nat) (a b c d : Int) (S : Store), k' = 3 - j ∧ j ≤ 3 ∧ Bub i j a b c d ∧ In30 a b c d ∧ S.f g = some (row4 a b c d) ∧ σ'' = mkS [(9, .tok g 1 0 4), (10, .t (.int .i64 (i : Nat))), (11, .t (.int .i64 (j : Nat)))] S :=
    fun j' a b c d S σ' h1 h2 h3 h4 h5 h6 => ⟨3 - j', _, h2, h6, j', a, b, c, d, S, rfl, h1, h3, h4, h5, rfl⟩
  have hj4 : j = 0 ∨ j = 1 ∨ j = 2 ∨ j = 3 := by omega
  have w01 : IntKind.i64.wrap (0 + 1) = 1 := rfl
  have w12 : IntKind.i64.wrap (1 + 1) = 2 := rfl
  have w23 : IntKind.i64.wrap (2 + 1) = 3 := rfl
  rcases hj4 with rfl | rfl | rfl | rfl
  · by_cases hc : b < a
    · obtain ⟨m1, m2⟩ := (mm a b).1 hc
      have hB1 := bub_0 hB
      rw [m1, m2] at hB1
      have p1 : putRow [[.int .i64 a], [.int .i64 b], [.int .i64 c], [.int .i64 d]] 0 0 [.int .i64 b] = [[.int .i64 b], [.int .i64 b], [.int .i64 c], [.int .i64 d]] := rfl
      have p2 : putRow [[.int .i64 b], [.int .i64 b], [.int .i64 c], [.int .i64 d]] 1 0 [.int .i64 a] = [[.int .i64 b], [.int .i64 a], [.int .i64 c], [.int .i64 d]] := rfl
      simp only [vP.down, vS.down, vE.down, Nat.reduceEqDiff, Nat.reduceAdd, Nat.reduceSub, Nat.reduceMul, Nat.reduceLeDiff, Nat.reduceLT, Int.reduceToNat, reduceIte, reduceCtorEq, Int.reduceEq, Int.reduceLT, Int.reduceLE, ↓avp_condG, ↓tf_arrow, ↓ft_arrow, hr, hc, w01, w12, w23, gt_iff_lt, Int.natCast_zero, Int.natCast_one]
      refine ⟨by simp, by rw [p1]; simp, by simp, ?_⟩
      rw [p1, p2]
      exact next 1 b a c d _ _ (by omega) (by omega) hB1 (by unfold In30 at *; omega) (Store.set_same _ _ _) (wk_to fewer_refl (by simp only [vP.down, vS.down, vE.down, Nat.reduceEqDiff, Nat.reduceAdd, Nat.reduceSub, Nat.reduceMul, Nat.reduceLeDiff, Nat.reduceLT, Int.reduceToNat, reduceIte, reduceCtorEq, Int.reduceEq, Int.reduceLT, Int.reduceLE, ↓avp_condG, ↓tf_arrow, ↓ft_arrow, wP.down]))
    · obtain ⟨m1, m2⟩ := (mm a b).2 hc
      have hB1 := bub_0 hB
      rw [m1, m2] at hB1
      simp only [vP.down, vS.down, vE.down, Nat.reduceEqDiff, Nat.reduceAdd, Nat.reduceSub, Nat.reduceMul, Nat.reduceLeDiff, Nat.reduceLT, Int.reduceToNat, reduceIte, reduceCtorEq, Int.reduceEq, Int.reduceLT, Int.reduceLE, ↓avp_condG, ↓tf_arrow, ↓ft_arrow, hr, hc, w01, w12, w23, gt_iff_lt, Int.natCast_zero, Int.natCast_one]
      exact next 1 a b c d S _ (by omega) (by omega) hB1 hI hr (wk_to fewer_refl (by simp only [vP.down, vS.down, vE.down, Nat.reduceEqDiff, Nat.reduceAdd, Nat.reduceSub, Nat.reduceMul, Nat.reduceLeDiff, Nat.reduceLT, Int.reduceToNat, reduceIte, reduceCtorEq, Int.reduceEq, Int.reduceLT, Int.reduceLE, ↓avp_condG, ↓tf_arrow, ↓ft_arrow, wP.down]))
  · by_cases hc : c < b
    · obtain ⟨m1, m2⟩ := (mm b c).1 hc
      have hB1 := bub_1 hB
      rw [m1, m2] at hB1
      have p1 : putRow [[.int .i64 a], [.int .i64 b], [.int .i64 c], [.int .i64 d]] 1 0 [.int .i64 c] = [[.int .i64 a], [.int .i64 c], [.int .i64 c], [.int .i64 d]] := rfl
      have p2 : putRow [[.int .i64 a], [.int .i64 c], [.int .i64 c], [.int .i64 d]] 2 0 [.int .i64 b] = [[.int .i64 a], [.int .i64 c], [.int .i64 b], [.int .i64 d]] := rfl
      simp only [vP.down, vS.down, vE.down, Nat.reduceEqDiff, Nat.reduceAdd, Nat.reduceSub, Nat.reduceMul, Nat.reduceLeDiff, Nat.reduceLT, Int.reduceToNat, reduceIte, reduceCtorEq, Int.reduceEq, Int.reduceLT, Int.reduceLE, ↓avp_condG, ↓tf_arrow, ↓ft_arrow, hr, hc, w01, w12, w23, gt_iff_lt, Int.natCast_zero, Int.natCast_one]
      refine ⟨by simp, by rw [p1]; simp, by simp, ?_⟩
      rw [p1, p2]
      exact next 2 a c b d _ _ (by omega) (by omega) hB1 (by unfold In30 at *; omega) (Store.set_same _ _ _) (wk_to fewer_refl (by simp only [vP.down, vS.down, vE.down, Nat.reduceEqDiff, Nat.reduceAdd, Nat.reduceSub, Nat.reduceMul, Nat.reduceLeDiff, Nat.reduceLT, Int.reduceToNat, reduceIte, reduceCtorEq, Int.reduceEq, Int.reduceLT, Int.reduceLE, ↓avp_condG, ↓tf_arrow, ↓ft_arrow, wP.down]))
    · obtain ⟨m1, m2⟩ := (mm b c).2 hc
      have hB1 := bub_1 hB
      rw [m1, m2] at hB1
      simp only [vP.down, vS.down, vE.down, Nat.reduceEqDiff, Nat.reduceAdd, Nat.reduceSub, Nat.reduceMul, Nat.reduceLeDiff, Nat.reduceLT, Int.reduceToNat, reduceIte, reduceCtorEq, Int.reduceEq, Int.reduceLT, Int.reduceLE, ↓avp_condG, ↓tf_arrow, ↓ft_arrow, hr, hc, w01, w12, w23, gt_iff_lt, Int.natCast_zero, Int.natCast_one]
      exact next 2 a b c d S _ (by omega) (by omega) hB1 hI hr (wk_to fewer_refl (by simp only [vP.down, vS.down, vE.down, Nat.reduceEqDiff, Nat.reduceAdd, Nat.reduceSub, Nat.reduceMul, Nat.reduceLeDiff, Nat.reduceLT, Int.reduceToNat, reduceIte, reduceCtorEq, Int.reduceEq, Int.reduceLT, Int.reduceLE, ↓avp_condG, ↓tf_arrow, ↓ft_arrow, wP.down]))
  · by_cases hc : d < c
    · obtain ⟨m1, m2⟩ := (mm c d).1 hc
      have hB1 := bub_2 hB
      rw [m1, m2] at hB1
      have p1 : putRow [[.int .i64 a], [.int .i64 b], [.int .i64 c], [.int .i64 d]] 2 0 [.int .i64 d] = [[.int .i64 a], [.int .i64 b], [.int .i64 d], [.int .i64 d]] := rfl
      have p2 : putRow [[.int .i64 a], [.int .i64 b], [.int .i64 d], [.int .i64 d]] 3 0 [.int .i64 c] = [[.int .i64 a], [.int .i64 b], [.int .i64 d], [.int .i64 c]] := rfl
      simp only [vP.down, vS.down, vE.down, Nat.reduceEqDiff, Nat.reduceAdd, Nat.reduceSub, Nat.reduceMul, Nat.reduceLeDiff, Nat.reduceLT, Int.reduceToNat, reduceIte, reduceCtorEq, Int.reduceEq, Int.reduceLT, Int.reduceLE, ↓avp_condG, ↓tf_arrow, ↓ft_arrow, hr, hc, w01, w12, w23, gt_iff_lt, Int.natCast_zero, Int.natCast_one]
      refine ⟨by simp, by rw [p1]; simp, by simp, ?_⟩
      rw [p1, p2]
      exact next 3 a b d c _ _ (by omega) (by omega) hB1 (by unfold In30 at *; omega) (Store.set_same _ _ _) (wk_to fewer_refl (by simp only [vP.down, vS.down, vE.down, Nat.reduceEqDiff, Nat.reduceAdd, Nat.reduceSub, Nat.reduceMul, Nat.reduceLeDiff, Nat.reduceLT, Int.reduceToNat, reduceIte, reduceCtorEq, Int.reduceEq, Int.reduceLT, Int.reduceLE, ↓avp_condG, ↓tf_arrow, ↓ft_arrow, wP.down]))
    · obtain ⟨m1, m2⟩ := (mm c d).2 hc
      have hB1 := bub_2 hB
      rw [m1, m2] at hB1
      simp only [vP.down, vS.down, vE.down, Nat.reduceEqDiff, Nat.reduceAdd, Nat.reduceSub, Nat.reduceMul, Nat.reduceLeDiff, Nat.reduceLT, Int.reduceToNat, reduceIte, reduceCtorEq, Int.reduceEq, Int.reduceLT, Int.reduceLE, ↓avp_condG, ↓tf_arrow, ↓ft_arrow, hr, hc, w01, w12, w23, gt_iff_lt, Int.natCast_zero, Int.natCast_one]
      exact next 3 a b c d S _ (by omega) (by omega) hB1 hI hr (wk_to fewer_refl (by simp only [vP.down, vS.down, vE.down, Nat.reduceEqDiff, Nat.reduceAdd, Nat.reduceSub, Nat.reduceMul, Nat.reduceLeDiff, Nat.reduceLT, Int.reduceToNat, reduceIte, reduceCtorEq, Int.reduceEq, Int.reduceLT, Int.reduceLE, ↓avp_condG, ↓tf_arrow, ↓ft_arrow, wP.down]))
  · simp only [vP.down, vS.down, vE.down, Nat.reduceEqDiff, Nat.reduceAdd, Nat.reduceSub, Nat.reduceMul, Nat.reduceLeDiff, Nat.reduceLT, Int.reduceToNat, reduceIte, reduceCtorEq, Int.reduceEq, Int.reduceLT, Int.reduceLE, ↓avp_condG, ↓tf_arrow, ↓ft_arrow, hi1]
    exact round_to (4 - (i + 1)) [(9, .tok g 1 0 4), (10, .t (.int .i64 (i + 1 : Nat)))] S (by omega) fewer_refl (by simp only [vP.down, vS.down, vE.down, Nat.reduceEqDiff, Nat.reduceAdd, Nat.reduceSub, Nat.reduceMul, Nat.reduceLeDiff, Nat.reduceLT, Int.reduceToNat, reduceIte, reduceCtorEq, Int.reduceEq, Int.reduceLT, Int.reduceLE, ↓avp_condG, ↓tf_arrow, ↓ft_arrow, wP.down, hi1]) ⟨i + 1, a, b, c, d, S, rfl, by omega, bub_n hB, hI, hr, rfl⟩
noncomputable def c_law8_SpanFar : Con := fnScal A_law8_SpanFar p_law8_SpanFar r_law8_SpanFar
theorem ok_law8_SpanFar : COk Try.prog 8 c_law8_SpanFar := fn_sok sys_law8_SpanFar mixed Try.func8 (by kernel_rfl) geq_law8_SpanFar Try.ntmps8 (by rw [Try.results8]) (fun x => by simp [rTrue, AV.scal]) fun x hx => ⟨Nat.le_of_ble_eq_true rfl, body_law8_SpanFar x hx⟩
theorem says_law8_SpanFar : SaysTrue Rows.spanFarSpec 4 := ⟨rfl, fun H ds h => by
  match ds, h with
  | [d0, d1, d2, d3], _ => exact ⟨rfl, rfl, rfl⟩⟩
set_option maxRecDepth 100000 in
theorem lifted_law8_SpanFar (os : Os) (started : os.Started) (H : Type) (enc : TypeId × Value → H) :
    ReturnsInHanded {} Try.checked os 8 .any (Rows.spanFarSpec.pre6 enc Try.prog Try.f8 Rows.spanFarRow.domain false) (Rows.spanFarSpec.post enc Try.prog Try.f8 false true false false) := by
  refine returnsInHanded_of_change (C := Try.checked) own started (by kernel_rfl) Try.func8
    (ChangeSpec.witness6 (enc := enc) (C := Try.checked) false ⟨#[], #[.int .u32 0, .int .u32 0, .int .u32 0, .int .u32 0], []⟩ 8 (by kernel_rfl) (by kernel_rfl) (by kernel_rfl) (by kernel_rfl)) ?_
  intro W base args ds gs before hval hW _ _
  exact law_contract (ts := [45, 45, 45, 45]) (tb := 4) ok_law8_SpanFar (by rw [Try.params8]) (by kernel_rfl) Try.underlying4 laid (by kernel_rfl) rd_law8_SpanFar (fun _ h => h) says_law8_SpanFar H enc W base args ds gs before hval hW
theorem over_law8_SpanFar : Rows.spanFarRow.holds Try.pinned (OpenSpec.ofChange Rows.spanFarSpec) :=
  OpenClaim.holds_of_wide 8 Try.f8 rfl rfl rfl rfl rfl rfl rfl ⟨rfl, rfl, rfl, rfl, rfl⟩ rfl rfl rfl rfl rfl (by kernel_rfl) Try.func8 (by kernel_rfl)
    (of_decide_eq_true (by kernel_rfl)) (by unfold Func.isWrapper; first | (rw [if_pos (by decide +kernel)]; kernel_rfl) | (rw [if_neg (by decide +kernel)]; exact ⟨rfl, rfl⟩))
    (fun os started H enc _ => lifted_law8_SpanFar os started H enc)
theorem spanFar_holds : Rows.SpanFarSaid := over_law8_SpanFar
end Go.Proofs.Ytcahbcdikcjihaa

