/-
  sizes.
-/
import Derived.Test.YtofcmdkmhbbbjaaFnsE
set_option linter.unusedSimpArgs false
set_option linter.unusedVariables false
open Nat renaming reduceEqDiff → qA, reduceAdd → qB, reduceSub → qC, reduceMul → qD, reduceLeDiff → qE, reduceLT → qF
open Int renaming reduceToNat → qG, reduceEq → qH, reduceLT → qI, reduceLE → qJ
namespace Go.Proofs.Ytofcmdkmhbbbjaa
open Go Go.Eng
set_option maxRecDepth 100000
def dig (c : UInt8) : Int := (c.toNat : Int) - 48
def digOk (c : UInt8) : Bool := decide (1 ≤ dig c) && decide (dig c ≤ 4)
def formOk (s : List UInt8) : Bool := s.all digOk
def digs (s : List UInt8) : List Int := s.map dig
theorem digs_sum : ∀ s : List UInt8, formOk s = true → 0 ≤ (digs s).sum ∧ (digs s).sum ≤ 4 * (s.length : Int)
  | [], _ => by simp [digs]
  | c :: r, h => by
    simp only [formOk, List.all_cons, Bool.and_eq_true] at h
    have := digs_sum r h.2
    have h1 := h.1
    simp only [digOk, Bool.and_eq_true, decide_eq_true_eq] at h1
    simp only [digs, List.map_cons, List.sum_cons, List.length_cons] at this ⊢
    omega
theorem take_step {s : List UInt8} {i : Nat} (h : i < s.length) : s.take (i + 1) = s.take i ++ [s.getD i 0] := by
  rw [List.take_add_one]; simp [List.getD_eq_getElem?_getD, h]
theorem digs_take {s : List UInt8} {i : Nat} (h : i < s.length) : digs (s.take (i + 1)) = digs (s.take i) ++ [dig (s.getD i 0)] := by
  rw [take_step h]; simp [digs]
theorem formOk_take {s : List UInt8} {i : Nat} (h : i < s.length) : formOk (s.take (i + 1)) = (formOk (s.take i) && digOk (s.getD i 0)) := by
  rw [take_step h]; simp [formOk]
theorem formOk_of {s : List UInt8} {i : Nat} (h : i < s.length) (hb : digOk (s.getD i 0) = false) : formOk s = false := by
  unfold formOk
  rw [List.all_eq_false]
  exact ⟨s[i], List.getElem_mem h, by simpa [List.getD_eq_getElem?_getD, h] using hb⟩
theorem digOk_of {c : UInt8} (h : ¬ dig c < 1) (h' : ¬ 4 < dig c) : digOk c = true := by
  simp only [digOk, Bool.and_eq_true, decide_eq_true_eq]; omega
theorem digOk_no {c : UInt8} (h : dig c < 1 ∨ 4 < dig c) : digOk c = false := by
  simp only [digOk, Bool.and_eq_false_iff, decide_eq_false_iff_not]; omega
def szL (s : List UInt8) : List Int := if formOk s then digs s else []
def szN (s : List UInt8) : Int := if formOk s then (digs s).sum else 0
def G_pack_sizes : GCode := .seq (.region [⟨(some 2), none, .assign (.const (.slice none 0 0))⟩, ⟨(some 3), none, .assign (.const (.int .i64 0))⟩, ⟨(some 4), none, .assign (.const (.bool false))⟩]) (.seq (.seq (.region [⟨(some 8), none, .move (.tmp 0)⟩, ⟨(some 9), none, .convert 9 22 (.tmp 8)⟩, ⟨(some 10), none, .call ⟨.builtin .len, #[.tmp 9], #[22]⟩⟩, ⟨(some 11), none, .move (.const (.int .i64 0))⟩]) (.block 0 (.loop (.seq .weak (.seq (.region [⟨(some 12), none, .binOp .lss 3 (.tmp 11) (.tmp 10) 3⟩]) (.seq (.cond (.tmp 12) (.skip) (.exit 0)) (.seq (.block 1 (.seq (.region [⟨(some 13), none, .indexAddr 22 (.tmp 9) (.tmp 11)⟩, ⟨(some 14), none, .load 5 (.tmp 13)⟩, ⟨(some 6), none, .assign (.tmp 14)⟩]) (.seq (.region [⟨(some 15), none, .move (.tmp 6)⟩, ⟨(some 16), none, .convert 5 3 (.tmp 15)⟩, ⟨(some 17), none, .binOp .sub 3 (.tmp 16) (.const (.int .i64 48)) 3⟩, ⟨(some 7), none, .assign (.tmp 17)⟩]) (.seq (.seq (.region [⟨(some 18), none, .move (.tmp 7)⟩, ⟨(some 19), none, .binOp .lss 3 (.tmp 18) (.const (.int .i64 1)) 3⟩, ⟨(some 20), none, .move (.tmp 19)⟩, ⟨(some 21), (some (20, false)), .move (.tmp 7)⟩, ⟨(some 22), (some (20, false)), .binOp .gtr 3 (.tmp 21) (.const (.int .i64 4)) 3⟩, ⟨(some 23), none, .pick (.tmp 20) (.const (.bool true)) (.tmp 22)⟩]) (.cond (.tmp 23) (.seq (.region [⟨(some 2), none, .assign (.const (.slice none 0 0))⟩, ⟨(some 3), none, .assign (.const (.int .i64 0))⟩, ⟨(some 4), none, .assign (.const (.bool false))⟩]) (.ret)) (.skip))) (.region [⟨(some 24), none, .move (.tmp 2)⟩, ⟨(some 25), none, .move (.tmp 7)⟩, ⟨(some 26), none, .buildSlice 58 1 #[(0, .tmp 25)]⟩, ⟨(some 27), none, .call ⟨.builtin .append, #[.tmp 24, .tmp 26], #[58, 58]⟩⟩, ⟨(some 28), none, .move (.tmp 3)⟩, ⟨(some 29), none, .move (.tmp 7)⟩, ⟨(some 30), none, .binOp .add 3 (.tmp 28) (.tmp 29) 3⟩, ⟨(some 2), none, .assign (.tmp 27)⟩, ⟨(some 3), none, .assign (.tmp 30)⟩]))))) (.region [⟨(some 31), none, .binOp .add 3 (.tmp 11) (.const (.int .i64 1)) 3⟩, ⟨(some 11), none, .move (.tmp 31)⟩])))))))) (.seq (.region [⟨(some 32), none, .move (.tmp 2)⟩, ⟨(some 33), none, .move (.tmp 3)⟩, ⟨(some 2), none, .assign (.tmp 32)⟩, ⟨(some 3), none, .assign (.tmp 33)⟩, ⟨(some 4), none, .assign (.const (.bool true))⟩]) (.ret)))
noncomputable def l_pack_sizes : List (Nat × Con) := []
noncomputable abbrev K_pack_sizes : Ctx := ctx (cl l_pack_sizes)
theorem geq_pack_sizes : gof K_pack_sizes Try.f60 = some G_pack_sizes.strip := by kernel_rfl
theorem sys_pack_sizes : Go.Eng.Sys Try.prog K_pack_sizes := sys_of' (l := []) trivial
theorem hm_pack_sizes : ConMono K_pack_sizes := conMono_of sys_pack_sizes.con
def A_pack_sizes := Arms.cons (argT (List UInt8)) Arms.nil
def p_pack_sizes (x : List UInt8 × Unit) : Prop := x.1.length ≤ 1099511627776
def r_pack_sizes (x : List UInt8 × Unit) : AV := .tup [.t (sl (szL x.1)), .t (.int .i64 (szN x.1)), .t (.bool (formOk x.1))]
theorem wrap_dig (c : UInt8) : IntKind.i64.wrap (IntKind.i64.wrap (c.toNat : Int) - 48) = dig c := by
  have := c.toNat_lt
  rw [IntWalk.i64_in (c.toNat : Int) (by omega), IntWalk.i64_in _ (by omega)]; rfl
theorem body_pack_sizes (x : List UInt8 × Unit) (hp : p_pack_sizes x) : avp K_pack_sizes G_pack_sizes (Ret K_pack_sizes [.tmp 2, .tmp 3, .tmp 4] fun v s' => Frz s' v (r_pack_sizes x)) (entry (A_pack_sizes.enc x) .empty) := by
  obtain ⟨s, ⟨⟩⟩ := x
  change s.length ≤ 1099511627776 at hp
  change avp _ _ (Ret _ _ fun v s' => Frz s' v (.tup [.t (sl (szL s)), .t (.int .i64 (szN s)), .t (.bool (formOk s))])) (entry [.t (.str s)] .empty)
  unfold G_pack_sizes
  simp only [vP.down, vS.down, vE.down, qA, qB, qC, qD, qE, qF, qG, reduceIte, reduceCtorEq, qH, qI, qJ, ↓avp_condG, ↓tf_arrow, ↓ft_arrow]
  refine ⟨by omega, fun g hg => ?_⟩
  refine loop_weak hm_pack_sizes (fun k σ => ∃ (i : Nat) (x : AV) (S : Store), k = s.length - i ∧ i ≤ s.length ∧ formOk (s.take i) = true ∧ LV S x (digs (s.take i)) ∧
    σ = mkS [(2, x), (3, .t (.int .i64 (digs (s.take i)).sum)), (9, .t (sl (s.map Byt.mk))), (10, .t (.int .i64 s.length)), (11, .t (.int .i64 (i : Nat)))] S)
    ⟨0, .t .nilS, .empty, rfl, by omega, rfl, lv_nil, rfl⟩ (wk_to fewer_empty (by simp only [vP.down, vS.down, vE.down, qA, qB, qC, qD, qE, qF, qG, reduceIte, reduceCtorEq, qH, qI, qJ, ↓avp_condG, ↓tf_arrow, ↓ft_arrow, wP.down, w2_bytes hg, w2_bytes (empty_none (g := g)), List.take_zero, digs, List.sum_nil, Int.natCast_zero])) ?_
  rintro k _ ⟨i, x, S, rfl, hi, hok, hx, rfl⟩
  simp only [vP.down, vS.down, vE.down, qA, qB, qC, qD, qE, qF, qG, reduceIte, reduceCtorEq, qH, qI, qJ, ↓avp_condG, ↓tf_arrow, ↓ft_arrow, wrap_dig]
  refine ⟨fun hlt => ?_, fun hge => ?_⟩
  · have hl : i < s.length := by omega
    generalize hc : s.getD i 0 = c
    refine ⟨⟨by omega, by simpa using hl⟩, fun hbad => ?_, fun hgood => ?_⟩
    · simp only [vP.down, vS.down, vE.down, qA, qB, qC, qD, qE, qF, qG, reduceIte, reduceCtorEq, qH, qI, qJ, ↓avp_condG, ↓tf_arrow, ↓ft_arrow, vT.down]
      have hf : formOk s = false := formOk_of hl (by rw [hc]; exact digOk_no hbad)
      simp only [szL, szN, hf, Bool.false_eq_true, if_false, frz1_nilS, frz1_t, and_self]
    · refine fun g2 hg2 => ?_
      refine append_lv ty_Lint ty_int rfl (by decide) (hx.fresh hg2) (shows_one (x := dig c) rfl rfl rfl) (by simp [digs]; omega) (by simp [digs]; omega) fun v S' hv _ _ => ?_
      have hsum := digs_sum _ hok
      have hlen : (s.take i).length = i := by simp; omega
      have hsw : IntKind.i64.wrap ((digs (s.take i)).sum + dig c) = (digs (s.take (i + 1))).sum := by
        have := c.toNat_lt
        rw [digs_take hl, hc, List.sum_append, List.sum_singleton]
        exact IntWalk.i64_in _ (by unfold dig; omega)
      have hi1 : IntKind.i64.wrap ((i : Int) + 1) = ((i + 1 : Nat) : Int) := by rw [IntWalk.i64_in _ (by omega)]; rfl
      refine round_to (s.length - (i + 1)) [(2, v), (3, .t (.int .i64 (digs (s.take (i + 1))).sum)), (9, .t (sl (s.map Byt.mk))), (10, .t (.int .i64 s.length)), (11, .t (.int .i64 (i + 1 : Nat)))] S' (by omega) fewer_refl (by simp only [vP.down, vS.down, vE.down, qA, qB, qC, qD, qE, qF, qG, reduceIte, reduceCtorEq, qH, qI, qJ, ↓avp_condG, ↓tf_arrow, ↓ft_arrow, wP.down, hi1, hsw])
        ⟨i + 1, v, S', rfl, by omega, ?_, ?_, rfl⟩
      · rw [formOk_take hl, hok, hc, digOk_of (fun h => hgood.1 h) (fun h => hgood.2 h)]; rfl
      · rw [digs_take hl, hc]; exact hv
  · obtain rfl : i = s.length := by omega
    rw [List.take_length] at hok hx
    simp only [vP.down, vS.down, vE.down, qA, qB, qC, qD, qE, qF, qG, reduceIte, reduceCtorEq, qH, qI, qJ, ↓avp_condG, ↓tf_arrow, ↓ft_arrow, vT.down]
    simp only [szL, szN, hok, if_true, List.take_length, frz1_t, and_true]
    exact hx.frz
noncomputable def c_pack_sizes : Con := fnCon A_pack_sizes p_pack_sizes r_pack_sizes
theorem ok_pack_sizes : COk Try.prog 60 c_pack_sizes := fn_ok sys_pack_sizes mixed Try.func60 (by kernel_rfl) geq_pack_sizes Try.ntmps60 (by rw [Try.results60]) fun x hx => ⟨Nat.le_of_ble_eq_true rfl, body_pack_sizes x hx⟩
end Go.Proofs.Ytofcmdkmhbbbjaa
namespace Go.Proofs.Ytofcmdkmhbbbjaa
open Go Go.Eng
set_option maxRecDepth 100000
def byt (n : Int) : UInt8 := UInt8.ofNat (n % 256).toNat
def be : Nat → Int → List UInt8
  | 0, _ => []
  | k + 1, n => be k (n / 256) ++ [byt n]
def flat (ws l : List Int) : List UInt8 := (List.zipWith (fun w n => be w.toNat n) ws l).flatten
def putF (form : List UInt8) (l : List Int) : List UInt8 := if form.length = l.length ∧ formOk form = true then flat (digs form) l else []
theorem be_len : ∀ k n, (be k n).length = k
  | 0, _ => rfl
  | k + 1, n => by simp [be, be_len k]
theorem byt_nat (n : Int) : ((byt n).toNat : Int) = n % 256 := by
  unfold byt
  rw [UInt8.toNat_ofNat']
  omega
theorem be_step {w m : Nat} (n : Int) (h1 : 1 ≤ m) (h2 : m ≤ w) : be (w - (m - 1)) (n / 2 ^ (8 * (m - 1))) = be (w - m) (n / 2 ^ (8 * m)) ++ [byt (n / 2 ^ (8 * (m - 1)))] := by
  rw [show w - (m - 1) = (w - m) + 1 from by omega, be]
  congr 2
  rw [Int.ediv_ediv_of_nonneg (Int.le_of_lt (Int.pow_pos (by decide)))]
  congr 1
  rw [show 8 * m = 8 * (m - 1) + 8 from by omega, Int.pow_add]
  rfl
theorem digs_at {s : List UInt8} {i : Nat} (hok : formOk s = true) (hi : i < s.length) : ∃ w : Nat, (digs s).getD i 0 = (w : Int) ∧ 1 ≤ w ∧ w ≤ 4 := by
  unfold formOk at hok
  rw [List.all_eq_true] at hok
  have := hok s[i] (List.getElem_mem hi)
  simp only [digOk, Bool.and_eq_true, decide_eq_true_eq] at this
  refine ⟨(dig s[i]).toNat, ?_, by omega, by omega⟩
  simp [digs, List.getD_eq_getElem?_getD, hi]
  omega
theorem flat_step {ws l : List Int} {i w : Nat} (hw : i < ws.length) (hl : i < l.length) (h : ws.getD i 0 = (w : Int)) : flat (ws.take (i + 1)) (l.take (i + 1)) = flat (ws.take i) (l.take i) ++ be w (l.getD i 0) := by
  have h' : ws[i] = (w : Int) := by simpa [List.getD_eq_getElem?_getD, hw] using h
  unfold flat
  rw [List.take_succ_eq_append_getElem hw, List.take_succ_eq_append_getElem hl, List.zipWith_append (by simp; omega)]
  simp [List.getD_eq_getElem?_getD, hl, h']
theorem digs_len (s : List UInt8) : (digs s).length = s.length := by simp [digs]
theorem flat_len {s : List UInt8} (hok : formOk s = true) (l : List Int) (hl : s.length = l.length) : ∀ i, i ≤ s.length → (flat ((digs s).take i) (l.take i)).length ≤ 4 * i := by
  intro i
  induction i with
  | zero => intro _; simp [flat]
  | succ i ih =>
    intro hi
    obtain ⟨w, h1, h2, h3⟩ := digs_at hok (i := i) (by omega)
    rw [flat_step (by rw [digs_len]; omega) (by omega) h1, List.length_append, be_len]
    have := ih (by omega)
    omega
end Go.Proofs.Ytofcmdkmhbbbjaa
namespace Go.Proofs.Ytofcmdkmhbbbjaa
open Go Go.Eng
set_option maxRecDepth 100000
def G_pack_Put : GCode := .seq (.region [⟨(some 4), none, .assign (.const (.string ⟨#[]⟩))⟩]) (.seq (.region [⟨(some 13), none, .move (.tmp 0)⟩, ⟨(some 14), none, .call ⟨.value (.func 60), #[.tmp 13], #[9]⟩⟩, ⟨(some 12), none, .move (.tmp 14)⟩, ⟨(some 15), none, .extract (.tmp 12) 0⟩, ⟨(some 16), none, .extract (.tmp 12) 1⟩, ⟨(some 17), none, .extract (.tmp 12) 2⟩, ⟨(some 5), none, .assign (.tmp 15)⟩, ⟨(some 6), none, .assign (.tmp 16)⟩, ⟨(some 7), none, .assign (.tmp 17)⟩]) (.seq (.seq (.region [⟨(some 18), none, .move (.tmp 7)⟩, ⟨(some 19), none, .unOp .not 4 (.tmp 18)⟩, ⟨(some 20), none, .move (.tmp 19)⟩, ⟨(some 21), (some (20, false)), .move (.tmp 5)⟩, ⟨(some 22), (some (20, false)), .call ⟨.builtin .len, #[.tmp 21], #[58]⟩⟩, ⟨(some 23), (some (20, false)), .move (.tmp 1)⟩, ⟨(some 24), (some (20, false)), .call ⟨.builtin .len, #[.tmp 23], #[58]⟩⟩, ⟨(some 25), (some (20, false)), .binOp .neq 3 (.tmp 22) (.tmp 24) 3⟩, ⟨(some 26), none, .pick (.tmp 20) (.const (.bool true)) (.tmp 25)⟩]) (.cond (.tmp 26) (.seq (.region [⟨(some 4), none, .assign (.const (.string ⟨#[]⟩))⟩]) (.ret)) (.skip))) (.seq (.region [⟨(some 8), none, .assign (.const (.slice none 0 0))⟩]) (.seq (.seq (.region [⟨(some 27), none, .move (.tmp 1)⟩, ⟨(some 28), none, .call ⟨.builtin .len, #[.tmp 27], #[58]⟩⟩, ⟨(some 29), none, .move (.const (.int .i64 0))⟩]) (.block 0 (.loop (.seq .weak (.seq (.region [⟨(some 30), none, .binOp .lss 3 (.tmp 29) (.tmp 28) 3⟩]) (.seq (.cond (.tmp 30) (.skip) (.exit 0)) (.seq (.block 1 (.seq (.region [⟨(some 31), none, .move (.tmp 29)⟩, ⟨(some 32), none, .indexAddr 58 (.tmp 27) (.tmp 29)⟩, ⟨(some 33), none, .load 3 (.tmp 32)⟩, ⟨(some 9), none, .assign (.tmp 31)⟩, ⟨(some 10), none, .assign (.tmp 33)⟩]) (.seq (.region [⟨(some 34), none, .move (.tmp 5)⟩, ⟨(some 35), none, .move (.tmp 9)⟩, ⟨(some 36), none, .indexAddr 58 (.tmp 34) (.tmp 35)⟩, ⟨(some 37), none, .load 3 (.tmp 36)⟩, ⟨(some 38), none, .binOp .sub 3 (.tmp 37) (.const (.int .i64 1)) 3⟩, ⟨(some 11), none, .assign (.tmp 38)⟩]) (.block 2 (.loop (.seq .weak (.seq (.seq (.region [⟨(some 39), none, .move (.tmp 11)⟩, ⟨(some 40), none, .binOp .geq 3 (.tmp 39) (.const (.int .i64 0)) 3⟩]) (.cond (.tmp 40) (.skip) (.exit 2))) (.seq (.block 3 (.region [⟨(some 43), none, .move (.tmp 8)⟩, ⟨(some 44), none, .move (.tmp 10)⟩, ⟨(some 45), none, .move (.tmp 11)⟩, ⟨(some 46), none, .binOp .mul 3 (.const (.int .i64 8)) (.tmp 45) 3⟩, ⟨(some 47), none, .binOp .shr 3 (.tmp 44) (.tmp 46) 3⟩, ⟨(some 48), none, .convert 3 5 (.tmp 47)⟩, ⟨(some 49), none, .buildSlice 22 1 #[(0, .tmp 48)]⟩, ⟨(some 50), none, .call ⟨.builtin .append, #[.tmp 43, .tmp 49], #[22, 22]⟩⟩, ⟨(some 8), none, .assign (.tmp 50)⟩])) (.region [⟨(some 41), none, .move (.tmp 11)⟩, ⟨(some 42), none, .binOp .sub 3 (.tmp 41) (.const (.int .i64 1)) 3⟩, ⟨(some 11), none, .assign (.tmp 42)⟩]))))))))) (.region [⟨(some 51), none, .binOp .add 3 (.tmp 29) (.const (.int .i64 1)) 3⟩, ⟨(some 29), none, .move (.tmp 51)⟩])))))))) (.seq (.region [⟨(some 52), none, .move (.tmp 8)⟩, ⟨(some 53), none, .convert 22 9 (.tmp 52)⟩, ⟨(some 4), none, .assign (.tmp 53)⟩]) (.ret))))))
noncomputable def l_pack_Put : List (Nat × Con) := [(60, c_pack_sizes)]
noncomputable abbrev K_pack_Put : Ctx := ctx (cl l_pack_Put)
theorem geq_pack_Put : gof K_pack_Put Try.f34 = some G_pack_Put.strip := by kernel_rfl
theorem sys_pack_Put : Go.Eng.Sys Try.prog K_pack_Put := sys_of' ⟨ok_pack_sizes, trivial⟩
theorem hm_pack_Put : ConMono K_pack_Put := conMono_of sys_pack_Put.con
noncomputable def k_pack_Put_pack_sizes := PLift.up (call_fn (C := K_pack_Put) (f := 60) (A := A_pack_sizes) (p := p_pack_sizes) (r := r_pack_sizes) rfl)
def A_pack_Put := Arms.cons (argT (List UInt8)) (Arms.cons (argT (List Int)) Arms.nil)
def p_pack_Put (x : List UInt8 × List Int × Unit) : Prop := x.1.length ≤ 1099511627776 ∧ x.2.1.length ≤ 1099511627776
def r_pack_Put (x : List UInt8 × List Int × Unit) : AV := .t (.str (putF x.1 x.2.1))
theorem shr_byt (n : Int) {m : Nat} (h1 : 1 ≤ m) (h4 : m ≤ 4) : IntKind.u8.wrap (n.fdiv (2 ^ min (8 * ((m : Int) - 1)).toNat IntKind.i64.bits)) = ((byt (n / 2 ^ (8 * (m - 1)))).toNat : Int) := by
  rw [byt_nat, u8_wrap]
  have e : min (8 * ((m : Int) - 1)).toNat IntKind.i64.bits = 8 * (m - 1) := by
    have : IntKind.i64.bits = 64 := rfl
    omega
  rw [e, Int.fdiv_eq_ediv_of_nonneg]
  exact Int.le_of_lt (Int.pow_pos (by decide))
theorem map_v (l : List UInt8) : (l.map Byt.mk).map Byt.v = l := by induction l with | nil => rfl | cons a r ih => simp only [List.map_cons, ih]
theorem body_pack_Put (x : List UInt8 × List Int × Unit) (hp : p_pack_Put x) : avp K_pack_Put G_pack_Put (Ret K_pack_Put [.tmp 4] fun v _ => v = r_pack_Put x) (entry (A_pack_Put.enc x) .empty) := by
  obtain ⟨s, l, ⟨⟩⟩ := x
  change s.length ≤ 1099511627776 ∧ l.length ≤ 1099511627776 at hp
  obtain ⟨hs, hl⟩ := hp
  change avp _ _ (Ret _ _ fun v _ => v = .t (.str (putF s l))) (entry [.t (.str s), .t (sl l)] .empty)
  unfold G_pack_Put
  simp only [vP.down, vS.down, vE.down, qA, qB, qC, qD, qE, qF, qG, reduceIte, reduceCtorEq, qH, qI, qJ, ↓avp_condG, ↓tf_arrow, ↓ft_arrow, k_pack_Put_pack_sizes.down, A_pack_sizes, p_pack_sizes, r_pack_sizes]
  refine ⟨hs, fun hbad => ?_, fun hgood => ?_⟩
  · simp only [vP.down, vS.down, vE.down, qA, qB, qC, qD, qE, qF, qG, reduceIte, reduceCtorEq, qH, qI, qJ, ↓avp_condG, ↓tf_arrow, ↓ft_arrow, vT.down]
    have : ¬ (s.length = l.length ∧ formOk s = true) := fun ⟨h1, h2⟩ => by
      rcases hbad with h | h
      · rw [h2] at h; cases h
      · rw [szL, if_pos h2, digs_len] at h; omega
    rw [putF, if_neg this]
  · obtain ⟨hok, hlen⟩ := hgood
    have hsz : szL s = digs s := by rw [szL, if_pos hok]
    rw [hsz, digs_len] at hlen
    have hlen : s.length = l.length := by omega
    simp only [hsz]
    refine loop_weak hm_pack_Put (fun k σ => ∃ (j : Nat) (x : AV) (S : Store), k = l.length - j ∧ j ≤ l.length ∧ LV S x ((flat ((digs s).take j) (l.take j)).map Byt.mk) ∧
      σ = mkS [(5, .t (sl (digs s))), (8, x), (27, .t (sl l)), (28, .t (.int .i64 l.length)), (29, .t (.int .i64 (j : Nat)))] S)
      ⟨0, .t .nilS, .empty, rfl, by omega, lv_nil, rfl⟩ (wk_to fewer_refl (by simp only [vP.down, vS.down, vE.down, qA, qB, qC, qD, qE, qF, qG, reduceIte, reduceCtorEq, qH, qI, qJ, ↓avp_condG, ↓tf_arrow, ↓ft_arrow, wP.down, Int.natCast_zero])) ?_
    rintro k _ ⟨j, x, S, rfl, hj, hx, rfl⟩
    simp only [vP.down, vS.down, vE.down, qA, qB, qC, qD, qE, qF, qG, reduceIte, reduceCtorEq, qH, qI, qJ, ↓avp_condG, ↓tf_arrow, ↓ft_arrow]
    refine ⟨fun hlt => ?_, fun hge => ?_⟩
    · have hjl : j < l.length := by omega
      obtain ⟨w, hw, hw1, hw4⟩ := digs_at hok (i := j) (by omega)
      have hwd : (digs s).getD j default = (w : Int) := hw
      have hw1' : IntKind.i64.wrap ((w : Int) - 1) = (w : Int) - 1 := IntWalk.i64_in _ (by omega)
      simp only [hwd, hw1']
      refine ⟨by omega, by rw [digs_len]; omega, ?_⟩
      generalize hn : l.getD j default = n
      have hfl := flat_len hok l hlen j (by omega)
      refine loop_weak hm_pack_Put (fun k σ => ∃ (x : AV) (S : Store), k ≤ w ∧ LV S x ((flat ((digs s).take j) (l.take j) ++ be (w - k) (n / 2 ^ (8 * k))).map Byt.mk) ∧
        σ = mkS [(5, .t (sl (digs s))), (8, x), (10, .t (.int .i64 n)), (11, .t (.int .i64 ((k : Int) - 1))), (27, .t (sl l)), (28, .t (.int .i64 l.length)), (29, .t (.int .i64 (j : Nat)))] S)
        (k₀ := w) ⟨x, S, Nat.le_refl _, by simpa [be] using hx, rfl⟩ (wk_to fewer_refl (by simp only [vP.down, vS.down, vE.down, qA, qB, qC, qD, qE, qF, qG, reduceIte, reduceCtorEq, qH, qI, qJ, ↓avp_condG, ↓tf_arrow, ↓ft_arrow, wP.down, hn])) ?_
      rintro m _ ⟨x, S, hm, hx, rfl⟩
      simp only [vP.down, vS.down, vE.down, qA, qB, qC, qD, qE, qF, qG, reduceIte, reduceCtorEq, qH, qI, qJ, ↓avp_condG, ↓tf_arrow, ↓ft_arrow]
      refine ⟨fun hpos => ?_, fun hneg => ?_⟩
      · have hm8 : IntKind.i64.wrap (8 * ((m : Int) - 1)) = 8 * ((m : Int) - 1) := IntWalk.i64_in _ (by omega)
        have hmm : IntKind.i64.wrap ((m : Int) - 1 - 1) = ((m - 1 : Nat) : Int) - 1 := by rw [IntWalk.i64_in _ (by omega)]; omega
        have hb := shr_byt n (m := m) (by omega) (by omega)
        simp only [hm8, hb, hmm]
        refine ⟨by omega, fun g hg => ?_⟩
        refine append_lv ty_Luint8 ty_uint8 rfl (by decide) (hx.fresh hg) (shows_one (x := ⟨byt (n / 2 ^ (8 * (m - 1)))⟩) rfl rfl rfl) (by simp [be_len]; omega) (by simp [be_len]; omega) fun v S' hv _ _ => ?_
        refine round_to (m - 1) [(5, .t (sl (digs s))), (8, v), (10, .t (.int .i64 n)), (11, .t (.int .i64 (((m - 1 : Nat) : Int) - 1))), (27, .t (sl l)), (28, .t (.int .i64 l.length)), (29, .t (.int .i64 (j : Nat)))] S' (by omega) fewer_refl (by simp only [vP.down, vS.down, vE.down, qA, qB, qC, qD, qE, qF, qG, reduceIte, reduceCtorEq, qH, qI, qJ, ↓avp_condG, ↓tf_arrow, ↓ft_arrow, wP.down])
          ⟨v, S', by omega, ?_, rfl⟩
        rw [be_step n (by omega) hm, ← List.append_assoc, List.map_append]
        exact hv
      · obtain rfl : m = 0 := by omega
        have hj1 : IntKind.i64.wrap ((j : Int) + 1) = ((j + 1 : Nat) : Int) := by rw [IntWalk.i64_in _ (by omega)]; rfl
        refine round_to (l.length - (j + 1)) [(5, .t (sl (digs s))), (8, x), (27, .t (sl l)), (28, .t (.int .i64 l.length)), (29, .t (.int .i64 (j + 1 : Nat)))] S (by omega) fewer_refl (by simp only [vP.down, vS.down, vE.down, qA, qB, qC, qD, qE, qF, qG, reduceIte, reduceCtorEq, qH, qI, qJ, ↓avp_condG, ↓tf_arrow, ↓ft_arrow, wP.down, hj1])
          ⟨j + 1, x, S, rfl, by omega, ?_, rfl⟩
        rw [flat_step (by rw [digs_len]; omega) hjl hw]
        have : l.getD j 0 = n := hn
        rw [this]
        simpa using hx
    · obtain rfl : j = l.length := by omega
      simp only [vP.down, vS.down, vE.down, qA, qB, qC, qD, qE, qF, qG, reduceIte, reduceCtorEq, qH, qI, qJ, ↓avp_condG, ↓tf_arrow, ↓ft_arrow, conv_lv ty_Luint8 ty_string ty_uint8 hx, vT.down]
      rw [map_v, putF, if_pos ⟨hlen, hok⟩, List.take_length, ← hlen, ← digs_len s, List.take_length]
noncomputable def c_pack_Put : Con := fnScal A_pack_Put p_pack_Put r_pack_Put
theorem ok_pack_Put : COk Try.prog 34 c_pack_Put := fn_sok sys_pack_Put mixed Try.func34 (by kernel_rfl) geq_pack_Put Try.ntmps34 (by rw [Try.results34]) (fun x => by unfold r_pack_Put; simp [AV.scal]) fun x hx => ⟨Nat.le_of_ble_eq_true rfl, body_pack_Put x hx⟩
end Go.Proofs.Ytofcmdkmhbbbjaa
namespace Go.Proofs.Ytofcmdkmhbbbjaa
open Go Go.Eng
set_option maxRecDepth 100000
def G_ref1_Put : GCode := .seq (.region [⟨(some 4), none, .assign (.const (.string ⟨#[]⟩))⟩]) (.seq (.seq (.region [⟨(some 9), none, .move (.tmp 0)⟩, ⟨(some 10), none, .call ⟨.builtin .len, #[.tmp 9], #[9]⟩⟩, ⟨(some 11), none, .move (.tmp 1)⟩, ⟨(some 12), none, .call ⟨.builtin .len, #[.tmp 11], #[58]⟩⟩, ⟨(some 13), none, .binOp .neq 3 (.tmp 10) (.tmp 12) 3⟩]) (.cond (.tmp 13) (.seq (.region [⟨(some 4), none, .assign (.const (.string ⟨#[]⟩))⟩]) (.ret)) (.skip))) (.seq (.region [⟨(some 5), none, .assign (.const (.string ⟨#[]⟩))⟩]) (.seq (.seq (.region [⟨(some 6), none, .assign (.const (.int .i64 0))⟩]) (.block 0 (.loop (.seq .weak (.seq (.seq (.region [⟨(some 14), none, .move (.tmp 6)⟩, ⟨(some 15), none, .move (.tmp 0)⟩, ⟨(some 16), none, .call ⟨.builtin .len, #[.tmp 15], #[9]⟩⟩, ⟨(some 17), none, .binOp .lss 3 (.tmp 14) (.tmp 16) 3⟩]) (.cond (.tmp 17) (.skip) (.exit 0))) (.seq (.block 1 (.seq (.region [⟨(some 20), none, .move (.tmp 0)⟩, ⟨(some 21), none, .move (.tmp 6)⟩, ⟨(some 22), none, .index 9 (.tmp 20) (.tmp 21)⟩, ⟨(some 23), none, .convert 5 3 (.tmp 22)⟩, ⟨(some 24), none, .binOp .sub 3 (.tmp 23) (.const (.int .i64 48)) 3⟩, ⟨(some 7), none, .assign (.tmp 24)⟩]) (.seq (.seq (.region [⟨(some 25), none, .move (.tmp 7)⟩, ⟨(some 26), none, .binOp .lss 3 (.tmp 25) (.const (.int .i64 1)) 3⟩, ⟨(some 27), none, .move (.tmp 26)⟩, ⟨(some 28), (some (27, false)), .move (.tmp 7)⟩, ⟨(some 29), (some (27, false)), .binOp .gtr 3 (.tmp 28) (.const (.int .i64 4)) 3⟩, ⟨(some 30), none, .pick (.tmp 27) (.const (.bool true)) (.tmp 29)⟩]) (.cond (.tmp 30) (.seq (.region [⟨(some 4), none, .assign (.const (.string ⟨#[]⟩))⟩]) (.ret)) (.skip))) (.seq (.region [⟨(some 31), none, .move (.tmp 7)⟩, ⟨(some 32), none, .binOp .sub 3 (.tmp 31) (.const (.int .i64 1)) 3⟩, ⟨(some 8), none, .assign (.tmp 32)⟩]) (.block 2 (.loop (.seq .weak (.seq (.seq (.region [⟨(some 33), none, .move (.tmp 8)⟩, ⟨(some 34), none, .binOp .geq 3 (.tmp 33) (.const (.int .i64 0)) 3⟩]) (.cond (.tmp 34) (.skip) (.exit 2))) (.seq (.block 3 (.region [⟨(some 37), none, .move (.tmp 5)⟩, ⟨(some 38), none, .move (.tmp 1)⟩, ⟨(some 39), none, .move (.tmp 6)⟩, ⟨(some 40), none, .indexAddr 58 (.tmp 38) (.tmp 39)⟩, ⟨(some 41), none, .load 3 (.tmp 40)⟩, ⟨(some 42), none, .move (.tmp 8)⟩, ⟨(some 43), none, .binOp .mul 3 (.const (.int .i64 8)) (.tmp 42) 3⟩, ⟨(some 44), none, .binOp .shr 3 (.tmp 41) (.tmp 43) 3⟩, ⟨(some 45), none, .convert 3 5 (.tmp 44)⟩, ⟨(some 46), none, .buildSlice 22 1 #[(0, .tmp 45)]⟩, ⟨(some 47), none, .convert 22 9 (.tmp 46)⟩, ⟨(some 48), none, .binOp .add 9 (.tmp 37) (.tmp 47) 9⟩, ⟨(some 5), none, .assign (.tmp 48)⟩])) (.region [⟨(some 35), none, .move (.tmp 8)⟩, ⟨(some 36), none, .binOp .sub 3 (.tmp 35) (.const (.int .i64 1)) 3⟩, ⟨(some 8), none, .assign (.tmp 36)⟩])))))))))) (.region [⟨(some 18), none, .move (.tmp 6)⟩, ⟨(some 19), none, .binOp .add 3 (.tmp 18) (.const (.int .i64 1)) 3⟩, ⟨(some 6), none, .assign (.tmp 19)⟩]))))))) (.seq (.region [⟨(some 49), none, .move (.tmp 5)⟩, ⟨(some 4), none, .assign (.tmp 49)⟩]) (.ret)))))
noncomputable def l_ref1_Put : List (Nat × Con) := []
noncomputable abbrev K_ref1_Put : Ctx := ctx (cl l_ref1_Put)
theorem geq_ref1_Put : gof K_ref1_Put Try.f38 = some G_ref1_Put.strip := by kernel_rfl
theorem sys_ref1_Put : Go.Eng.Sys Try.prog K_ref1_Put := sys_of' (l := []) trivial
theorem hm_ref1_Put : ConMono K_ref1_Put := conMono_of sys_ref1_Put.con
def A_ref1_Put := Arms.cons (argT (List UInt8)) (Arms.cons (argT (List Int)) Arms.nil)
def p_ref1_Put (x : List UInt8 × List Int × Unit) : Prop := x.1.length ≤ 1099511627776
def r_ref1_Put (x : List UInt8 × List Int × Unit) : AV := .t (.str (putF x.1 x.2.1))
theorem body_ref1_Put (x : List UInt8 × List Int × Unit) (hp : p_ref1_Put x) : avp K_ref1_Put G_ref1_Put (Ret K_ref1_Put [.tmp 4] fun v _ => v = r_ref1_Put x) (entry (A_ref1_Put.enc x) .empty) := by
  obtain ⟨s, l, ⟨⟩⟩ := x
  change s.length ≤ 1099511627776 at hp
  change avp _ _ (Ret _ _ fun v _ => v = .t (.str (putF s l))) (entry [.t (.str s), .t (sl l)] .empty)
  unfold G_ref1_Put
  simp only [vP.down, vS.down, vE.down, qA, qB, qC, qD, qE, qF, qG, reduceIte, reduceCtorEq, qH, qI, qJ, ↓avp_condG, ↓tf_arrow, ↓ft_arrow]
  refine ⟨fun hbad => ?_, fun hlen => ?_⟩
  · simp only [vP.down, vS.down, vE.down, qA, qB, qC, qD, qE, qF, qG, reduceIte, reduceCtorEq, qH, qI, qJ, ↓avp_condG, ↓tf_arrow, ↓ft_arrow, vT.down]
    rw [putF, if_neg (fun h => hbad (by omega))]
  · have hlen : s.length = l.length := by omega
    refine loop_weak hm_ref1_Put (fun k σ => ∃ (j : Nat), k = s.length - j ∧ j ≤ s.length ∧ formOk (s.take j) = true ∧
      σ = mkS [(0, .t (.str s)), (1, .t (sl l)), (5, .t (.str (flat ((digs s).take j) (l.take j)))), (6, .t (.int .i64 (j : Nat)))] .empty)
      ⟨0, rfl, by omega, rfl, rfl⟩ (wk_to fewer_refl (by simp only [vP.down, vS.down, vE.down, qA, qB, qC, qD, qE, qF, qG, reduceIte, reduceCtorEq, qH, qI, qJ, ↓avp_condG, ↓tf_arrow, ↓ft_arrow, wP.down, flat, List.zipWith_nil_left, List.flatten_nil, Int.natCast_zero])) ?_
    rintro k _ ⟨j, rfl, hj, hok, rfl⟩
    simp only [vP.down, vS.down, vE.down, qA, qB, qC, qD, qE, qF, qG, reduceIte, reduceCtorEq, qH, qI, qJ, ↓avp_condG, ↓tf_arrow, ↓ft_arrow, wrap_dig]
    refine ⟨fun hlt => ?_, fun hge => ?_⟩
    · have hjl : j < s.length := by omega
      generalize hc : s.getD j 0 = c
      refine ⟨⟨by omega, by omega⟩, fun hbad => ?_, fun hgood => ?_⟩
      · simp only [vP.down, vS.down, vE.down, qA, qB, qC, qD, qE, qF, qG, reduceIte, reduceCtorEq, qH, qI, qJ, ↓avp_condG, ↓tf_arrow, ↓ft_arrow, vT.down]
        have hf : formOk s = false := formOk_of hjl (by rw [hc]; exact digOk_no hbad)
        rw [putF, if_neg (fun h => by rw [hf] at h; cases h.2)]
      · have hok' : formOk (s.take (j + 1)) = true := by
          rw [formOk_take hjl, hok, hc, digOk_of (fun h => hgood.1 h) (fun h => hgood.2 h)]; rfl
        obtain ⟨w, hw, hw1, hw4⟩ : ∃ w : Nat, dig c = (w : Int) ∧ 1 ≤ w ∧ w ≤ 4 := ⟨(dig c).toNat, by omega, by omega, by omega⟩
        have hwj : (digs s).getD j 0 = (w : Int) := by
          rw [← hw, ← hc]; simp [digs, List.getD_eq_getElem?_getD, hjl]
        have hwd : IntKind.i64.wrap ((w : Int) - 1) = (w : Int) - 1 := IntWalk.i64_in _ (by omega)
        simp only [hw, hwd]
        have hfl : (flat ((digs s).take j) (l.take j)).length ≤ 4 * j := by
          have h1 := flat_len (s := s.take j) hok (l.take j) (by simp; omega) j (by simp; omega)
          have e1 : (digs (s.take j)).take j = (digs s).take j := by rw [digs, digs, List.map_take, List.take_take, Nat.min_self]
          rw [e1, List.take_take, Nat.min_self] at h1
          exact h1
        generalize hn : l.getD j default = n
        refine loop_weak hm_ref1_Put (fun k σ => k ≤ w ∧
          σ = mkS [(0, .t (.str s)), (1, .t (sl l)), (5, .t (.str (flat ((digs s).take j) (l.take j) ++ be (w - k) (n / 2 ^ (8 * k))))), (6, .t (.int .i64 (j : Nat))), (8, .t (.int .i64 ((k : Int) - 1)))] .empty)
          (k₀ := w) ⟨Nat.le_refl _, rfl⟩ (wk_to fewer_refl (by simp only [vP.down, vS.down, vE.down, qA, qB, qC, qD, qE, qF, qG, reduceIte, reduceCtorEq, qH, qI, qJ, ↓avp_condG, ↓tf_arrow, ↓ft_arrow, wP.down, Nat.sub_self, be])) ?_
        rintro m _ ⟨hm, rfl⟩
        simp only [vP.down, vS.down, vE.down, qA, qB, qC, qD, qE, qF, qG, reduceIte, reduceCtorEq, qH, qI, qJ, ↓avp_condG, ↓tf_arrow, ↓ft_arrow]
        refine ⟨fun hpos => ?_, fun hneg => ?_⟩
        · have hm8 : IntKind.i64.wrap (8 * ((m : Int) - 1)) = 8 * ((m : Int) - 1) := IntWalk.i64_in _ (by omega)
          have hmm : IntKind.i64.wrap ((m : Int) - 1 - 1) = ((m - 1 : Nat) : Int) - 1 := by rw [IntWalk.i64_in _ (by omega)]; omega
          have hb := shr_byt n (m := m) (by omega) (by omega)
          simp only [hn, hm8, hb, hmm]
          refine ⟨⟨by omega, by omega⟩, by omega, fun g hg => ?_⟩
          simp only [vP.down, vS.down, vE.down, qA, qB, qC, qD, qE, qF, qG, reduceIte, reduceCtorEq, qH, qI, qJ, ↓avp_condG, ↓tf_arrow, ↓ft_arrow, UInt8.ofNat_toNat]
          refine ⟨by simp [be_len]; omega, ?_⟩
          refine round_to (m - 1) [(0, .t (.str s)), (1, .t (sl l)), (5, .t (.str (flat ((digs s).take j) (l.take j) ++ be (w - (m - 1)) (n / 2 ^ (8 * (m - 1)))))), (6, .t (.int .i64 (j : Nat))), (8, .t (.int .i64 (((m - 1 : Nat) : Int) - 1)))] .empty (by omega) fewer_empty
            (by simp only [vP.down, vS.down, vE.down, qA, qB, qC, qD, qE, qF, qG, reduceIte, reduceCtorEq, qH, qI, qJ, ↓avp_condG, ↓tf_arrow, ↓ft_arrow, wP.down, be_step n (show 1 ≤ m by omega) hm, List.append_assoc]) ⟨by omega, rfl⟩
        · obtain rfl : m = 0 := by omega
          have hj1 : IntKind.i64.wrap ((j : Int) + 1) = ((j + 1 : Nat) : Int) := by rw [IntWalk.i64_in _ (by omega)]; rfl
          have hst := flat_step (ws := digs s) (l := l) (i := j) (by rw [digs_len]; omega) (by omega) hwj
          have hn' : l.getD j 0 = n := hn
          rw [hn'] at hst
          refine round_to (s.length - (j + 1)) [(0, .t (.str s)), (1, .t (sl l)), (5, .t (.str (flat ((digs s).take (j + 1)) (l.take (j + 1))))), (6, .t (.int .i64 (j + 1 : Nat)))] .empty (by omega) fewer_refl
            (by simp only [vP.down, vS.down, vE.down, qA, qB, qC, qD, qE, qF, qG, reduceIte, reduceCtorEq, qH, qI, qJ, ↓avp_condG, ↓tf_arrow, ↓ft_arrow, wP.down, hj1, hst, Nat.mul_zero, Int.pow_zero, Int.ediv_one, Nat.sub_zero]) ⟨j + 1, rfl, by omega, hok', rfl⟩
    · obtain rfl : j = s.length := by omega
      rw [List.take_length] at hok
      simp only [vP.down, vS.down, vE.down, qA, qB, qC, qD, qE, qF, qG, reduceIte, reduceCtorEq, qH, qI, qJ, ↓avp_condG, ↓tf_arrow, ↓ft_arrow, vT.down]
      rw [putF, if_pos ⟨hlen, hok⟩, ← digs_len s, List.take_length, digs_len, hlen, List.take_length]
noncomputable def c_ref1_Put : Con := fnScal A_ref1_Put p_ref1_Put r_ref1_Put
theorem ok_ref1_Put : COk Try.prog 38 c_ref1_Put := fn_sok sys_ref1_Put mixed Try.func38 (by kernel_rfl) geq_ref1_Put Try.ntmps38 (by rw [Try.results38]) (fun x => by unfold r_ref1_Put; simp [AV.scal]) fun x hx => ⟨Nat.le_of_ble_eq_true rfl, body_ref1_Put x hx⟩
end Go.Proofs.Ytofcmdkmhbbbjaa
namespace Go.Proofs.Ytofcmdkmhbbbjaa
open Go Go.Eng
set_option maxRecDepth 100000
def num (b : List UInt8) : Int := b.foldl (fun v c => v * 256 + (c.toNat : Int)) 0
def takeN : List Int → List UInt8 → List Int
  | [], _ => []
  | w :: ws, s => num (s.take w.toNat) :: takeN ws (s.drop w.toNat)
def takeOk (form s : List UInt8) : Bool := formOk form && decide ((digs form).sum ≤ (s.length : Int))
def takeL (form s : List UInt8) : List Int := if takeOk form s then takeN (digs form) s else []
def takeR (form s : List UInt8) : List UInt8 := if takeOk form s then s.drop (digs form).sum.toNat else []
theorem num_snoc (b : List UInt8) (c : UInt8) : num (b ++ [c]) = num b * 256 + (c.toNat : Int) := by simp [num]
theorem num_step {b : List UInt8} {i : Nat} (h : i < b.length) : num (b.take (i + 1)) = num (b.take i) * 256 + ((b.getD i 0).toNat : Int) := by
  rw [take_step h, num_snoc]
theorem num_bd : ∀ (n : Nat) (b : List UInt8), b.length = n → 0 ≤ num b ∧ num b < 256 ^ n
  | 0, b, h => by
    obtain rfl := List.length_eq_zero_iff.1 h
    simp [num]
  | n + 1, b, h => by
    have hb : b = b.take n ++ [b.getD n 0] := by rw [← take_step (by omega), ← h, List.take_length]
    have := num_bd n (b.take n) (by simp; omega)
    rw [hb, num_snoc]
    have hc := (b.getD n 0).toNat_lt
    rw [Int.pow_succ]
    omega
theorem takeN_len : ∀ (ws : List Int) (s : List UInt8), (takeN ws s).length = ws.length
  | [], _ => rfl
  | _ :: ws, s => by simp [takeN, takeN_len ws]
theorem takeN_snoc : ∀ (ws : List Int) (w : Int) (s : List UInt8), (∀ x ∈ ws, 0 ≤ x) → takeN (ws ++ [w]) s = takeN ws s ++ [num ((s.drop ws.sum.toNat).take w.toNat)]
  | [], w, s, _ => by simp [takeN]
  | a :: ws, w, s, h => by
    have h0 : 0 ≤ a := h a (by simp)
    have hs : 0 ≤ ws.sum := by
      have : ∀ l : List Int, (∀ x ∈ l, 0 ≤ x) → 0 ≤ l.sum := by
        intro l
        induction l with
        | nil => intro _; simp
        | cons b r ih => intro hl; have := ih fun x hx => hl x (by simp [hx]); have := hl b (by simp); simp only [List.sum_cons]; omega
      exact this ws fun x hx => h x (by simp [hx])
    simp only [List.cons_append, takeN]
    rw [takeN_snoc ws w _ fun x hx => h x (by simp [hx]), List.sum_cons, List.drop_drop]
    rw [show a.toNat + ws.sum.toNat = (a + ws.sum).toNat from by omega]
theorem digs_nonneg {s : List UInt8} (h : formOk s = true) : ∀ x ∈ digs s, 0 ≤ x := by
  intro x hx
  simp only [digs, List.mem_map] at hx
  obtain ⟨c, hc, rfl⟩ := hx
  unfold formOk at h
  rw [List.all_eq_true] at h
  have := h c hc
  simp only [digOk, Bool.and_eq_true, decide_eq_true_eq] at this
  omega
theorem formOk_sub {s : List UInt8} (h : formOk s = true) (j : Nat) : formOk (s.take j) = true := by
  unfold formOk at *
  rw [List.all_eq_true] at *
  exact fun x hx => h x (List.mem_of_mem_take hx)
theorem digs_sum_take {s : List UInt8} (h : formOk s = true) (j : Nat) : (digs (s.take j)).sum ≤ (digs s).sum := by
  have e : digs s = digs (s.take j) ++ digs (s.drop j) := by rw [digs, digs, digs, ← List.map_append, List.take_append_drop]
  rw [e, List.sum_append]
  have h2 : formOk (s.drop j) = true := by
    unfold formOk at *
    rw [List.all_eq_true] at *
    exact fun x hx => h x (List.mem_of_mem_drop hx)
  have := (digs_sum _ h2).1
  omega
theorem shl_or {n c : Int} (h0 : 0 ≤ n) (h1 : n < 16777216) (c0 : 0 ≤ c) (c1 : c < 256) :
    IntKind.i64.wrap ((BitVec.ofInt IntKind.i64.bits (IntKind.i64.wrap (n * 2 ^ min 8 IntKind.i64.bits)) ||| BitVec.ofInt IntKind.i64.bits (IntKind.i64.wrap c)).toNat : Int) = n * 256 + c := by
  obtain ⟨a, rfl⟩ := Int.eq_ofNat_of_zero_le h0
  obtain ⟨b, rfl⟩ := Int.eq_ofNat_of_zero_le c0
  have e1 : (a : Int) * 2 ^ min 8 IntKind.i64.bits = ((a * 256 : Nat) : Int) := by
    have : min 8 IntKind.i64.bits = 8 := rfl
    rw [this]; simp
  rw [e1, IntWalk.i64_in ((a * 256 : Nat) : Int) (by omega), IntWalk.i64_in (b : Int) (by omega)]
  have e2 : (BitVec.ofInt IntKind.i64.bits ((a * 256 : Nat) : Int) ||| BitVec.ofInt IntKind.i64.bits (b : Int)).toNat = a * 256 + b := by
    rw [BitVec.toNat_or, BitVec.ofInt_natCast, BitVec.ofInt_natCast, BitVec.toNat_ofNat, BitVec.toNat_ofNat]
    have : IntKind.i64.bits = 64 := rfl
    rw [this, Nat.mod_eq_of_lt (by omega), Nat.mod_eq_of_lt (by omega)]
    have := Nat.shiftLeft_add_eq_or_of_lt (show b < 2 ^ 8 by omega) a
    rw [Nat.shiftLeft_eq] at this
    exact this.symm
  rw [e2, IntWalk.i64_in _ (by omega)]
  omega
end Go.Proofs.Ytofcmdkmhbbbjaa
namespace Go.Proofs.Ytofcmdkmhbbbjaa
open Go Go.Eng
set_option maxRecDepth 100000
def G_pack_Take : GCode := .seq (.region [⟨(some 4), none, .assign (.const (.slice none 0 0))⟩, ⟨(some 5), none, .assign (.const (.string ⟨#[]⟩))⟩, ⟨(some 6), none, .assign (.const (.bool false))⟩]) (.seq (.region [⟨(some 15), none, .move (.tmp 0)⟩, ⟨(some 16), none, .call ⟨.value (.func 60), #[.tmp 15], #[9]⟩⟩, ⟨(some 14), none, .move (.tmp 16)⟩, ⟨(some 17), none, .extract (.tmp 14) 0⟩, ⟨(some 18), none, .extract (.tmp 14) 1⟩, ⟨(some 19), none, .extract (.tmp 14) 2⟩, ⟨(some 7), none, .assign (.tmp 17)⟩, ⟨(some 8), none, .assign (.tmp 18)⟩, ⟨(some 6), none, .assign (.tmp 19)⟩]) (.seq (.seq (.region [⟨(some 20), none, .move (.tmp 6)⟩, ⟨(some 21), none, .unOp .not 4 (.tmp 20)⟩, ⟨(some 22), none, .move (.tmp 21)⟩, ⟨(some 23), (some (22, false)), .move (.tmp 1)⟩, ⟨(some 24), (some (22, false)), .call ⟨.builtin .len, #[.tmp 23], #[9]⟩⟩, ⟨(some 25), (some (22, false)), .move (.tmp 8)⟩, ⟨(some 26), (some (22, false)), .binOp .lss 3 (.tmp 24) (.tmp 25) 3⟩, ⟨(some 27), none, .pick (.tmp 22) (.const (.bool true)) (.tmp 26)⟩]) (.cond (.tmp 27) (.seq (.region [⟨(some 4), none, .assign (.const (.slice none 0 0))⟩, ⟨(some 5), none, .assign (.const (.string ⟨#[]⟩))⟩, ⟨(some 6), none, .assign (.const (.bool false))⟩]) (.ret)) (.skip))) (.seq (.seq (.region [⟨(some 28), none, .move (.tmp 7)⟩, ⟨(some 29), none, .call ⟨.builtin .len, #[.tmp 28], #[58]⟩⟩, ⟨(some 30), none, .move (.const (.int .i64 0))⟩]) (.block 0 (.loop (.seq .weak (.seq (.region [⟨(some 31), none, .binOp .lss 3 (.tmp 30) (.tmp 29) 3⟩]) (.seq (.cond (.tmp 31) (.skip) (.exit 0)) (.seq (.block 1 (.seq (.region [⟨(some 32), none, .indexAddr 58 (.tmp 28) (.tmp 30)⟩, ⟨(some 33), none, .load 3 (.tmp 32)⟩, ⟨(some 10), none, .assign (.tmp 33)⟩]) (.seq (.region [⟨(some 11), none, .assign (.const (.int .i64 0))⟩]) (.seq (.seq (.region [⟨(some 34), none, .move (.tmp 1)⟩, ⟨(some 35), none, .move (.tmp 10)⟩, ⟨(some 36), none, .slice 9 (.tmp 34) none (some (.tmp 35)) none⟩, ⟨(some 37), none, .convert 9 22 (.tmp 36)⟩, ⟨(some 38), none, .call ⟨.builtin .len, #[.tmp 37], #[22]⟩⟩, ⟨(some 39), none, .move (.const (.int .i64 0))⟩]) (.block 2 (.loop (.seq .weak (.seq (.region [⟨(some 40), none, .binOp .lss 3 (.tmp 39) (.tmp 38) 3⟩]) (.seq (.cond (.tmp 40) (.skip) (.exit 2)) (.seq (.block 3 (.seq (.region [⟨(some 41), none, .indexAddr 22 (.tmp 37) (.tmp 39)⟩, ⟨(some 42), none, .load 5 (.tmp 41)⟩, ⟨(some 13), none, .assign (.tmp 42)⟩]) (.region [⟨(some 43), none, .move (.tmp 11)⟩, ⟨(some 44), none, .binOp .shl 3 (.tmp 43) (.const (.int .u64 8)) 103⟩, ⟨(some 45), none, .move (.tmp 13)⟩, ⟨(some 46), none, .convert 5 3 (.tmp 45)⟩, ⟨(some 47), none, .binOp .or 3 (.tmp 44) (.tmp 46) 3⟩, ⟨(some 11), none, .assign (.tmp 47)⟩]))) (.region [⟨(some 48), none, .binOp .add 3 (.tmp 39) (.const (.int .i64 1)) 3⟩, ⟨(some 39), none, .move (.tmp 48)⟩])))))))) (.region [⟨(some 49), none, .move (.tmp 4)⟩, ⟨(some 50), none, .move (.tmp 11)⟩, ⟨(some 51), none, .buildSlice 58 1 #[(0, .tmp 50)]⟩, ⟨(some 52), none, .call ⟨.builtin .append, #[.tmp 49, .tmp 51], #[58, 58]⟩⟩, ⟨(some 53), none, .move (.tmp 1)⟩, ⟨(some 54), none, .move (.tmp 10)⟩, ⟨(some 55), none, .slice 9 (.tmp 53) (some (.tmp 54)) none none⟩, ⟨(some 4), none, .assign (.tmp 52)⟩, ⟨(some 1), none, .assign (.tmp 55)⟩]))))) (.region [⟨(some 56), none, .binOp .add 3 (.tmp 30) (.const (.int .i64 1)) 3⟩, ⟨(some 30), none, .move (.tmp 56)⟩])))))))) (.seq (.region [⟨(some 57), none, .move (.tmp 4)⟩, ⟨(some 58), none, .move (.tmp 1)⟩, ⟨(some 4), none, .assign (.tmp 57)⟩, ⟨(some 5), none, .assign (.tmp 58)⟩, ⟨(some 6), none, .assign (.const (.bool true))⟩]) (.ret)))))
noncomputable def l_pack_Take : List (Nat × Con) := [(60, c_pack_sizes)]
noncomputable abbrev K_pack_Take : Ctx := ctx (cl l_pack_Take)
theorem geq_pack_Take : gof K_pack_Take Try.f45 = some G_pack_Take.strip := by kernel_rfl
theorem sys_pack_Take : Go.Eng.Sys Try.prog K_pack_Take := sys_of' ⟨ok_pack_sizes, trivial⟩
theorem hm_pack_Take : ConMono K_pack_Take := conMono_of sys_pack_Take.con
noncomputable def k_pack_Take_pack_sizes := PLift.up (call_fn (C := K_pack_Take) (f := 60) (A := A_pack_sizes) (p := p_pack_sizes) (r := r_pack_sizes) rfl)
def A_pack_Take := Arms.cons (argT (List UInt8)) (Arms.cons (argT (List UInt8)) Arms.nil)
def p_pack_Take (x : List UInt8 × List UInt8 × Unit) : Prop := x.1.length ≤ 1099511627776 ∧ x.2.1.length ≤ 1099511627776
def r_pack_Take (x : List UInt8 × List UInt8 × Unit) : AV := .tup [.t (sl (takeL x.1 x.2.1)), .t (.str (takeR x.1 x.2.1)), .t (.bool (takeOk x.1 x.2.1))]
theorem take_next_sum {s : List UInt8} {j w : Nat} (hj : j < s.length) (h : (digs s).getD j 0 = (w : Int)) : (digs (s.take (j + 1))).sum = (digs (s.take j)).sum + w := by
  have : dig (s.getD j 0) = (w : Int) := by
    simp [digs, List.getD_eq_getElem?_getD, hj] at h ⊢
    exact h
  rw [digs_take hj, List.sum_append, List.sum_singleton, this]
theorem body_pack_Take (x : List UInt8 × List UInt8 × Unit) (hp : p_pack_Take x) : avp K_pack_Take G_pack_Take (Ret K_pack_Take [.tmp 4, .tmp 5, .tmp 6] fun v s' => Frz s' v (r_pack_Take x)) (entry (A_pack_Take.enc x) .empty) := by
  obtain ⟨f, s, ⟨⟩⟩ := x
  change f.length ≤ 1099511627776 ∧ s.length ≤ 1099511627776 at hp
  obtain ⟨hf, hs⟩ := hp
  change avp _ _ (Ret _ _ fun v s' => Frz s' v (.tup [.t (sl (takeL f s)), .t (.str (takeR f s)), .t (.bool (takeOk f s))])) (entry [.t (.str f), .t (.str s)] .empty)
  unfold G_pack_Take
  simp only [vP.down, vS.down, vE.down, qA, qB, qC, qD, qE, qF, qG, reduceIte, reduceCtorEq, qH, qI, qJ, ↓avp_condG, ↓tf_arrow, ↓ft_arrow, k_pack_Take_pack_sizes.down, A_pack_sizes, p_pack_sizes, r_pack_sizes]
  refine ⟨hf, fun hbad => ?_, fun hgood => ?_⟩
  · simp only [vP.down, vS.down, vE.down, qA, qB, qC, qD, qE, qF, qG, reduceIte, reduceCtorEq, qH, qI, qJ, ↓avp_condG, ↓tf_arrow, ↓ft_arrow, vT.down]
    have : takeOk f s = false := by
      unfold takeOk
      rcases hbad with h | h
      · rw [h]; rfl
      · by_cases h2 : formOk f = true
        · rw [szN, if_pos h2] at h
          simp only [Bool.and_eq_false_imp, decide_eq_false_iff_not]
          intro _; omega
        · simp [h2]
    simp only [takeL, takeR, this, Bool.false_eq_true, if_false, frz1_nilS, frz1_t, and_self]
  · obtain ⟨hok, hlen⟩ := hgood
    have hsz : szL f = digs f := by rw [szL, if_pos hok]
    rw [szN, if_pos hok] at hlen
    have hT : takeOk f s = true := by
      unfold takeOk; rw [hok]; simp; omega
    simp only [hsz]
    refine loop_weak hm_pack_Take (fun k σ => ∃ (j : Nat) (x : AV) (S : Store), k = f.length - j ∧ j ≤ f.length ∧ LV S x (takeN (digs (f.take j)) s) ∧
      σ = mkS [(1, .t (.str (s.drop (digs (f.take j)).sum.toNat))), (4, x), (28, .t (sl (digs f))), (29, .t (.int .i64 f.length)), (30, .t (.int .i64 (j : Nat)))] S)
      ⟨0, .t .nilS, .empty, rfl, by omega, lv_nil, rfl⟩ (wk_to fewer_refl (by simp only [vP.down, vS.down, vE.down, qA, qB, qC, qD, qE, qF, qG, reduceIte, reduceCtorEq, qH, qI, qJ, ↓avp_condG, ↓tf_arrow, ↓ft_arrow, wP.down, digs_len, List.take_zero, digs, List.length_map, List.sum_nil, Int.toNat_zero, Int.natCast_zero])) ?_
    rintro k _ ⟨j, x, S, rfl, hj, hx, rfl⟩
    simp only [vP.down, vS.down, vE.down, qA, qB, qC, qD, qE, qF, qG, reduceIte, reduceCtorEq, qH, qI, qJ, ↓avp_condG, ↓tf_arrow, ↓ft_arrow]
    refine ⟨fun hlt => ?_, fun hge => ?_⟩
    · have hjl : j < f.length := by omega
      obtain ⟨w, hw, hw1, hw4⟩ := digs_at hok (i := j) hjl
      have hwd : (digs f).getD j default = (w : Int) := hw
      have hs1 := take_next_sum hjl hw
      have hs2 := digs_sum_take hok (j + 1)
      have hs0 := (digs_sum _ (formOk_sub hok j)).1
      simp only [hwd]
      generalize hb : s.drop (digs (f.take j)).sum.toNat = b
      have hbl : w ≤ b.length := by rw [← hb, List.length_drop]; omega
      have hbl2 : b.length ≤ s.length := by rw [← hb, List.length_drop]; omega
      have hdl := digs_len f
      ((repeat' with_reducible refine And.intro ?_ ?_) <;> try (first | omega | (simp only [List.length_take, List.length_drop, List.length_append, List.length_map, List.length_replicate] <;> omega)))
      refine fun g hg => ?_
      have hbt : (b.take w).length = w := by simp; omega
      refine loop_weak hm_pack_Take (fun k σ => ∃ (i : Nat), k = w - i ∧ i ≤ w ∧
        σ = mkS [(1, .t (.str b)), (4, x), (10, .t (.int .i64 w)), (11, .t (.int .i64 (num ((b.take w).take i)))), (28, .t (sl (digs f))), (29, .t (.int .i64 f.length)), (30, .t (.int .i64 (j : Nat))),
          (37, .t (sl ((b.take w).map Byt.mk))), (38, .t (.int .i64 w)), (39, .t (.int .i64 (i : Nat)))] S)
        ⟨0, rfl, by omega, rfl⟩ (wk_to (fewer_fresh hg) (by simp only [vP.down, vS.down, vE.down, qA, qB, qC, qD, qE, qF, qG, reduceIte, reduceCtorEq, qH, qI, qJ, ↓avp_condG, ↓tf_arrow, ↓ft_arrow, wP.down, w2_bytes' hg hbt, hbt, List.take_zero, num, List.foldl_nil, Int.natCast_zero])) ?_
      rintro m _ ⟨i, rfl, hi, rfl⟩
      simp only [vP.down, vS.down, vE.down, qA, qB, qC, qD, qE, qF, qG, reduceIte, reduceCtorEq, qH, qI, qJ, ↓avp_condG, ↓tf_arrow, ↓ft_arrow]
      refine ⟨fun hlt2 => ?_, fun hge2 => ?_⟩
      · have hil : i < w := by omega
        have hnb := num_bd i ((b.take w).take i) (by simp; omega)
        have h24 : (256 : Int) ^ i ≤ 16777216 := by
          have : i ≤ 3 := by omega
          rcases (by omega : i = 0 ∨ i = 1 ∨ i = 2 ∨ i = 3) with rfl | rfl | rfl | rfl <;> decide
        have hcb := ((b.take w).getD i 0).toNat_lt
        have ho := shl_or hnb.1 (show num ((b.take w).take i) < 16777216 by omega) (show 0 ≤ (((b.take w).getD i 0).toNat : Int) by omega) (by omega)
        have hns := num_step (b := b.take w) (i := i) (by omega)
        have hi1 : IntKind.i64.wrap ((i : Int) + 1) = ((i + 1 : Nat) : Int) := by rw [IntWalk.i64_in _ (by omega)]; rfl
        ((repeat' with_reducible refine And.intro ?_ ?_) <;> try (first | omega | (simp only [List.length_take, List.length_drop, List.length_append, List.length_map, List.length_replicate] <;> omega)))
        refine round_to (w - (i + 1)) [(1, .t (.str b)), (4, x), (10, .t (.int .i64 w)), (11, .t (.int .i64 (num ((b.take w).take (i + 1))))), (28, .t (sl (digs f))), (29, .t (.int .i64 f.length)), (30, .t (.int .i64 (j : Nat))),
          (37, .t (sl ((b.take w).map Byt.mk))), (38, .t (.int .i64 w)), (39, .t (.int .i64 (i + 1 : Nat)))] S (by omega) fewer_refl (by simp only [vP.down, vS.down, vE.down, qA, qB, qC, qD, qE, qF, qG, reduceIte, reduceCtorEq, qH, qI, qJ, ↓avp_condG, ↓tf_arrow, ↓ft_arrow, wP.down, hi1, hns, ho]) ⟨i + 1, rfl, by omega, rfl⟩
      · obtain rfl : i = w := by omega
        have hbt2 : (b.take i).take i = b.take i := by rw [List.take_take, Nat.min_self]
        rw [hbt2]
        refine fun g hg => ?_
        refine append_lv ty_Lint ty_int rfl (by decide) (hx.fresh hg) (shows_one (x := num (b.take i)) rfl rfl rfl) (by simp [takeN_len, digs]; omega) (by simp [takeN_len, digs]; omega) fun v S' hv _ _ => ?_
        have hj1 : IntKind.i64.wrap ((j : Int) + 1) = ((j + 1 : Nat) : Int) := by rw [IntWalk.i64_in _ (by omega)]; rfl
        have hdr : s.drop ((digs (f.take j)).sum + (i : Int)).toNat = b.drop i := by
          rw [← hb, List.drop_drop]; congr 1; omega
        have hnt : takeN (digs (f.take (j + 1))) s = takeN (digs (f.take j)) s ++ [num (b.take i)] := by
          have h1 : dig (f.getD j 0) = (i : Int) := by
            simp [digs, List.getD_eq_getElem?_getD, hjl] at hw ⊢
            exact hw
          rw [digs_take hjl, takeN_snoc _ _ _ (digs_nonneg (formOk_sub hok j)), hb, h1, Int.toNat_natCast]
        ((repeat' with_reducible refine And.intro ?_ ?_) <;> try (first | omega | (simp only [List.length_take, List.length_drop, List.length_append, List.length_map, List.length_replicate] <;> omega)))
        refine round_to (f.length - (j + 1)) [(1, .t (.str (s.drop (digs (f.take (j + 1))).sum.toNat))), (4, v), (28, .t (sl (digs f))), (29, .t (.int .i64 f.length)), (30, .t (.int .i64 (j + 1 : Nat)))] S' (by omega) fewer_refl
          (by simp only [vP.down, vS.down, vE.down, qA, qB, qC, qD, qE, qF, qG, reduceIte, reduceCtorEq, qH, qI, qJ, ↓avp_condG, ↓tf_arrow, ↓ft_arrow, wP.down, hj1, hs1, hdr]) ⟨j + 1, v, S', rfl, by omega, by rw [hnt]; exact hv, rfl⟩
    · obtain rfl : j = f.length := by omega
      rw [List.take_length] at hx
      simp only [vP.down, vS.down, vE.down, qA, qB, qC, qD, qE, qF, qG, reduceIte, reduceCtorEq, qH, qI, qJ, ↓avp_condG, ↓tf_arrow, ↓ft_arrow, vT.down]
      simp only [takeL, takeR, hT, if_true, List.take_length, frz1_t, and_true]
      exact hx.frz
noncomputable def c_pack_Take : Con := fnCon A_pack_Take p_pack_Take r_pack_Take
theorem ok_pack_Take : COk Try.prog 45 c_pack_Take := fn_ok sys_pack_Take mixed Try.func45 (by kernel_rfl) geq_pack_Take Try.ntmps45 (by rw [Try.results45]) fun x hx => ⟨Nat.le_of_ble_eq_true rfl, body_pack_Take x hx⟩
end Go.Proofs.Ytofcmdkmhbbbjaa
namespace Go.Proofs.Ytofcmdkmhbbbjaa
open Go Go.Eng
set_option maxRecDepth 100000
def G_ref1_Take : GCode := .seq (.region [⟨(some 4), none, .assign (.const (.slice none 0 0))⟩, ⟨(some 5), none, .assign (.const (.string ⟨#[]⟩))⟩, ⟨(some 6), none, .assign (.const (.bool false))⟩]) (.seq (.region [⟨(some 7), none, .assign (.const (.slice none 0 0))⟩]) (.seq (.seq (.region [⟨(some 8), none, .assign (.const (.int .i64 0))⟩]) (.block 0 (.loop (.seq .weak (.seq (.seq (.region [⟨(some 12), none, .move (.tmp 8)⟩, ⟨(some 13), none, .move (.tmp 0)⟩, ⟨(some 14), none, .call ⟨.builtin .len, #[.tmp 13], #[9]⟩⟩, ⟨(some 15), none, .binOp .lss 3 (.tmp 12) (.tmp 14) 3⟩]) (.cond (.tmp 15) (.skip) (.exit 0))) (.seq (.block 1 (.seq (.region [⟨(some 18), none, .move (.tmp 0)⟩, ⟨(some 19), none, .move (.tmp 8)⟩, ⟨(some 20), none, .index 9 (.tmp 18) (.tmp 19)⟩, ⟨(some 21), none, .convert 5 3 (.tmp 20)⟩, ⟨(some 22), none, .binOp .sub 3 (.tmp 21) (.const (.int .i64 48)) 3⟩, ⟨(some 9), none, .assign (.tmp 22)⟩]) (.seq (.seq (.region [⟨(some 23), none, .move (.tmp 9)⟩, ⟨(some 24), none, .binOp .lss 3 (.tmp 23) (.const (.int .i64 1)) 3⟩, ⟨(some 25), none, .move (.tmp 24)⟩, ⟨(some 26), (some (25, false)), .move (.tmp 9)⟩, ⟨(some 27), (some (25, false)), .binOp .gtr 3 (.tmp 26) (.const (.int .i64 4)) 3⟩, ⟨(some 28), none, .pick (.tmp 25) (.const (.bool true)) (.tmp 27)⟩, ⟨(some 29), none, .move (.tmp 28)⟩, ⟨(some 30), (some (29, false)), .move (.tmp 1)⟩, ⟨(some 31), (some (29, false)), .call ⟨.builtin .len, #[.tmp 30], #[9]⟩⟩, ⟨(some 32), (some (29, false)), .move (.tmp 9)⟩, ⟨(some 33), (some (29, false)), .binOp .lss 3 (.tmp 31) (.tmp 32) 3⟩, ⟨(some 34), none, .pick (.tmp 29) (.const (.bool true)) (.tmp 33)⟩]) (.cond (.tmp 34) (.seq (.region [⟨(some 4), none, .assign (.const (.slice none 0 0))⟩, ⟨(some 5), none, .assign (.const (.string ⟨#[]⟩))⟩, ⟨(some 6), none, .assign (.const (.bool false))⟩]) (.ret)) (.skip))) (.seq (.region [⟨(some 10), none, .assign (.const (.int .i64 0))⟩]) (.seq (.seq (.region [⟨(some 11), none, .assign (.const (.int .i64 0))⟩]) (.block 2 (.loop (.seq .weak (.seq (.seq (.region [⟨(some 35), none, .move (.tmp 11)⟩, ⟨(some 36), none, .move (.tmp 9)⟩, ⟨(some 37), none, .binOp .lss 3 (.tmp 35) (.tmp 36) 3⟩]) (.cond (.tmp 37) (.skip) (.exit 2))) (.seq (.block 3 (.region [⟨(some 40), none, .move (.tmp 10)⟩, ⟨(some 41), none, .binOp .mul 3 (.tmp 40) (.const (.int .i64 256)) 3⟩, ⟨(some 42), none, .move (.tmp 1)⟩, ⟨(some 43), none, .move (.tmp 11)⟩, ⟨(some 44), none, .index 9 (.tmp 42) (.tmp 43)⟩, ⟨(some 45), none, .convert 5 3 (.tmp 44)⟩, ⟨(some 46), none, .binOp .add 3 (.tmp 41) (.tmp 45) 3⟩, ⟨(some 10), none, .assign (.tmp 46)⟩])) (.region [⟨(some 38), none, .move (.tmp 11)⟩, ⟨(some 39), none, .binOp .add 3 (.tmp 38) (.const (.int .i64 1)) 3⟩, ⟨(some 11), none, .assign (.tmp 39)⟩]))))))) (.region [⟨(some 47), none, .move (.tmp 7)⟩, ⟨(some 48), none, .move (.tmp 10)⟩, ⟨(some 49), none, .buildSlice 58 1 #[(0, .tmp 48)]⟩, ⟨(some 50), none, .call ⟨.builtin .append, #[.tmp 47, .tmp 49], #[58, 58]⟩⟩, ⟨(some 51), none, .move (.tmp 1)⟩, ⟨(some 52), none, .move (.tmp 9)⟩, ⟨(some 53), none, .slice 9 (.tmp 51) (some (.tmp 52)) none none⟩, ⟨(some 7), none, .assign (.tmp 50)⟩, ⟨(some 1), none, .assign (.tmp 53)⟩])))))) (.region [⟨(some 16), none, .move (.tmp 8)⟩, ⟨(some 17), none, .binOp .add 3 (.tmp 16) (.const (.int .i64 1)) 3⟩, ⟨(some 8), none, .assign (.tmp 17)⟩]))))))) (.seq (.region [⟨(some 54), none, .move (.tmp 7)⟩, ⟨(some 55), none, .move (.tmp 1)⟩, ⟨(some 4), none, .assign (.tmp 54)⟩, ⟨(some 5), none, .assign (.tmp 55)⟩, ⟨(some 6), none, .assign (.const (.bool true))⟩]) (.ret))))
noncomputable def l_ref1_Take : List (Nat × Con) := []
noncomputable abbrev K_ref1_Take : Ctx := ctx (cl l_ref1_Take)
theorem geq_ref1_Take : gof K_ref1_Take Try.f47 = some G_ref1_Take.strip := by kernel_rfl
theorem sys_ref1_Take : Go.Eng.Sys Try.prog K_ref1_Take := sys_of' (l := []) trivial
theorem hm_ref1_Take : ConMono K_ref1_Take := conMono_of sys_ref1_Take.con
def A_ref1_Take := Arms.cons (argT (List UInt8)) (Arms.cons (argT (List UInt8)) Arms.nil)
def p_ref1_Take (x : List UInt8 × List UInt8 × Unit) : Prop := x.1.length ≤ 1099511627776 ∧ x.2.1.length ≤ 1099511627776
def r_ref1_Take (x : List UInt8 × List UInt8 × Unit) : AV := .tup [.t (sl (takeL x.1 x.2.1)), .t (.str (takeR x.1 x.2.1)), .t (.bool (takeOk x.1 x.2.1))]
theorem body_ref1_Take (x : List UInt8 × List UInt8 × Unit) (hp : p_ref1_Take x) : avp K_ref1_Take G_ref1_Take (Ret K_ref1_Take [.tmp 4, .tmp 5, .tmp 6] fun v s' => Frz s' v (r_ref1_Take x)) (entry (A_ref1_Take.enc x) .empty) := by
  obtain ⟨f, s, ⟨⟩⟩ := x
  change f.length ≤ 1099511627776 ∧ s.length ≤ 1099511627776 at hp
  obtain ⟨hf, hs⟩ := hp
  change avp _ _ (Ret _ _ fun v s' => Frz s' v (.tup [.t (sl (takeL f s)), .t (.str (takeR f s)), .t (.bool (takeOk f s))])) (entry [.t (.str f), .t (.str s)] .empty)
  unfold G_ref1_Take
  simp only [vP.down, vS.down, vE.down, qA, qB, qC, qD, qE, qF, qG, reduceIte, reduceCtorEq, qH, qI, qJ, ↓avp_condG, ↓tf_arrow, ↓ft_arrow]
  refine loop_weak hm_ref1_Take (fun k σ => ∃ (j : Nat) (x : AV) (S : Store), k = f.length - j ∧ j ≤ f.length ∧ formOk (f.take j) = true ∧ (digs (f.take j)).sum ≤ s.length ∧ LV S x (takeN (digs (f.take j)) s) ∧
    σ = mkS [(0, .t (.str f)), (1, .t (.str (s.drop (digs (f.take j)).sum.toNat))), (7, x), (8, .t (.int .i64 (j : Nat)))] S)
    ⟨0, .t .nilS, .empty, rfl, by omega, rfl, by simp [digs], lv_nil, rfl⟩ (wk_to fewer_refl (by simp only [vP.down, vS.down, vE.down, qA, qB, qC, qD, qE, qF, qG, reduceIte, reduceCtorEq, qH, qI, qJ, ↓avp_condG, ↓tf_arrow, ↓ft_arrow, wP.down, List.take_zero, digs, List.sum_nil, Int.toNat_zero, Int.natCast_zero])) ?_
  rintro k _ ⟨j, x, S, rfl, hj, hok, hsum, hx, rfl⟩
  simp only [vP.down, vS.down, vE.down, qA, qB, qC, qD, qE, qF, qG, reduceIte, reduceCtorEq, qH, qI, qJ, ↓avp_condG, ↓tf_arrow, ↓ft_arrow, wrap_dig]
  have hs0 := (digs_sum _ hok).1
  refine ⟨fun hlt => ?_, fun hge => ?_⟩
  · have hjl : j < f.length := by omega
    generalize hc : f.getD j 0 = c
    generalize hb : s.drop (digs (f.take j)).sum.toNat = b
    have hbl : (b.length : Int) = s.length - (digs (f.take j)).sum := by rw [← hb, List.length_drop]; omega
    have hok1 := formOk_take hjl
    rw [hok, hc, Bool.true_and] at hok1
    have hs1 : (digs (f.take (j + 1))).sum = (digs (f.take j)).sum + dig c := by rw [digs_take hjl, List.sum_append, List.sum_singleton, hc]
    ((repeat' with_reducible refine And.intro ?_ ?_) <;> try (first | omega | (simp only [List.length_take, List.length_drop, List.length_append, List.length_map, List.length_replicate] <;> omega)))
    · intro hbad
      simp only [vP.down, vS.down, vE.down, qA, qB, qC, qD, qE, qF, qG, reduceIte, reduceCtorEq, qH, qI, qJ, ↓avp_condG, ↓tf_arrow, ↓ft_arrow, vT.down]
      have : takeOk f s = false := by
        unfold takeOk
        by_cases h2 : formOk f = true
        · have h3 := formOk_sub h2 (j + 1)
          rw [hok1] at h3
          have h4 := digs_sum_take h2 (j + 1)
          have h5 : digOk c = true := h3
          simp only [digOk, Bool.and_eq_true, decide_eq_true_eq] at h5
          simp only [Bool.and_eq_false_imp, decide_eq_false_iff_not]
          intro _; omega
        · simp [h2]
      simp only [takeL, takeR, this, Bool.false_eq_true, if_false, frz1_nilS, frz1_t, and_self]
    · rintro ⟨⟨hg1, hg2⟩, hg3⟩
      obtain ⟨w, hw⟩ : ∃ w : Nat, dig c = (w : Int) := ⟨(dig c).toNat, by omega⟩
      rw [hw] at hg1 hg2 hg3 hs1
      simp only [hw]
      have hwb : w ≤ b.length := by omega
      refine loop_weak hm_ref1_Take (fun k σ => ∃ (i : Nat), k = w - i ∧ i ≤ w ∧
        σ = mkS [(0, .t (.str f)), (1, .t (.str b)), (7, x), (8, .t (.int .i64 (j : Nat))), (9, .t (.int .i64 w)), (10, .t (.int .i64 (num (b.take i)))), (11, .t (.int .i64 (i : Nat)))] S)
        ⟨0, rfl, by omega, rfl⟩ (wk_to fewer_refl (by simp only [vP.down, vS.down, vE.down, qA, qB, qC, qD, qE, qF, qG, reduceIte, reduceCtorEq, qH, qI, qJ, ↓avp_condG, ↓tf_arrow, ↓ft_arrow, wP.down, List.take_zero, num, List.foldl_nil, Int.natCast_zero])) ?_
      rintro m _ ⟨i, rfl, hi, rfl⟩
      simp only [vP.down, vS.down, vE.down, qA, qB, qC, qD, qE, qF, qG, reduceIte, reduceCtorEq, qH, qI, qJ, ↓avp_condG, ↓tf_arrow, ↓ft_arrow]
      refine ⟨fun hlt2 => ?_, fun hge2 => ?_⟩
      · have hil : i < w := by omega
        have hnb := num_bd i (b.take i) (by simp; omega)
        have h24 : (256 : Int) ^ i ≤ 16777216 := by
          rcases (by omega : i = 0 ∨ i = 1 ∨ i = 2 ∨ i = 3) with rfl | rfl | rfl | rfl <;> decide
        have hcb := (b.getD i 0).toNat_lt
        have hns := num_step (b := b) (i := i) (by omega)
        have hi1 : IntKind.i64.wrap ((i : Int) + 1) = ((i + 1 : Nat) : Int) := by rw [IntWalk.i64_in _ (by omega)]; rfl
        have e1 : IntKind.i64.wrap (num (b.take i) * 256) = num (b.take i) * 256 := IntWalk.i64_in _ (by omega)
        have e2 : IntKind.i64.wrap ((b.getD i 0).toNat : Int) = ((b.getD i 0).toNat : Int) := IntWalk.i64_in _ (by omega)
        have e3 : IntKind.i64.wrap (num (b.take i) * 256 + ((b.getD i 0).toNat : Int)) = num (b.take i) * 256 + ((b.getD i 0).toNat : Int) := IntWalk.i64_in _ (by omega)
        ((repeat' with_reducible refine And.intro ?_ ?_) <;> try (first | omega | (simp only [List.length_take, List.length_drop, List.length_append, List.length_map, List.length_replicate] <;> omega)))
        refine round_to (w - (i + 1)) [(0, .t (.str f)), (1, .t (.str b)), (7, x), (8, .t (.int .i64 (j : Nat))), (9, .t (.int .i64 w)), (10, .t (.int .i64 (num (b.take (i + 1))))), (11, .t (.int .i64 (i + 1 : Nat)))] S (by omega) fewer_refl
          (by simp only [vP.down, vS.down, vE.down, qA, qB, qC, qD, qE, qF, qG, reduceIte, reduceCtorEq, qH, qI, qJ, ↓avp_condG, ↓tf_arrow, ↓ft_arrow, wP.down, hi1, hns, e1, e2, e3]) ⟨i + 1, rfl, by omega, rfl⟩
      · obtain rfl : i = w := by omega
        refine fun g hg => ?_
        refine append_lv ty_Lint ty_int rfl (by decide) (hx.fresh hg) (shows_one (x := num (b.take i)) rfl rfl rfl) (by simp [takeN_len, digs]; omega) (by simp [takeN_len, digs]; omega) fun v S' hv _ _ => ?_
        have hj1 : IntKind.i64.wrap ((j : Int) + 1) = ((j + 1 : Nat) : Int) := by rw [IntWalk.i64_in _ (by omega)]; rfl
        have hdr : s.drop ((digs (f.take j)).sum + (i : Int)).toNat = b.drop i := by
          rw [← hb, List.drop_drop]; congr 1; omega
        have hnt : takeN (digs (f.take (j + 1))) s = takeN (digs (f.take j)) s ++ [num (b.take i)] := by
          rw [digs_take hjl, takeN_snoc _ _ _ (digs_nonneg hok), hb, hc, hw, Int.toNat_natCast]
        ((repeat' with_reducible refine And.intro ?_ ?_) <;> try (first | omega | (simp only [List.length_take, List.length_drop, List.length_append, List.length_map, List.length_replicate] <;> omega)))
        refine round_to (f.length - (j + 1)) [(0, .t (.str f)), (1, .t (.str (s.drop (digs (f.take (j + 1))).sum.toNat))), (7, v), (8, .t (.int .i64 (j + 1 : Nat)))] S' (by omega) fewer_refl
          (by simp only [vP.down, vS.down, vE.down, qA, qB, qC, qD, qE, qF, qG, reduceIte, reduceCtorEq, qH, qI, qJ, ↓avp_condG, ↓tf_arrow, ↓ft_arrow, wP.down, hj1, hs1, hdr]) ⟨j + 1, v, S', rfl, by omega, ?_, by omega, by rw [hnt]; exact hv, rfl⟩
        rw [hok1, digOk_of (by omega) (by omega)]
  · obtain rfl : j = f.length := by omega
    rw [List.take_length] at hx hok hsum
    have hT : takeOk f s = true := by
      unfold takeOk; rw [hok]; simp; omega
    simp only [vP.down, vS.down, vE.down, qA, qB, qC, qD, qE, qF, qG, reduceIte, reduceCtorEq, qH, qI, qJ, ↓avp_condG, ↓tf_arrow, ↓ft_arrow, vT.down]
    simp only [takeL, takeR, hT, if_true, List.take_length, frz1_t, and_true]
    exact hx.frz
noncomputable def c_ref1_Take : Con := fnCon A_ref1_Take p_ref1_Take r_ref1_Take
theorem ok_ref1_Take : COk Try.prog 47 c_ref1_Take := fn_ok sys_ref1_Take mixed Try.func47 (by kernel_rfl) geq_ref1_Take Try.ntmps47 (by rw [Try.results47]) fun x hx => ⟨Nat.le_of_ble_eq_true rfl, body_ref1_Take x hx⟩
end Go.Proofs.Ytofcmdkmhbbbjaa
namespace Go.Proofs.Ytofcmdkmhbbbjaa
open Go Go.Eng
set_option maxRecDepth 100000
theorem num_be : ∀ (k : Nat) (n : Int), num (be k n) = n % 256 ^ k
  | 0, n => by simp [be, num, Int.emod_one]
  | k + 1, n => by
    rw [be, num_snoc, num_be k, byt_nat]
    have hp : (0 : Int) < 256 ^ k := Int.pow_pos (by decide)
    have h1 := Int.mul_ediv_add_emod n 256
    have h2 := Int.mul_ediv_add_emod (n / 256) (256 ^ k)
    have h3 := Int.emod_nonneg (n / 256) (Int.ne_of_gt hp)
    have h4 := Int.emod_lt_of_pos (n / 256) hp
    have h5 := Int.emod_nonneg n (show (256 : Int) ≠ 0 by decide)
    have h6 := Int.emod_lt_of_pos n (show (0 : Int) < 256 by decide)
    have e : n = (n / 256 % 256 ^ k * 256 + n % 256) + 256 ^ (k + 1) * (n / 256 / 256 ^ k) := by
      rw [Int.pow_succ, Int.mul_assoc, Int.mul_comm (256 ^ k), Int.mul_assoc, Int.mul_comm (n / 256 / 256 ^ k)]
      omega
    have hlt : n / 256 % 256 ^ k * 256 + n % 256 < 256 ^ (k + 1) := by rw [Int.pow_succ]; omega
    conv => rhs; rw [e]
    rw [Int.add_mul_emod_self_left, Int.emod_eq_of_lt (by omega) hlt]
end Go.Proofs.Ytofcmdkmhbbbjaa
namespace Go.Proofs.Ytofcmdkmhbbbjaa
open Go Go.Eng
set_option maxRecDepth 100000
theorem flat_cons (w n : Int) (ws l : List Int) : flat (w :: ws) (n :: l) = be w.toNat n ++ flat ws l := by simp [flat]
theorem flat_sum : ∀ (ws l : List Int), (∀ x ∈ ws, 0 ≤ x) → ws.length = l.length → ((flat ws l).length : Int) = ws.sum
  | [], [], _, _ => by simp [flat]
  | w :: ws, n :: l, h, hl => by
    have := flat_sum ws l (fun x hx => h x (by simp [hx])) (by simpa using hl)
    have hw : 0 ≤ w := h w (by simp)
    rw [flat_cons, List.length_append, be_len, List.sum_cons]
    omega
  | [], _ :: _, _, hl => by simp at hl
  | _ :: _, [], _, hl => by simp at hl
theorem take_flat : ∀ (ws l : List Int) (b : List UInt8), ws.length = l.length → takeN ws (flat ws l ++ b) = List.zipWith (fun w n => n % 256 ^ w.toNat) ws l
  | [], [], _, _ => by simp [takeN]
  | w :: ws, n :: l, b, hl => by
    have := take_flat ws l b (by simpa using hl)
    have e1 : (be w.toNat n ++ (flat ws l ++ b)).take w.toNat = be w.toNat n := List.take_left' (be_len _ _)
    have e2 : (be w.toNat n ++ (flat ws l ++ b)).drop w.toNat = flat ws l ++ b := List.drop_left' (be_len _ _)
    rw [flat_cons, List.append_assoc, takeN, e1, e2, this, num_be]
    rfl
  | [], _ :: _, _, hl => by simp at hl
  | _ :: _, [], _, hl => by simp at hl
theorem take_put {f : List UInt8} {l : List Int} (b : List UInt8) (hok : formOk f = true) (hl : f.length = l.length) :
    putF f l = flat (digs f) l ∧ ((putF f l).length : Int) = (digs f).sum ∧ takeOk f (putF f l ++ b) = true ∧ takeL f (putF f l ++ b) = List.zipWith (fun w n => n % 256 ^ w.toNat) (digs f) l ∧ takeR f (putF f l ++ b) = b := by
  have e : putF f l = flat (digs f) l := by rw [putF, if_pos ⟨hl, hok⟩]
  have hs := flat_sum (digs f) l (digs_nonneg hok) (by rw [digs_len]; exact hl)
  have ht : takeOk f (flat (digs f) l ++ b) = true := by
    unfold takeOk
    rw [hok, Bool.true_and, decide_eq_true_eq, List.length_append]
    omega
  rw [e]
  refine ⟨rfl, hs, ht, ?_, ?_⟩
  · rw [takeL, if_pos ht, take_flat _ _ _ (by rw [digs_len]; exact hl)]
  · rw [takeR, if_pos ht, List.drop_left' (by omega)]
theorem map_at {α β : Type} (f : α → β) (d : α) : ∀ (l : List α) (i : Nat), i < l.length → (l.map f).drop i = f (l.getD i d) :: (l.map f).drop (i + 1)
  | a :: r, 0, _ => by simp
  | a :: r, i + 1, h => by
    have := map_at f d r i (by simpa using h)
    simpa using this
  | [], _, h => by simp at h
theorem take_map_next {α β : Type} (f : α → β) (d : α) {l : List α} {i : Nat} (h : i < l.length) : (l.take (i + 1)).map f = (l.take i).map f ++ [f (l.getD i d)] := by
  rw [List.take_succ_eq_append_getElem h, List.map_append]
  simp [List.getD_eq_getElem?_getD, h]
end Go.Proofs.Ytofcmdkmhbbbjaa
namespace Go.Proofs.Ytofcmdkmhbbbjaa
open Go Go.Eng
set_option maxRecDepth 100000
def zeroP : TPtr := ⟨0, 0, (0, 0, 0, 0)⟩
def numB (n : Int) : Bool := decide (0 ≤ n) && decide (n ≤ 1073741824)
def mayP (p : TPtr) : Bool := decide (0 ≤ p.Addr) && decide (p.Addr ≤ 65535) && numB p.Birth && (decide (0 < p.Addr) || decide (p = zeroP))
def G_ref1_num : GCode := .seq (.region [⟨(some 2), none, .assign (.const (.bool false))⟩]) (.seq (.region [⟨(some 3), none, .move (.tmp 0)⟩, ⟨(some 4), none, .binOp .geq 3 (.tmp 3) (.const (.int .i64 0)) 3⟩, ⟨(some 5), none, .move (.tmp 4)⟩, ⟨(some 6), (some (5, true)), .move (.tmp 0)⟩, ⟨(some 7), (some (5, true)), .binOp .leq 3 (.tmp 6) (.const (.int .i64 1073741824)) 3⟩, ⟨(some 8), none, .pick (.tmp 5) (.tmp 7) (.const (.bool false))⟩, ⟨(some 2), none, .assign (.tmp 8)⟩]) (.ret))
noncomputable def l_ref1_num : List (Nat × Con) := []
noncomputable abbrev K_ref1_num : Ctx := ctx (cl l_ref1_num)
theorem geq_ref1_num : gof K_ref1_num Try.f79 = some G_ref1_num.strip := by kernel_rfl
theorem sys_ref1_num : Go.Eng.Sys Try.prog K_ref1_num := sys_of' (l := []) trivial
def A_ref1_num := Arms.cons (argT Int) Arms.nil
def p_ref1_num (_ : Int × Unit) : Prop := True
def r_ref1_num (x : Int × Unit) : AV := .t (.bool (numB x.1))
theorem body_ref1_num (x : Int × Unit) (_ : p_ref1_num x) : avp K_ref1_num G_ref1_num (Ret K_ref1_num [.tmp 2] fun v _ => v = r_ref1_num x) (entry (A_ref1_num.enc x) .empty) := by
  obtain ⟨n, ⟨⟩⟩ := x
  change avp _ _ (Ret _ _ fun v _ => v = .t (.bool (numB n))) (entry [.t (.int .i64 n)] .empty)
  unfold G_ref1_num
  simp only [vP.down, vS.down, vE.down, qA, qB, qC, qD, qE, qF, qG, reduceIte, reduceCtorEq, qH, qI, qJ, ↓avp_condG, ↓tf_arrow, ↓ft_arrow]
  simp only [vP.down, vS.down, vE.down, qA, qB, qC, qD, qE, qF, qG, reduceIte, reduceCtorEq, qH, qI, qJ, ↓avp_condG, ↓tf_arrow, ↓ft_arrow, vT.down]
  rfl
noncomputable def c_ref1_num : Con := fnScal A_ref1_num p_ref1_num r_ref1_num
theorem ok_ref1_num : COk Try.prog 79 c_ref1_num := fn_sok sys_ref1_num mixed Try.func79 (by kernel_rfl) geq_ref1_num Try.ntmps79 (by rw [Try.results79]) (fun x => by unfold r_ref1_num; simp [AV.scal]) fun x hx => ⟨Nat.le_of_ble_eq_true rfl, body_ref1_num x hx⟩
theorem zero_cells {x : TPtr} : (decide (x.Addr = 0) && (decide (x.Birth = 0) && (decide ((x.Sum.1.toNat : Int) = 0) && (decide ((x.Sum.2.1.toNat : Int) = 0) && (decide ((x.Sum.2.2.1.toNat : Int) = 0) && decide ((x.Sum.2.2.2.toNat : Int) = 0)))))) = decide (x = zeroP) := by
  rw [← dec_TPtr]; rfl
def G_ptr_May : GCode := .seq (.region [⟨(some 1), none, .box 29 (.tmp 0)⟩, ⟨(some 2), none, .assign (.const (.bool false))⟩]) (.seq (.seq (.region [⟨(some 3), none, .fieldAddr 29 (.tmp 1) 0⟩, ⟨(some 4), none, .load 3 (.tmp 3)⟩, ⟨(some 5), none, .binOp .eql 3 (.tmp 4) (.const (.int .i64 0)) 3⟩]) (.cond (.tmp 5) (.seq (.region [⟨(some 6), none, .load 29 (.tmp 1)⟩, ⟨(some 7), none, .build 29 #[]⟩, ⟨(some 8), none, .binOp .eql 29 (.tmp 6) (.tmp 7) 29⟩, ⟨(some 2), none, .assign (.tmp 8)⟩]) (.ret)) (.skip))) (.seq (.region [⟨(some 9), none, .fieldAddr 29 (.tmp 1) 0⟩, ⟨(some 10), none, .load 3 (.tmp 9)⟩, ⟨(some 11), none, .binOp .gtr 3 (.tmp 10) (.const (.int .i64 0)) 3⟩, ⟨(some 12), none, .move (.tmp 11)⟩, ⟨(some 13), (some (12, true)), .fieldAddr 29 (.tmp 1) 0⟩, ⟨(some 14), (some (12, true)), .load 3 (.tmp 13)⟩, ⟨(some 15), (some (12, true)), .binOp .leq 3 (.tmp 14) (.const (.int .i64 65535)) 3⟩, ⟨(some 16), none, .pick (.tmp 12) (.tmp 15) (.const (.bool false))⟩, ⟨(some 17), none, .move (.tmp 16)⟩, ⟨(some 18), (some (17, true)), .fieldAddr 29 (.tmp 1) 1⟩, ⟨(some 19), (some (17, true)), .load 3 (.tmp 18)⟩, ⟨(some 20), (some (17, true)), .binOp .geq 3 (.tmp 19) (.const (.int .i64 0)) 3⟩, ⟨(some 21), none, .pick (.tmp 17) (.tmp 20) (.const (.bool false))⟩, ⟨(some 22), none, .move (.tmp 21)⟩, ⟨(some 23), (some (22, true)), .fieldAddr 29 (.tmp 1) 1⟩, ⟨(some 24), (some (22, true)), .load 3 (.tmp 23)⟩, ⟨(some 25), (some (22, true)), .binOp .leq 3 (.tmp 24) (.const (.int .i64 1073741824)) 3⟩, ⟨(some 26), none, .pick (.tmp 22) (.tmp 25) (.const (.bool false))⟩, ⟨(some 2), none, .assign (.tmp 26)⟩]) (.ret)))
noncomputable def l_ptr_May : List (Nat × Con) := []
noncomputable abbrev K_ptr_May : Ctx := ctx (cl l_ptr_May)
theorem geq_ptr_May : gof K_ptr_May Try.f61 = some G_ptr_May.strip := by kernel_rfl
theorem sys_ptr_May : Go.Eng.Sys Try.prog K_ptr_May := sys_of' (l := []) trivial
def A_ptr_May := Arms.cons (argA TPtr) Arms.nil
def p_ptr_May (_ : TPtr × Unit) : Prop := True
def r_ptr_May (x : TPtr × Unit) : AV := .t (.bool (mayP x.1))
theorem body_ptr_May (x : TPtr × Unit) (_ : p_ptr_May x) : avp K_ptr_May G_ptr_May (Ret K_ptr_May [.tmp 2] fun v _ => v = r_ptr_May x) (entry (A_ptr_May.enc x) .empty) := by
  obtain ⟨p, ⟨⟩⟩ := x
  change avp _ _ (Ret _ _ fun v _ => v = .t (.bool (mayP p))) (entry [.agg ((Cell.enc p).map .t)] .empty)
  unfold G_ptr_May
  simp only [vP.down, vS.down, vE.down, qA, qB, qC, qD, qE, qF, qG, reduceIte, reduceCtorEq, qH, qI, qJ, ↓avp_condG, ↓tf_arrow, ↓ft_arrow]
  intro g hg
  refine ⟨fun h0 => ?_, fun h0 => ?_⟩
  · simp only [vP.down, vS.down, vE.down, qA, qB, qC, qD, qE, qF, qG, reduceIte, reduceCtorEq, qH, qI, qJ, ↓avp_condG, ↓tf_arrow, ↓ft_arrow, vT.down, zero_cells]
    have : mayP p = decide (p = zeroP) := by
      unfold mayP numB
      rw [Bool.eq_iff_iff]
      simp only [Bool.and_eq_true, Bool.or_eq_true, decide_eq_true_eq]
      constructor
      · rintro ⟨_, h | h⟩
        · omega
        · exact h
      · intro h
        rw [h]
        exact ⟨by decide, .inr rfl⟩
    rw [this]
  · simp only [vP.down, vS.down, vE.down, qA, qB, qC, qD, qE, qF, qG, reduceIte, reduceCtorEq, qH, qI, qJ, ↓avp_condG, ↓tf_arrow, ↓ft_arrow, vT.down]
    have : mayP p = (decide (0 < p.Addr) && decide (p.Addr ≤ 65535) && decide (0 ≤ p.Birth) && decide (p.Birth ≤ 1073741824)) := by
      unfold mayP numB
      have hz : p ≠ zeroP := fun h => h0 (by rw [h]; rfl)
      rw [Bool.eq_iff_iff]
      simp only [Bool.and_eq_true, Bool.or_eq_true, decide_eq_true_eq]
      constructor
      · rintro ⟨⟨⟨h1, h2⟩, h3, h4⟩, h | h⟩
        · exact ⟨⟨⟨h, h2⟩, h3⟩, h4⟩
        · exact absurd h hz
      · rintro ⟨⟨⟨h1, h2⟩, h3⟩, h4⟩
        exact ⟨⟨⟨by omega, h2⟩, h3, h4⟩, .inl h1⟩
    rw [this]
noncomputable def c_ptr_May : Con := fnScal A_ptr_May p_ptr_May r_ptr_May
theorem ok_ptr_May : COk Try.prog 61 c_ptr_May := fn_sok sys_ptr_May mixed Try.func61 (by kernel_rfl) geq_ptr_May Try.ntmps61 (by rw [Try.results61]) (fun x => by unfold r_ptr_May; simp [AV.scal]) fun x hx => ⟨Nat.le_of_ble_eq_true rfl, body_ptr_May x hx⟩
def numsP (p : TPtr) : List Int := [p.Addr, p.Birth, (p.Sum.1.toNat : Int), (p.Sum.2.1.toNat : Int), (p.Sum.2.2.1.toNat : Int), (p.Sum.2.2.2.toNat : Int)]
def sumL (p : TPtr) : List UInt32 := [p.Sum.1, p.Sum.2.1, p.Sum.2.2.1, p.Sum.2.2.2]
def G_ptr_pointer_numbers : GCode := .seq (.region [⟨(some 1), none, .box 108 (.tmp 0)⟩, ⟨(some 2), none, .assign (.const (.slice none 0 0))⟩]) (.seq (.region [⟨(some 6), none, .fieldAddr 108 (.tmp 1) 0⟩, ⟨(some 7), none, .fieldAddr 29 (.tmp 6) 0⟩, ⟨(some 8), none, .load 3 (.tmp 7)⟩, ⟨(some 9), none, .fieldAddr 108 (.tmp 1) 0⟩, ⟨(some 10), none, .fieldAddr 29 (.tmp 9) 1⟩, ⟨(some 11), none, .load 3 (.tmp 10)⟩, ⟨(some 12), none, .buildSlice 58 2 #[(0, .tmp 8), (1, .tmp 11)]⟩, ⟨(some 3), none, .assign (.tmp 12)⟩]) (.seq (.seq (.region [⟨(some 13), none, .fieldAddr 108 (.tmp 1) 0⟩, ⟨(some 14), none, .fieldAddr 29 (.tmp 13) 2⟩, ⟨(some 15), none, .load 27 (.tmp 14)⟩, ⟨(some 16), none, .move (.const (.int .i64 0))⟩]) (.block 0 (.loop (.seq .weak (.seq (.region [⟨(some 17), none, .binOp .lss 3 (.tmp 16) (.const (.int .i64 4)) 3⟩]) (.seq (.cond (.tmp 17) (.skip) (.exit 0)) (.seq (.block 1 (.seq (.region [⟨(some 18), none, .index 27 (.tmp 15) (.tmp 16)⟩, ⟨(some 5), none, .assign (.tmp 18)⟩]) (.region [⟨(some 19), none, .move (.tmp 3)⟩, ⟨(some 20), none, .move (.tmp 5)⟩, ⟨(some 21), none, .convert 25 3 (.tmp 20)⟩, ⟨(some 22), none, .buildSlice 58 1 #[(0, .tmp 21)]⟩, ⟨(some 23), none, .call ⟨.builtin .append, #[.tmp 19, .tmp 22], #[58, 58]⟩⟩, ⟨(some 3), none, .assign (.tmp 23)⟩]))) (.region [⟨(some 24), none, .binOp .add 3 (.tmp 16) (.const (.int .i64 1)) 3⟩, ⟨(some 16), none, .move (.tmp 24)⟩])))))))) (.seq (.region [⟨(some 25), none, .move (.tmp 3)⟩, ⟨(some 2), none, .assign (.tmp 25)⟩]) (.ret))))
noncomputable def l_ptr_pointer_numbers : List (Nat × Con) := []
noncomputable abbrev K_ptr_pointer_numbers : Ctx := ctx (cl l_ptr_pointer_numbers)
theorem geq_ptr_pointer_numbers : gof K_ptr_pointer_numbers Try.f63 = some G_ptr_pointer_numbers.strip := by kernel_rfl
theorem sys_ptr_pointer_numbers : Go.Eng.Sys Try.prog K_ptr_pointer_numbers := sys_of' (l := []) trivial
theorem hm_ptr_pointer_numbers : ConMono K_ptr_pointer_numbers := conMono_of sys_ptr_pointer_numbers.con
def A_ptr_pointer_numbers := Arms.cons (argA Tpointer) Arms.nil
def p_ptr_pointer_numbers (_ : Tpointer × Unit) : Prop := True
def r_ptr_pointer_numbers (x : Tpointer × Unit) : AV := .t (sl (numsP x.1.Ptr))
theorem body_ptr_pointer_numbers (x : Tpointer × Unit) (_ : p_ptr_pointer_numbers x) : avp K_ptr_pointer_numbers G_ptr_pointer_numbers (Ret K_ptr_pointer_numbers [.tmp 2] fun v s' => Frz s' v (r_ptr_pointer_numbers x)) (entry (A_ptr_pointer_numbers.enc x) .empty) := by
  obtain ⟨⟨p⟩, ⟨⟩⟩ := x
  change avp _ _ (Ret _ _ fun v s' => Frz s' v (.t (sl (numsP p)))) (entry [.agg ((Cell.enc (⟨p⟩ : Tpointer)).map .t)] .empty)
  unfold G_ptr_pointer_numbers
  simp only [vP.down, vS.down, vE.down, qA, qB, qC, qD, qE, qF, qG, reduceIte, reduceCtorEq, qH, qI, qJ, ↓avp_condG, ↓tf_arrow, ↓ft_arrow]
  intro g hg g2 hg2
  have hL : LV ((Store.empty.set g (some (.box [.t (.int .i64 p.Addr), .t (.int .i64 p.Birth), .t (.int .u32 (p.Sum.1.toNat : Int)), .t (.int .u32 (p.Sum.2.1.toNat : Int)), .t (.int .u32 (p.Sum.2.2.1.toNat : Int)), .t (.int .u32 (p.Sum.2.2.2.toNat : Int))] false))).set g2 (some (.row 1 [[.int .i64 p.Addr], [.int .i64 p.Birth]] false))) (.tok g2 1 0 2) ((numsP p).take 2) :=
    lv_tok (l := [p.Addr, p.Birth]) (Store.set_same _ _ _)
  have hne := Store.ne_new hg2
  simp only [vP.down, vS.down, vE.down, qA, qB, qC, qD, qE, qF, qG, reduceIte, reduceCtorEq, qH, qI, qJ, ↓avp_condG, ↓tf_arrow, ↓ft_arrow, set_f, hne.symm]
  refine loop_weak hm_ptr_pointer_numbers (fun k σ => ∃ (i : Nat) (x : AV) (S : Store), k = 4 - i ∧ i ≤ 4 ∧ LV S x ((numsP p).take (2 + i)) ∧
    σ = mkS [(3, x), (15, .agg ((sumL p).map fun u => AV.t (.int .u32 (u.toNat : Int)))), (16, .t (.int .i64 (i : Nat)))] S)
    ⟨0, _, _, rfl, by omega, hL, rfl⟩ (wk_to fewer_refl (by simp only [vP.down, vS.down, vE.down, qA, qB, qC, qD, qE, qF, qG, reduceIte, reduceCtorEq, qH, qI, qJ, ↓avp_condG, ↓tf_arrow, ↓ft_arrow, wP.down, Int.natCast_zero, sumL])) ?_
  rintro k _ ⟨i, x, S, rfl, hi, hx, rfl⟩
  simp only [vP.down, vS.down, vE.down, qA, qB, qC, qD, qE, qF, qG, reduceIte, reduceCtorEq, qH, qI, qJ, ↓avp_condG, ↓tf_arrow, ↓ft_arrow]
  refine ⟨fun hlt => ?_, fun hge => ?_⟩
  · have hi4 : i < 4 := by omega
    have d1 := map_at (fun u : UInt32 => AV.t (.int .u32 (u.toNat : Int))) 0 (sumL p) i hi4
    have hub := ((sumL p).getD i 0).toNat_lt
    have hcv : IntKind.i64.wrap (((sumL p).getD i 0).toNat : Int) = (((sumL p).getD i 0).toNat : Int) := IntWalk.i64_in _ (by omega)
    have hi1 : IntKind.i64.wrap ((i : Int) + 1) = ((i + 1 : Nat) : Int) := by rw [IntWalk.i64_in _ (by omega)]; rfl
    have hnx : (numsP p).take (2 + (i + 1)) = (numsP p).take (2 + i) ++ [(((sumL p).getD i 0).toNat : Int)] := by
      rcases (by omega : i = 0 ∨ i = 1 ∨ i = 2 ∨ i = 3) with rfl | rfl | rfl | rfl <;> rfl
    simp only [vP.down, vS.down, vE.down, qA, qB, qC, qD, qE, qF, qG, reduceIte, reduceCtorEq, qH, qI, qJ, ↓avp_condG, ↓tf_arrow, ↓ft_arrow, Nat.mul_one, d1, hcv]
    ((repeat' with_reducible refine And.intro ?_ ?_) <;> try (first | omega | (simp only [List.length_take, List.length_drop, List.length_append, List.length_map, List.length_replicate] <;> omega)))
    intro g3 hg3
    refine append_lv ty_Lint ty_int rfl (by decide) (hx.fresh hg3) (shows_one (x := (((sumL p).getD i 0).toNat : Int)) rfl rfl rfl) (by simp; omega) (by simp; omega) fun v S' hv _ _ => ?_
    exact round_to (4 - (i + 1)) [(3, v), (15, .agg ((sumL p).map fun u => AV.t (.int .u32 (u.toNat : Int)))), (16, .t (.int .i64 (i + 1 : Nat)))] S' (by omega) fewer_refl (by simp only [vP.down, vS.down, vE.down, qA, qB, qC, qD, qE, qF, qG, reduceIte, reduceCtorEq, qH, qI, qJ, ↓avp_condG, ↓tf_arrow, ↓ft_arrow, wP.down, hi1]) ⟨i + 1, v, S', rfl, by omega, by rw [hnx]; exact hv, rfl⟩
  · obtain rfl : i = 4 := by omega
    simp only [vP.down, vS.down, vE.down, qA, qB, qC, qD, qE, qF, qG, reduceIte, reduceCtorEq, qH, qI, qJ, ↓avp_condG, ↓tf_arrow, ↓ft_arrow, vT.down]
    exact hx.frz
noncomputable def c_ptr_pointer_numbers : Con := fnCon A_ptr_pointer_numbers p_ptr_pointer_numbers r_ptr_pointer_numbers
theorem ok_ptr_pointer_numbers : COk Try.prog 63 c_ptr_pointer_numbers := fn_ok sys_ptr_pointer_numbers mixed Try.func63 (by kernel_rfl) geq_ptr_pointer_numbers Try.ntmps63 (by rw [Try.results63]) fun x hx => ⟨Nat.le_of_ble_eq_true rfl, body_ptr_pointer_numbers x hx⟩
def u32I (n : Int) : UInt32 := UInt32.ofNat (n % 4294967296).toNat
theorem u32I_wrap (n : Int) : IntKind.u32.wrap n = ((u32I n).toNat : Int) := by
  have e : IntKind.u32.wrap n = n % 4294967296 := by simp [IntKind.wrap, IntKind.signed, IntKind.bits]
  rw [e]
  unfold u32I
  rw [UInt32.toNat_ofNat']
  omega
def ofN (l : List Int) : TPtr := ⟨l.getD 0 0, l.getD 1 0, (u32I (l.getD 2 0), u32I (l.getD 3 0), u32I (l.getD 4 0), u32I (l.getD 5 0))⟩
def ofC (l : List Int) (i : Nat) : List AV :=
  [.t (.int .i64 (l.getD 0 0)), .t (.int .i64 (l.getD 1 0)), .t (.int .u32 (if 0 < i then ((u32I (l.getD 2 0)).toNat : Int) else 0)), .t (.int .u32 (if 1 < i then ((u32I (l.getD 3 0)).toNat : Int) else 0)),
    .t (.int .u32 (if 2 < i then ((u32I (l.getD 4 0)).toNat : Int) else 0)), .t (.int .u32 (if 3 < i then ((u32I (l.getD 5 0)).toNat : Int) else 0))]
theorem ofC_len (l : List Int) (i : Nat) : (ofC l i).length = 6 := rfl
theorem ofC_step (l : List Int) {i : Nat} (h : i < 4) : (ofC l i).take (2 + i) ++ [.t (.int .u32 ((u32I (l.getD (2 + i) 0)).toNat : Int))] ++ (ofC l i).drop (2 + i + 1) = ofC l (i + 1) := by
  rcases (by omega : i = 0 ∨ i = 1 ∨ i = 2 ∨ i = 3) with rfl | rfl | rfl | rfl <;> rfl
theorem ofC_end (l : List Int) : ofC l 4 = [.t (.int .i64 (ofN l).Addr), .t (.int .i64 (ofN l).Birth), .t (.int .u32 ((ofN l).Sum.1.toNat : Int)), .t (.int .u32 ((ofN l).Sum.2.1.toNat : Int)), .t (.int .u32 ((ofN l).Sum.2.2.1.toNat : Int)), .t (.int .u32 ((ofN l).Sum.2.2.2.toNat : Int))] := rfl
def G_ptr_of : GCode := .seq (.region [⟨(some 2), none, .alloc 108⟩]) (.seq (.region [⟨(some 5), none, .move (.tmp 0)⟩, ⟨(some 6), none, .indexAddr 58 (.tmp 5) (.const (.int .i64 0))⟩, ⟨(some 7), none, .load 3 (.tmp 6)⟩, ⟨(some 8), none, .move (.tmp 0)⟩, ⟨(some 9), none, .indexAddr 58 (.tmp 8) (.const (.int .i64 1))⟩, ⟨(some 10), none, .load 3 (.tmp 9)⟩, ⟨(some 11), none, .build 29 #[(0, .tmp 7), (1, .tmp 10)]⟩, ⟨(some 12), none, .build 108 #[(0, .tmp 11)]⟩, ⟨(some 3), none, .alloc 108⟩, ⟨none, none, .store 108 (.tmp 3) (.tmp 12)⟩]) (.seq (.seq (.region [⟨(some 13), none, .move (.const (.int .i64 0))⟩]) (.block 0 (.loop (.seq .weak (.seq (.region [⟨(some 14), none, .binOp .lss 3 (.tmp 13) (.const (.int .i64 4)) 3⟩]) (.seq (.cond (.tmp 14) (.skip) (.exit 0)) (.seq (.block 1 (.seq (.region [⟨(some 15), none, .move (.tmp 13)⟩, ⟨(some 4), none, .assign (.tmp 15)⟩]) (.region [⟨(some 16), none, .move (.tmp 4)⟩, ⟨(some 17), none, .move (.tmp 0)⟩, ⟨(some 18), none, .move (.tmp 4)⟩, ⟨(some 19), none, .binOp .add 3 (.const (.int .i64 2)) (.tmp 18) 3⟩, ⟨(some 20), none, .indexAddr 58 (.tmp 17) (.tmp 19)⟩, ⟨(some 21), none, .load 3 (.tmp 20)⟩, ⟨(some 22), none, .convert 3 25 (.tmp 21)⟩, ⟨(some 23), none, .fieldAddr 108 (.tmp 3) 0⟩, ⟨(some 24), none, .fieldAddr 29 (.tmp 23) 2⟩, ⟨(some 25), none, .indexAddr 27 (.tmp 24) (.tmp 16)⟩, ⟨none, none, .store 25 (.tmp 25) (.tmp 22)⟩]))) (.region [⟨(some 26), none, .binOp .add 3 (.tmp 13) (.const (.int .i64 1)) 3⟩, ⟨(some 13), none, .move (.tmp 26)⟩])))))))) (.seq (.region [⟨(some 27), none, .load 108 (.tmp 3)⟩, ⟨none, none, .store 108 (.tmp 2) (.tmp 27)⟩]) (.ret))))
noncomputable def l_ptr_of : List (Nat × Con) := []
noncomputable abbrev K_ptr_of : Ctx := ctx (cl l_ptr_of)
theorem geq_ptr_of : gof K_ptr_of Try.f64 = some G_ptr_of.strip := by kernel_rfl
theorem sys_ptr_of : Go.Eng.Sys Try.prog K_ptr_of := sys_of' (l := []) trivial
theorem hm_ptr_of : ConMono K_ptr_of := conMono_of sys_ptr_of.con
def A_ptr_of := Arms.cons (argT (List Int)) Arms.nil
def p_ptr_of (x : List Int × Unit) : Prop := 6 ≤ x.1.length ∧ x.1.length ≤ 1099511627776
def r_ptr_of (x : List Int × Unit) : AV := .agg ((Cell.enc (⟨ofN x.1⟩ : Tpointer)).map .t)
theorem body_ptr_of (x : List Int × Unit) (hp : p_ptr_of x) : avp K_ptr_of G_ptr_of (Ret K_ptr_of [.cell 2 108] fun v s' => Frz s' v (r_ptr_of x)) (entry (A_ptr_of.enc x) .empty) := by
  obtain ⟨l, ⟨⟩⟩ := x
  change 6 ≤ l.length ∧ l.length ≤ 1099511627776 at hp
  obtain ⟨h6, hl⟩ := hp
  change avp _ _ (Ret _ _ fun v s' => Frz s' v (.agg ((Cell.enc (⟨ofN l⟩ : Tpointer)).map .t))) (entry [.t (sl l)] .empty)
  unfold G_ptr_of
  simp only [vP.down, vS.down, vE.down, qA, qB, qC, qD, qE, qF, qG, reduceIte, reduceCtorEq, qH, qI, qJ, ↓avp_condG, ↓tf_arrow, ↓ft_arrow]
  intro g hg
  ((repeat' with_reducible refine And.intro ?_ ?_) <;> try (first | omega | (simp only [List.length_take, List.length_drop, List.length_append, List.length_map, List.length_replicate] <;> omega)))
  intro g2 hg2
  have hne := Store.ne_new hg2
  refine loop_weak hm_ptr_of (fun k σ => ∃ (i : Nat) (S : Store), k = 4 - i ∧ i ≤ 4 ∧ S.f g2 = some (.box (ofC l i) false) ∧ S.f g = some (.box [.t (.int .i64 0), .t (.int .i64 0), .t (.int .u32 0), .t (.int .u32 0), .t (.int .u32 0), .t (.int .u32 0)] false) ∧
    σ = mkS [(0, .t (sl l)), (2, .ptr g 0), (3, .ptr g2 0), (13, .t (.int .i64 (i : Nat)))] S)
    ⟨0, _, rfl, by omega, Store.set_same _ _ _, by rw [Store.set_other _ _ hne.symm, Store.set_same], rfl⟩ (wk_to fewer_refl (by simp only [vP.down, vS.down, vE.down, qA, qB, qC, qD, qE, qF, qG, reduceIte, reduceCtorEq, qH, qI, qJ, ↓avp_condG, ↓tf_arrow, ↓ft_arrow, wP.down, Int.natCast_zero])) ?_
  rintro k _ ⟨i, S, rfl, hi, h2, h0, rfl⟩
  simp only [vP.down, vS.down, vE.down, qA, qB, qC, qD, qE, qF, qG, reduceIte, reduceCtorEq, qH, qI, qJ, ↓avp_condG, ↓tf_arrow, ↓ft_arrow]
  refine ⟨fun hlt => ?_, fun hge => ?_⟩
  · have hi4 : i < 4 := by omega
    have hi2 : IntKind.i64.wrap (2 + (i : Int)) = ((2 + i : Nat) : Int) := by rw [IntWalk.i64_in _ (by omega)]; omega
    have hi1 : IntKind.i64.wrap ((i : Int) + 1) = ((i + 1 : Nat) : Int) := by rw [IntWalk.i64_in _ (by omega)]; rfl
    have hd : l.getD (2 + i) default = l.getD (2 + i) 0 := rfl
    simp only [vP.down, vS.down, vE.down, qA, qB, qC, qD, qE, qF, qG, reduceIte, reduceCtorEq, qH, qI, qJ, ↓avp_condG, ↓tf_arrow, ↓ft_arrow, Nat.mul_one, hi2, h2, hd, u32I_wrap, ofC_len, ofC_step l hi4]
    ((repeat' with_reducible refine And.intro ?_ ?_) <;> try (first | omega | (simp only [List.length_take, List.length_drop, List.length_append, List.length_map, List.length_replicate] <;> omega)))
    refine round_to (4 - (i + 1)) [(0, .t (sl l)), (2, .ptr g 0), (3, .ptr g2 0), (13, .t (.int .i64 (i + 1 : Nat)))] (S.set g2 (some (.box (ofC l (i + 1)) false))) (by omega) fewer_refl (by simp only [vP.down, vS.down, vE.down, qA, qB, qC, qD, qE, qF, qG, reduceIte, reduceCtorEq, qH, qI, qJ, ↓avp_condG, ↓tf_arrow, ↓ft_arrow, wP.down, hi1])
      ⟨i + 1, _, rfl, by omega, Store.set_same _ _ _, by rw [Store.set_other _ _ hne.symm]; exact h0, rfl⟩
  · obtain rfl : i = 4 := by omega
    rw [ofC_end] at h2
    simp only [vP.down, vS.down, vE.down, qA, qB, qC, qD, qE, qF, qG, reduceIte, reduceCtorEq, qH, qI, qJ, ↓avp_condG, ↓tf_arrow, ↓ft_arrow, h2, h0, vT.down]
noncomputable def c_ptr_of : Con := fnCon A_ptr_of p_ptr_of r_ptr_of
theorem ok_ptr_of : COk Try.prog 64 c_ptr_of := fn_ok sys_ptr_of mixed Try.func64 (by kernel_rfl) geq_ptr_of Try.ntmps64 (by rw [Try.results64]) fun x hx => ⟨Nat.le_of_ble_eq_true rfl, body_ptr_of x hx⟩
end Go.Proofs.Ytofcmdkmhbbbjaa
namespace Go.Proofs.Ytofcmdkmhbbbjaa
open Go Go.Eng
set_option maxRecDepth 100000
def F6 : List UInt8 := [50, 52, 52, 52, 52, 52]
def ptrB (p : TPtr) : List UInt8 := putF F6 (numsP p)
def ptrsB (l : List TPtr) : List UInt8 := (l.map ptrB).flatten
def ptrsF (l : List TPtr) : List UInt8 := if l.all mayP then ptrsB l else []
theorem ptrB_len (p : TPtr) : (ptrB p).length = 22 := by
  obtain ⟨_, h, _⟩ := take_put (f := F6) (l := numsP p) [] (by decide) rfl
  have e : (digs F6).sum = 22 := by decide
  unfold ptrB
  omega
theorem ptrsB_len : ∀ l : List TPtr, (ptrsB l).length = 22 * l.length
  | [] => rfl
  | p :: r => by
    have := ptrsB_len r
    unfold ptrsB at *
    rw [List.map_cons, List.flatten_cons, List.length_append, ptrB_len, this, List.length_cons]
    omega
theorem ptrsB_next {l : List TPtr} {i : Nat} (h : i < l.length) : ptrsB (l.take (i + 1)) = ptrsB (l.take i) ++ ptrB (l.getD i default) := by
  unfold ptrsB
  rw [take_map_next ptrB default h, List.flatten_append]
  simp
theorem all_next {l : List TPtr} {i : Nat} (h : i < l.length) : (l.take (i + 1)).all mayP = ((l.take i).all mayP && mayP (l.getD i default)) := by
  rw [List.take_succ_eq_append_getElem h, List.all_append]
  simp [List.getD_eq_getElem?_getD, h]
theorem all_not {l : List TPtr} {i : Nat} (h : i < l.length) (hn : mayP (l.getD i default) = false) : l.all mayP = false := by
  rw [List.all_eq_false]
  exact ⟨l[i], List.getElem_mem h, by simpa [List.getD_eq_getElem?_getD, h] using hn⟩
def G_ptr_Put : GCode := .seq (.region [⟨(some 2), none, .assign (.const (.string ⟨#[]⟩))⟩]) (.seq (.region [⟨(some 3), none, .assign (.const (.string ⟨#[]⟩))⟩]) (.seq (.seq (.region [⟨(some 6), none, .move (.tmp 0)⟩, ⟨(some 7), none, .call ⟨.builtin .len, #[.tmp 6], #[24]⟩⟩, ⟨(some 8), none, .move (.const (.int .i64 0))⟩]) (.block 0 (.loop (.seq .weak (.seq (.region [⟨(some 9), none, .binOp .lss 3 (.tmp 8) (.tmp 7) 3⟩]) (.seq (.cond (.tmp 9) (.skip) (.exit 0)) (.seq (.block 1 (.seq (.region [⟨(some 10), none, .indexAddr 24 (.tmp 6) (.tmp 8)⟩, ⟨(some 11), none, .load 29 (.tmp 10)⟩, ⟨(some 5), none, .alloc 29⟩, ⟨none, none, .store 29 (.tmp 5) (.tmp 11)⟩]) (.seq (.seq (.region [⟨(some 12), none, .load 29 (.tmp 5)⟩, ⟨(some 13), none, .call ⟨.value (.func 61), #[.tmp 12], #[29]⟩⟩, ⟨(some 14), none, .unOp .not 4 (.tmp 13)⟩]) (.cond (.tmp 14) (.seq (.region [⟨(some 2), none, .assign (.const (.string ⟨#[]⟩))⟩]) (.ret)) (.skip))) (.region [⟨(some 15), none, .move (.tmp 3)⟩, ⟨(some 16), none, .load 29 (.tmp 5)⟩, ⟨(some 17), none, .build 108 #[(0, .tmp 16)]⟩, ⟨(some 18), none, .call ⟨.value (.func 63), #[.tmp 17], #[108]⟩⟩, ⟨(some 19), none, .call ⟨.value (.func 34), #[.const (.string ⟨#[50, 52, 52, 52, 52, 52]⟩), .tmp 18], #[9, 58]⟩⟩, ⟨(some 20), none, .binOp .add 9 (.tmp 15) (.tmp 19) 9⟩, ⟨(some 3), none, .assign (.tmp 20)⟩])))) (.region [⟨(some 21), none, .binOp .add 3 (.tmp 8) (.const (.int .i64 1)) 3⟩, ⟨(some 8), none, .move (.tmp 21)⟩])))))))) (.seq (.region [⟨(some 22), none, .move (.tmp 3)⟩, ⟨(some 2), none, .assign (.tmp 22)⟩]) (.ret))))
noncomputable def l_ptr_Put : List (Nat × Con) := [(61, c_ptr_May), (63, c_ptr_pointer_numbers), (34, c_pack_Put)]
noncomputable abbrev K_ptr_Put : Ctx := ctx (cl l_ptr_Put)
theorem geq_ptr_Put : gof K_ptr_Put Try.f43 = some G_ptr_Put.strip := by kernel_rfl
theorem sys_ptr_Put : Go.Eng.Sys Try.prog K_ptr_Put := sys_of' ⟨ok_ptr_May, ok_ptr_pointer_numbers, ok_pack_Put, trivial⟩
theorem hm_ptr_Put : ConMono K_ptr_Put := conMono_of sys_ptr_Put.con
noncomputable def k_ptr_Put_ptr_May := PLift.up (call_scal (C := K_ptr_Put) (f := 61) (A := A_ptr_May) (p := p_ptr_May) (r := r_ptr_May) rfl)
noncomputable def k_ptr_Put_ptr_pointer_numbers := PLift.up (call_fn (C := K_ptr_Put) (f := 63) (A := A_ptr_pointer_numbers) (p := p_ptr_pointer_numbers) (r := r_ptr_pointer_numbers) rfl)
noncomputable def k_ptr_Put_pack_Put := PLift.up (call_scal (C := K_ptr_Put) (f := 34) (A := A_pack_Put) (p := p_pack_Put) (r := r_pack_Put) rfl)
def A_ptr_Put := Arms.cons (argT (List TPtr)) Arms.nil
def p_ptr_Put (x : List TPtr × Unit) : Prop := x.1.length ≤ 1099511627776
def r_ptr_Put (x : List TPtr × Unit) : AV := .t (.str (ptrsF x.1))
theorem body_ptr_Put (x : List TPtr × Unit) (hp : p_ptr_Put x) : avp K_ptr_Put G_ptr_Put (Ret K_ptr_Put [.tmp 2] fun v _ => v = r_ptr_Put x) (entry (A_ptr_Put.enc x) .empty) := by
  obtain ⟨l, ⟨⟩⟩ := x
  change l.length ≤ 1099511627776 at hp
  change avp _ _ (Ret _ _ fun v _ => v = .t (.str (ptrsF l))) (entry [.t (sl l)] .empty)
  unfold G_ptr_Put
  simp only [vP.down, vS.down, vE.down, qA, qB, qC, qD, qE, qF, qG, reduceIte, reduceCtorEq, qH, qI, qJ, ↓avp_condG, ↓tf_arrow, ↓ft_arrow]
  refine loop_weak hm_ptr_Put (fun k σ => ∃ (i : Nat), k = l.length - i ∧ i ≤ l.length ∧ (l.take i).all mayP = true ∧ σ = mkS [(3, .t (.str (ptrsB (l.take i)))), (6, .t (sl l)), (7, .t (.int .i64 l.length)), (8, .t (.int .i64 (i : Nat)))] .empty)
    ⟨0, rfl, by omega, rfl, rfl⟩ (wk_to fewer_refl (by simp only [vP.down, vS.down, vE.down, qA, qB, qC, qD, qE, qF, qG, reduceIte, reduceCtorEq, qH, qI, qJ, ↓avp_condG, ↓tf_arrow, ↓ft_arrow, wP.down, Int.natCast_zero, List.take_zero, ptrsB, List.flatten_nil])) ?_
  rintro k _ ⟨i, rfl, hi, ha, rfl⟩
  simp only [vP.down, vS.down, vE.down, qA, qB, qC, qD, qE, qF, qG, reduceIte, reduceCtorEq, qH, qI, qJ, ↓avp_condG, ↓tf_arrow, ↓ft_arrow]
  refine ⟨fun hlt => ?_, fun hge => ?_⟩
  · have hil : i < l.length := by omega
    have hi1 : IntKind.i64.wrap ((i : Int) + 1) = ((i + 1 : Nat) : Int) := by rw [IntWalk.i64_in _ (by omega)]; rfl
    generalize hpi : l.getD i default = p
    have h6 : (numsP p).length ≤ 1099511627776 := by simp [numsP]
    have hb : putF [50, 52, 52, 52, 52, 52] (numsP p) = ptrB p := rfl
    have hbl := ptrB_len p
    have hsl := ptrsB_len (l.take i)
    have htl := List.length_take (i := i) (l := l)
    have hnx := ptrsB_next hil
    rw [hpi] at hnx
    ((repeat' with_reducible refine And.intro ?_ ?_) <;> try (first | omega | (simp only [List.length_take, List.length_drop, List.length_append, List.length_map, List.length_replicate] <;> omega)))
    simp only [vP.down, vS.down, vE.down, qA, qB, qC, qD, qE, qF, qG, reduceIte, reduceCtorEq, qH, qI, qJ, ↓avp_condG, ↓tf_arrow, ↓ft_arrow, k_ptr_Put_ptr_May.down, A_ptr_May, p_ptr_May, r_ptr_May, k_ptr_Put_ptr_pointer_numbers.down, A_ptr_pointer_numbers, p_ptr_pointer_numbers, r_ptr_pointer_numbers, k_ptr_Put_pack_Put.down, A_pack_Put, p_pack_Put, r_pack_Put, hb]
    intro g hg
    ((repeat' with_reducible refine And.intro ?_ ?_) <;> try (first | omega | (simp only [List.length_take, List.length_drop, List.length_append, List.length_map, List.length_replicate] <;> omega)))
    · intro hbad
      simp only [vP.down, vS.down, vE.down, qA, qB, qC, qD, qE, qF, qG, reduceIte, reduceCtorEq, qH, qI, qJ, ↓avp_condG, ↓tf_arrow, ↓ft_arrow, vT.down]
      rw [ptrsF, if_neg (by rw [all_not hil (by rw [hpi]; exact hbad)]; simp)]
    · intro hgood
      ((repeat' with_reducible refine And.intro ?_ ?_) <;> try (first | omega | (simp only [List.length_take, List.length_drop, List.length_append, List.length_map, List.length_replicate] <;> omega)))
      exact round_to (l.length - (i + 1)) [(3, .t (.str (ptrsB (l.take (i + 1))))), (6, .t (sl l)), (7, .t (.int .i64 l.length)), (8, .t (.int .i64 (i + 1 : Nat)))] .empty (by omega) fewer_empty (by simp only [vP.down, vS.down, vE.down, qA, qB, qC, qD, qE, qF, qG, reduceIte, reduceCtorEq, qH, qI, qJ, ↓avp_condG, ↓tf_arrow, ↓ft_arrow, wP.down, hi1, hnx])
        ⟨i + 1, rfl, by omega, by rw [all_next hil, ha, hpi, hgood]; rfl, rfl⟩
  · obtain rfl : i = l.length := by omega
    rw [List.take_length] at ha ⊢
    simp only [vP.down, vS.down, vE.down, qA, qB, qC, qD, qE, qF, qG, reduceIte, reduceCtorEq, qH, qI, qJ, ↓avp_condG, ↓tf_arrow, ↓ft_arrow, vT.down]
    rw [ptrsF, if_pos ha]
noncomputable def c_ptr_Put : Con := fnScal A_ptr_Put p_ptr_Put r_ptr_Put
theorem ok_ptr_Put : COk Try.prog 43 c_ptr_Put := fn_sok sys_ptr_Put mixed Try.func43 (by kernel_rfl) geq_ptr_Put Try.ntmps43 (by rw [Try.results43]) (fun x => by unfold r_ptr_Put; simp [AV.scal]) fun x hx => ⟨Nat.le_of_ble_eq_true rfl, body_ptr_Put x hx⟩
end Go.Proofs.Ytofcmdkmhbbbjaa
namespace Go.Proofs.Ytofcmdkmhbbbjaa
open Go Go.Eng
set_option maxRecDepth 100000
def stepP (s : List UInt8) : Option (TPtr × List UInt8) := if takeOk F6 s = true ∧ mayP (ofN (takeL F6 s)) = true then some (ofN (takeL F6 s), takeR F6 s) else none
def takeP : Nat → List UInt8 → Option (List TPtr × List UInt8)
  | 0, s => some ([], s)
  | n + 1, s => (takeP n s).bind fun p => (stepP p.2).map fun q => (p.1 ++ [q.1], q.2)
def takePL (n : Nat) (s : List UInt8) : List TPtr := match takeP n s with | some p => p.1 | none => []
def takePR (n : Nat) (s : List UInt8) : List UInt8 := match takeP n s with | some p => p.2 | none => []
def takePOk (n : Nat) (s : List UInt8) : Bool := (takeP n s).isSome
theorem takeP_none {s : List UInt8} {j : Nat} (h : takeP j s = none) : ∀ n, j ≤ n → takeP n s = none
  | 0, hn => by obtain rfl : j = 0 := by omega
                exact h
  | n + 1, hn => by
    by_cases hj : j = n + 1
    · rw [← hj]; exact h
    · rw [takeP, takeP_none h n (by omega)]; rfl
theorem takeP_step {s b : List UInt8} {l : List TPtr} {j : Nat} (h : takeP j s = some (l, b)) : takeP (j + 1) s = (stepP b).map fun q => (l ++ [q.1], q.2) := by rw [takeP, h]; rfl
theorem takeP_len : ∀ {n : Nat} {s b : List UInt8} {l : List TPtr}, takeP n s = some (l, b) → l.length = n ∧ b.length ≤ s.length
  | 0, s, b, l, h => by cases h; exact ⟨rfl, Nat.le_refl _⟩
  | n + 1, s, b, l, h => by
    rw [takeP, Option.bind_eq_some_iff] at h
    obtain ⟨⟨l', b'⟩, h1, h2⟩ := h
    rw [Option.map_eq_some_iff] at h2
    obtain ⟨⟨q, r⟩, h3, h4⟩ := h2
    cases h4
    obtain ⟨h5, h6⟩ := takeP_len h1
    unfold stepP at h3
    split at h3
    · cases h3
      refine ⟨by simp [h5], Nat.le_trans ?_ h6⟩
      unfold takeR
      split
      · simp
      · simp
    · cases h3
theorem takeL6 {b : List UInt8} (h : takeOk F6 b = true) : (takeL F6 b).length = 6 := by
  rw [takeL, if_pos h, takeN_len]; rfl
def G_ptr_Take : GCode := .seq (.region [⟨(some 4), none, .assign (.const (.slice none 0 0))⟩, ⟨(some 5), none, .assign (.const (.string ⟨#[]⟩))⟩, ⟨(some 6), none, .assign (.const (.bool false))⟩]) (.seq (.seq (.region [⟨(some 10), none, .move (.tmp 1)⟩, ⟨(some 11), none, .call ⟨.builtin .max, #[.tmp 10, .const (.int .i64 0)], #[3, 3]⟩⟩, ⟨(some 12), none, .move (.const (.int .i64 0))⟩]) (.block 0 (.loop (.seq .weak (.seq (.region [⟨(some 13), none, .binOp .lss 3 (.tmp 12) (.tmp 11) 3⟩]) (.seq (.cond (.tmp 13) (.skip) (.exit 0)) (.seq (.block 1 (.seq (.region [⟨(some 15), none, .move (.tmp 0)⟩, ⟨(some 16), none, .call ⟨.value (.func 45), #[.const (.string ⟨#[50, 52, 52, 52, 52, 52]⟩), .tmp 15], #[9, 9]⟩⟩, ⟨(some 14), none, .move (.tmp 16)⟩, ⟨(some 17), none, .extract (.tmp 14) 0⟩, ⟨(some 18), none, .extract (.tmp 14) 1⟩, ⟨(some 19), none, .extract (.tmp 14) 2⟩, ⟨(some 7), none, .assign (.tmp 17)⟩, ⟨(some 8), none, .assign (.tmp 18)⟩, ⟨(some 9), none, .assign (.tmp 19)⟩]) (.seq (.seq (.region [⟨(some 20), none, .move (.tmp 9)⟩, ⟨(some 21), none, .unOp .not 4 (.tmp 20)⟩, ⟨(some 22), none, .move (.tmp 21)⟩, ⟨(some 23), (some (22, false)), .move (.tmp 7)⟩, ⟨(some 24), (some (22, false)), .call ⟨.value (.func 64), #[.tmp 23], #[58]⟩⟩, ⟨(some 25), (some (22, false)), .field 108 (.tmp 24) 0⟩, ⟨(some 26), (some (22, false)), .call ⟨.value (.func 61), #[.tmp 25], #[29]⟩⟩, ⟨(some 27), (some (22, false)), .unOp .not 4 (.tmp 26)⟩, ⟨(some 28), none, .pick (.tmp 22) (.const (.bool true)) (.tmp 27)⟩]) (.cond (.tmp 28) (.seq (.region [⟨(some 4), none, .assign (.const (.slice none 0 0))⟩, ⟨(some 5), none, .assign (.const (.string ⟨#[]⟩))⟩, ⟨(some 6), none, .assign (.const (.bool false))⟩]) (.ret)) (.skip))) (.region [⟨(some 29), none, .move (.tmp 4)⟩, ⟨(some 30), none, .move (.tmp 7)⟩, ⟨(some 31), none, .call ⟨.value (.func 64), #[.tmp 30], #[58]⟩⟩, ⟨(some 32), none, .field 108 (.tmp 31) 0⟩, ⟨(some 33), none, .buildSlice 24 1 #[(0, .tmp 32)]⟩, ⟨(some 34), none, .call ⟨.builtin .append, #[.tmp 29, .tmp 33], #[24, 24]⟩⟩, ⟨(some 35), none, .move (.tmp 8)⟩, ⟨(some 4), none, .assign (.tmp 34)⟩, ⟨(some 0), none, .assign (.tmp 35)⟩])))) (.region [⟨(some 36), none, .binOp .add 3 (.tmp 12) (.const (.int .i64 1)) 3⟩, ⟨(some 12), none, .move (.tmp 36)⟩])))))))) (.seq (.region [⟨(some 37), none, .move (.tmp 4)⟩, ⟨(some 38), none, .move (.tmp 0)⟩, ⟨(some 4), none, .assign (.tmp 37)⟩, ⟨(some 5), none, .assign (.tmp 38)⟩, ⟨(some 6), none, .assign (.const (.bool true))⟩]) (.ret)))
noncomputable def l_ptr_Take : List (Nat × Con) := [(45, c_pack_Take), (64, c_ptr_of), (61, c_ptr_May)]
noncomputable abbrev K_ptr_Take : Ctx := ctx (cl l_ptr_Take)
theorem geq_ptr_Take : gof K_ptr_Take Try.f46 = some G_ptr_Take.strip := by kernel_rfl
theorem sys_ptr_Take : Go.Eng.Sys Try.prog K_ptr_Take := sys_of' ⟨ok_pack_Take, ok_ptr_of, ok_ptr_May, trivial⟩
theorem hm_ptr_Take : ConMono K_ptr_Take := conMono_of sys_ptr_Take.con
noncomputable def k_ptr_Take_pack_Take := PLift.up (call_fn (C := K_ptr_Take) (f := 45) (A := A_pack_Take) (p := p_pack_Take) (r := r_pack_Take) rfl)
noncomputable def k_ptr_Take_ptr_of := PLift.up (call_fn (C := K_ptr_Take) (f := 64) (A := A_ptr_of) (p := p_ptr_of) (r := r_ptr_of) rfl)
noncomputable def k_ptr_Take_ptr_May := PLift.up (call_scal (C := K_ptr_Take) (f := 61) (A := A_ptr_May) (p := p_ptr_May) (r := r_ptr_May) rfl)
def A_ptr_Take := Arms.cons (argT (List UInt8)) (Arms.cons (argT Int) Arms.nil)
def p_ptr_Take (x : List UInt8 × Int × Unit) : Prop := x.1.length ≤ 1099511627776 ∧ x.2.1 ≤ 1048576
def r_ptr_Take (x : List UInt8 × Int × Unit) : AV := .tup [.t (sl (takePL x.2.1.toNat x.1)), .t (.str (takePR x.2.1.toNat x.1)), .t (.bool (takePOk x.2.1.toNat x.1))]
theorem body_ptr_Take (x : List UInt8 × Int × Unit) (hp : p_ptr_Take x) : avp K_ptr_Take G_ptr_Take (Ret K_ptr_Take [.tmp 4, .tmp 5, .tmp 6] fun v s' => Frz s' v (r_ptr_Take x)) (entry (A_ptr_Take.enc x) .empty) := by
  obtain ⟨s, n, ⟨⟩⟩ := x
  change s.length ≤ 1099511627776 ∧ n ≤ 1048576 at hp
  obtain ⟨hs, hn⟩ := hp
  change avp _ _ (Ret _ _ fun v s' => Frz s' v (.tup [.t (sl (takePL n.toNat s)), .t (.str (takePR n.toNat s)), .t (.bool (takePOk n.toNat s))])) (entry [.t (.str s), .t (.int .i64 n)] .empty)
  have hmx : max n 0 = (n.toNat : Int) := by omega
  have hk : n.toNat ≤ 1048576 := by omega
  generalize n.toNat = k at hmx hk
  unfold G_ptr_Take
  simp only [vP.down, vS.down, vE.down, qA, qB, qC, qD, qE, qF, qG, reduceIte, reduceCtorEq, qH, qI, qJ, ↓avp_condG, ↓tf_arrow, ↓ft_arrow, hmx]
  refine loop_weak hm_ptr_Take (fun m σ => ∃ (j : Nat) (x : AV) (S : Store) (l : List TPtr) (b : List UInt8), m = k - j ∧ j ≤ k ∧ takeP j s = some (l, b) ∧ LV S x l ∧
    σ = mkS [(0, .t (.str b)), (4, x), (11, .t (.int .i64 (k : Nat))), (12, .t (.int .i64 (j : Nat)))] S)
    ⟨0, .t .nilS, .empty, [], s, rfl, by omega, rfl, lv_nil, rfl⟩ (wk_to fewer_refl (by simp only [vP.down, vS.down, vE.down, qA, qB, qC, qD, qE, qF, qG, reduceIte, reduceCtorEq, qH, qI, qJ, ↓avp_condG, ↓tf_arrow, ↓ft_arrow, wP.down, Int.natCast_zero])) ?_
  rintro m _ ⟨j, x, S, l, b, rfl, hj, ht, hx, rfl⟩
  simp only [vP.down, vS.down, vE.down, qA, qB, qC, qD, qE, qF, qG, reduceIte, reduceCtorEq, qH, qI, qJ, ↓avp_condG, ↓tf_arrow, ↓ft_arrow]
  obtain ⟨hll, hbl⟩ := takeP_len ht
  refine ⟨fun hlt => ?_, fun hge => ?_⟩
  · have hjk : j < k := by omega
    have hstep := takeP_step ht
    have fail : stepP b = none → takePL k s = [] ∧ takePR k s = [] ∧ takePOk k s = false := fun h => by
      rw [h] at hstep
      have := takeP_none hstep k (by omega)
      unfold takePL takePR takePOk
      rw [this]
      exact ⟨rfl, rfl, rfl⟩
    by_cases hok : takeOk F6 b = true
    · have hok' : takeOk [50, 52, 52, 52, 52, 52] b = true := hok
      have h6 := takeL6 hok
      have h6' : (takeL [50, 52, 52, 52, 52, 52] b).length = 6 := h6
      simp only [vP.down, vS.down, vE.down, qA, qB, qC, qD, qE, qF, qG, reduceIte, reduceCtorEq, qH, qI, qJ, ↓avp_condG, ↓tf_arrow, ↓ft_arrow, k_ptr_Take_pack_Take.down, A_pack_Take, p_pack_Take, r_pack_Take, k_ptr_Take_ptr_May.down, A_ptr_May, p_ptr_May, r_ptr_May, k_ptr_Take_ptr_of.down, A_ptr_of, p_ptr_of, r_ptr_of, hok', h6']
      ((repeat' with_reducible refine And.intro ?_ ?_) <;> try (first | omega | (simp only [List.length_take, List.length_drop, List.length_append, List.length_map, List.length_replicate] <;> omega)))
      · intro hbad
        simp only [vP.down, vS.down, vE.down, qA, qB, qC, qD, qE, qF, qG, reduceIte, reduceCtorEq, qH, qI, qJ, ↓avp_condG, ↓tf_arrow, ↓ft_arrow, vT.down]
        obtain ⟨e1, e2, e3⟩ := fail (by unfold stepP; rw [if_neg (fun h => by rw [show mayP (ofN (takeL F6 b)) = false from hbad] at h; cases h.2)])
        rw [e1, e2, e3]
        simp only [frz1_nilS, frz1_t, and_self]
      · intro hgood g hg
        have hst : takeP (j + 1) s = some (l ++ [ofN (takeL F6 b)], takeR F6 b) := by
          rw [hstep]; unfold stepP; rw [if_pos ⟨hok, hgood⟩]; rfl
        have hi1 : IntKind.i64.wrap ((j : Int) + 1) = ((j + 1 : Nat) : Int) := by rw [IntWalk.i64_in _ (by omega)]; rfl
        refine append_lv ty_Lapi_Ptr ty_api_Ptr rfl (by decide) (hx.fresh hg) (shows_one (x := ofN (takeL F6 b)) rfl rfl rfl) (by simp; omega) (by simp; omega) fun v S' hv _ _ => ?_
        exact round_to (k - (j + 1)) [(0, .t (.str (takeR F6 b))), (4, v), (11, .t (.int .i64 (k : Nat))), (12, .t (.int .i64 (j + 1 : Nat)))] S' (by omega) fewer_refl (by simp only [vP.down, vS.down, vE.down, qA, qB, qC, qD, qE, qF, qG, reduceIte, reduceCtorEq, qH, qI, qJ, ↓avp_condG, ↓tf_arrow, ↓ft_arrow, wP.down, hi1, F6]) ⟨j + 1, v, S', _, _, rfl, by omega, hst, hv, rfl⟩
    · have hok' : takeOk [50, 52, 52, 52, 52, 52] b = false := by simpa [F6] using hok
      simp only [vP.down, vS.down, vE.down, qA, qB, qC, qD, qE, qF, qG, reduceIte, reduceCtorEq, qH, qI, qJ, ↓avp_condG, ↓tf_arrow, ↓ft_arrow, k_ptr_Take_pack_Take.down, A_pack_Take, p_pack_Take, r_pack_Take, k_ptr_Take_ptr_May.down, A_ptr_May, p_ptr_May, r_ptr_May, k_ptr_Take_ptr_of.down, A_ptr_of, p_ptr_of, r_ptr_of, hok', false_implies]
      ((repeat' with_reducible refine And.intro ?_ ?_) <;> try (first | omega | (simp only [List.length_take, List.length_drop, List.length_append, List.length_map, List.length_replicate] <;> omega)))
      simp only [vP.down, vS.down, vE.down, qA, qB, qC, qD, qE, qF, qG, reduceIte, reduceCtorEq, qH, qI, qJ, ↓avp_condG, ↓tf_arrow, ↓ft_arrow, vT.down]
      obtain ⟨e1, e2, e3⟩ := fail (by unfold stepP; rw [if_neg (fun h => hok h.1)])
      rw [e1, e2, e3]
      simp only [frz1_nilS, frz1_t, and_self]
  · obtain rfl : j = k := by omega
    simp only [vP.down, vS.down, vE.down, qA, qB, qC, qD, qE, qF, qG, reduceIte, reduceCtorEq, qH, qI, qJ, ↓avp_condG, ↓tf_arrow, ↓ft_arrow, vT.down]
    have : takePL j s = l ∧ takePR j s = b ∧ takePOk j s = true := by
      unfold takePL takePR takePOk
      rw [ht]
      exact ⟨rfl, rfl, rfl⟩
    obtain ⟨e1, e2, e3⟩ := this
    rw [e1, e2, e3]
    simp only [frz1_t, and_true]
    exact hx.frz
noncomputable def c_ptr_Take : Con := fnCon A_ptr_Take p_ptr_Take r_ptr_Take
theorem ok_ptr_Take : COk Try.prog 46 c_ptr_Take := fn_ok sys_ptr_Take mixed Try.func46 (by kernel_rfl) geq_ptr_Take Try.ntmps46 (by rw [Try.results46]) fun x hx => ⟨Nat.le_of_ble_eq_true rfl, body_ptr_Take x hx⟩
end Go.Proofs.Ytofcmdkmhbbbjaa
