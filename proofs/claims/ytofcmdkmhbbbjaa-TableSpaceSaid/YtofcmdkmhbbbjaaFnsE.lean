/-
  What is taken: may it be, what is free, are two alike.
-/
import Derived.Test.YtofcmdkmhbbbjaaFnsD
set_option linter.unusedSimpArgs false
set_option linter.unusedVariables false
open Nat renaming reduceEqDiff → qA, reduceAdd → qB, reduceSub → qC, reduceMul → qD, reduceLeDiff → qE, reduceLT → qF
open Int renaming reduceToNat → qG, reduceEq → qH, reduceLT → qI, reduceLE → qJ
namespace Go.Proofs.Ytofcmdkmhbbbjaa
open Go Go.Eng
set_option maxRecDepth 100000
def G_space_May : GCode := .seq (.region [⟨(some 3), none, .box 56 (.tmp 1)⟩, ⟨(some 4), none, .assign (.const (.bool false))⟩]) (.seq (.seq .weak (.region [⟨(some 5), none, .load 56 (.tmp 3)⟩, ⟨(some 6), none, .build 115 #[(0, .tmp 5)]⟩, ⟨(some 7), none, .move (.tmp 0)⟩, ⟨(some 8), none, .build 117 #[(0, .tmp 6), (1, .tmp 7)]⟩, ⟨(some 9), none, .call ⟨.value (.func 68), #[.tmp 8], #[117]⟩⟩, ⟨(some 4), none, .assign (.tmp 9)⟩])) (.ret))
noncomputable def l_space_May : List (Nat × Con) := [(68, c_space_pool_may)]
noncomputable abbrev K_space_May : Ctx := ctx (cl l_space_May)
theorem geq_space_May : gof K_space_May Try.f51 = some G_space_May.strip := by kernel_rfl
theorem sys_space_May : Go.Eng.Sys Try.prog K_space_May := sys_of' ⟨ok_space_pool_may, trivial⟩
noncomputable def k_space_May_space_pool_may := PLift.up (call_scal (C := K_space_May) (f := 68) (A := A_space_pool_may) (p := p_space_pool_may) (r := r_space_pool_may) rfl)
def A_space_May := Arms.cons (argT Int) (Arms.cons (argA TSpace) Arms.nil)
def p_space_May (x : Int × TSpace × Unit) : Prop := lenS x.2.1
def r_space_May (x : Int × TSpace × Unit) : AV := .t (.bool (okSp x.1 x.2.1))
theorem body_space_May (x : Int × TSpace × Unit) (hp : p_space_May x) : avp K_space_May G_space_May (Ret K_space_May [.tmp 4] fun v _ => v = r_space_May x) (entry (A_space_May.enc x) .empty) := by
  obtain ⟨n, s, ⟨⟩⟩ := x
  change lenS s at hp
  change avp _ _ (Ret _ _ fun v s' => v = .t (.bool (okSp n s))) (entry [.t (.int .i64 n), .agg ((spC s).map .t)] .empty)
  unfold G_space_May
  simp only [vP.down, vS.down, vE.down, qA, qB, qC, qD, qE, qF, qG, reduceIte, reduceCtorEq, qH, qI, qJ, ↓avp_condG, ↓tf_arrow, ↓ft_arrow, spC]
  intro g hg
  refine weak_at [(0, .t (.int .i64 n)), (3, .imm (spC s))] .empty fewer_empty (by
    simp only [vP.down, vS.down, vE.down, qA, qB, qC, qD, qE, qF, qG, reduceIte, reduceCtorEq, qH, qI, qJ, ↓avp_condG, ↓tf_arrow, ↓ft_arrow, wP.down]
    exact w2_imm (l := spC s) (Store.set_same _ _ _) rfl) ?_
  simp only [vP.down, vS.down, vE.down, qA, qB, qC, qD, qE, qF, qG, reduceIte, reduceCtorEq, qH, qI, qJ, ↓avp_condG, ↓tf_arrow, ↓ft_arrow, spC, hp, k_space_May_space_pool_may.down, A_space_pool_may, p_space_pool_may, r_space_pool_may]
  simp only [vP.down, vS.down, vE.down, qA, qB, qC, qD, qE, qF, qG, reduceIte, reduceCtorEq, qH, qI, qJ, ↓avp_condG, ↓tf_arrow, ↓ft_arrow, vT.down]
noncomputable def c_space_May : Con := fnScal A_space_May p_space_May r_space_May
theorem ok_space_May : COk Try.prog 51 c_space_May := fn_sok sys_space_May mixed Try.func51 (by kernel_rfl) geq_space_May Try.ntmps51 (by rw [Try.results51]) (fun x => by unfold r_space_May; simp [AV.scal]) fun x hx => ⟨Nat.le_of_ble_eq_true rfl, body_space_May x hx⟩
def G_ref8_SameSpace : GCode := .seq (.region [⟨(some 2), none, .box 56 (.tmp 0)⟩, ⟨(some 3), none, .box 56 (.tmp 1)⟩, ⟨(some 4), none, .assign (.const (.bool false))⟩]) (.seq (.seq .weak (.region [⟨(some 5), none, .fieldAddr 56 (.tmp 2) 0⟩, ⟨(some 6), none, .load 52 (.tmp 5)⟩, ⟨(some 7), none, .fieldAddr 56 (.tmp 3) 0⟩, ⟨(some 8), none, .load 52 (.tmp 7)⟩, ⟨(some 9), none, .call ⟨.value (.func 57), #[.tmp 6, .tmp 8], #[52, 52]⟩⟩, ⟨(some 10), none, .move (.tmp 9)⟩, ⟨(some 11), (some (10, true)), .fieldAddr 56 (.tmp 2) 1⟩, ⟨(some 12), (some (10, true)), .load 52 (.tmp 11)⟩, ⟨(some 13), (some (10, true)), .fieldAddr 56 (.tmp 3) 1⟩, ⟨(some 14), (some (10, true)), .load 52 (.tmp 13)⟩, ⟨(some 15), (some (10, true)), .call ⟨.value (.func 57), #[.tmp 12, .tmp 14], #[52, 52]⟩⟩, ⟨(some 16), none, .pick (.tmp 10) (.tmp 15) (.const (.bool false))⟩, ⟨(some 17), none, .move (.tmp 16)⟩, ⟨(some 18), (some (17, true)), .fieldAddr 56 (.tmp 2) 2⟩, ⟨(some 19), (some (17, true)), .load 52 (.tmp 18)⟩, ⟨(some 20), (some (17, true)), .fieldAddr 56 (.tmp 3) 2⟩, ⟨(some 21), (some (17, true)), .load 52 (.tmp 20)⟩, ⟨(some 22), (some (17, true)), .call ⟨.value (.func 57), #[.tmp 19, .tmp 21], #[52, 52]⟩⟩, ⟨(some 23), none, .pick (.tmp 17) (.tmp 22) (.const (.bool false))⟩, ⟨(some 24), none, .move (.tmp 23)⟩, ⟨(some 25), (some (24, true)), .fieldAddr 56 (.tmp 2) 3⟩, ⟨(some 26), (some (24, true)), .load 52 (.tmp 25)⟩, ⟨(some 27), (some (24, true)), .fieldAddr 56 (.tmp 3) 3⟩, ⟨(some 28), (some (24, true)), .load 52 (.tmp 27)⟩, ⟨(some 29), (some (24, true)), .call ⟨.value (.func 57), #[.tmp 26, .tmp 28], #[52, 52]⟩⟩, ⟨(some 30), none, .pick (.tmp 24) (.tmp 29) (.const (.bool false))⟩, ⟨(some 4), none, .assign (.tmp 30)⟩])) (.ret))
noncomputable def l_ref8_SameSpace : List (Nat × Con) := [(57, c_ref8_Same)]
noncomputable abbrev K_ref8_SameSpace : Ctx := ctx (cl l_ref8_SameSpace)
theorem geq_ref8_SameSpace : gof K_ref8_SameSpace Try.f30 = some G_ref8_SameSpace.strip := by kernel_rfl
theorem sys_ref8_SameSpace : Go.Eng.Sys Try.prog K_ref8_SameSpace := sys_of' ⟨ok_ref8_Same, trivial⟩
noncomputable def k_ref8_SameSpace_ref8_Same := PLift.up (call_scal (C := K_ref8_SameSpace) (f := 57) (A := A_ref8_Same) (p := p_ref8_Same) (r := r_ref8_Same) rfl)
def A_ref8_SameSpace := Arms.cons (argA TSpace) (Arms.cons (argA TSpace) Arms.nil)
def p_ref8_SameSpace (x : TSpace × TSpace × Unit) : Prop := lenS x.1
def r_ref8_SameSpace (x : TSpace × TSpace × Unit) : AV := .t (.bool (decide (x.1 = x.2.1)))
set_option maxHeartbeats 4000000 in
theorem body_ref8_SameSpace (x : TSpace × TSpace × Unit) (hp : p_ref8_SameSpace x) : avp K_ref8_SameSpace G_ref8_SameSpace (Ret K_ref8_SameSpace [.tmp 4] fun v _ => v = r_ref8_SameSpace x) (entry (A_ref8_SameSpace.enc x) .empty) := by
  obtain ⟨s, t, ⟨⟩⟩ := x
  obtain ⟨l1, l2, l3, l4⟩ : lenS s := hp
  change avp _ _ (Ret _ _ fun v s' => v = .t (.bool (decide (s = t)))) (entry [.agg ((spC s).map .t), .agg ((spC t).map .t)] .empty)
  unfold G_ref8_SameSpace
  simp only [vP.down, vS.down, vE.down, qA, qB, qC, qD, qE, qF, qG, reduceIte, reduceCtorEq, qH, qI, qJ, ↓avp_condG, ↓tf_arrow, ↓ft_arrow, spC]
  intro g hg g2 hg2
  have n2 := Store.ne_new hg2
  refine weak_at [(2, .imm (spC s)), (3, .imm (spC t))] .empty fewer_empty (by
    simp only [vP.down, vS.down, vE.down, qA, qB, qC, qD, qE, qF, qG, reduceIte, reduceCtorEq, qH, qI, qJ, ↓avp_condG, ↓tf_arrow, ↓ft_arrow, wP.down]
    exact ⟨w2_imm (l := spC s) (ro := false) ((Store.set_other _ _ n2.symm).trans (Store.set_same _ _ _)) rfl, w2_imm (l := spC t) (ro := false) (Store.set_same _ _ _) rfl⟩) ?_
  have q1 : s.Held.length < 4611686018427387904 := by omega
  have q2 : s.One.length < 4611686018427387904 := by omega
  have q3 : s.Two.length < 4611686018427387904 := by omega
  have q4 : s.Kept.length < 4611686018427387904 := by omega
  have e : decide (s = t) = (decide (s.Held = t.Held) && (decide (s.One = t.One) && (decide (s.Two = t.Two) && decide (s.Kept = t.Kept)))) := by
    obtain ⟨a, b, c, d⟩ := s
    obtain ⟨a', b', c', d'⟩ := t
    rw [Bool.eq_iff_iff]
    simp
  rw [e]
  cases h1 : decide (s.Held = t.Held) with
  | false =>
    simp only [vP.down, vS.down, vE.down, qA, qB, qC, qD, qE, qF, qG, reduceIte, reduceCtorEq, qH, qI, qJ, ↓avp_condG, ↓tf_arrow, ↓ft_arrow, spC, h1, q1, q2, q3, q4, pick_of, pick_ot, false_implies, k_ref8_SameSpace_ref8_Same.down, A_ref8_Same, p_ref8_Same, r_ref8_Same]
    simp only [vP.down, vS.down, vE.down, qA, qB, qC, qD, qE, qF, qG, reduceIte, reduceCtorEq, qH, qI, qJ, ↓avp_condG, ↓tf_arrow, ↓ft_arrow, vT.down]
  | true =>
  cases h2 : decide (s.One = t.One) with
  | false =>
    simp only [vP.down, vS.down, vE.down, qA, qB, qC, qD, qE, qF, qG, reduceIte, reduceCtorEq, qH, qI, qJ, ↓avp_condG, ↓tf_arrow, ↓ft_arrow, spC, h1, h2, q1, q2, q3, q4, pick_of, pick_ot, false_implies, k_ref8_SameSpace_ref8_Same.down, A_ref8_Same, p_ref8_Same, r_ref8_Same]
    simp only [vP.down, vS.down, vE.down, qA, qB, qC, qD, qE, qF, qG, reduceIte, reduceCtorEq, qH, qI, qJ, ↓avp_condG, ↓tf_arrow, ↓ft_arrow, vT.down]
  | true =>
  cases h3 : decide (s.Two = t.Two) with
  | false =>
    simp only [vP.down, vS.down, vE.down, qA, qB, qC, qD, qE, qF, qG, reduceIte, reduceCtorEq, qH, qI, qJ, ↓avp_condG, ↓tf_arrow, ↓ft_arrow, spC, h1, h2, h3, q1, q2, q3, q4, pick_of, pick_ot, false_implies, k_ref8_SameSpace_ref8_Same.down, A_ref8_Same, p_ref8_Same, r_ref8_Same]
    simp only [vP.down, vS.down, vE.down, qA, qB, qC, qD, qE, qF, qG, reduceIte, reduceCtorEq, qH, qI, qJ, ↓avp_condG, ↓tf_arrow, ↓ft_arrow, vT.down]
  | true =>
  simp only [vP.down, vS.down, vE.down, qA, qB, qC, qD, qE, qF, qG, reduceIte, reduceCtorEq, qH, qI, qJ, ↓avp_condG, ↓tf_arrow, ↓ft_arrow, spC, h1, h2, h3, q1, q2, q3, q4, pick_of, pick_ot, false_implies, k_ref8_SameSpace_ref8_Same.down, A_ref8_Same, p_ref8_Same, r_ref8_Same]
  simp only [vP.down, vS.down, vE.down, qA, qB, qC, qD, qE, qF, qG, reduceIte, reduceCtorEq, qH, qI, qJ, ↓avp_condG, ↓tf_arrow, ↓ft_arrow, vT.down]
noncomputable def c_ref8_SameSpace : Con := fnScal A_ref8_SameSpace p_ref8_SameSpace r_ref8_SameSpace
theorem ok_ref8_SameSpace : COk Try.prog 30 c_ref8_SameSpace := fn_sok sys_ref8_SameSpace mixed Try.func30 (by kernel_rfl) geq_ref8_SameSpace Try.ntmps30 (by rw [Try.results30]) (fun x => by unfold r_ref8_SameSpace; simp [AV.scal]) fun x hx => ⟨Nat.le_of_ble_eq_true rfl, body_ref8_SameSpace x hx⟩
end Go.Proofs.Ytofcmdkmhbbbjaa
namespace Go.Proofs.Ytofcmdkmhbbbjaa
open Go Go.Eng
set_option maxRecDepth 100000
theorem wn_nil {a : Int} {k : Nat} : Wn a k [] := fun _ h => by cases h
theorem Wn.wide {l : List TRun} {n : Nat} (h : Wn 14 40 l) (hn : 40 ≤ n) : Wn 14 n l := h.mono (by omega) (by omega)
theorem wit_of {n : Nat} {l : List TRun} (hl : Nf l) (hw : Wn 14 n l) (hn : n ≤ 1000) : wit n l = true := by
  rw [wit_eq (by omega) (may_of hl hw (by omega) (by omega))]
  refine decide_eq_true (where_nil.2 fun i => ?_)
  rw [all_has]
  cases hi : hasR l i with
  | false => rfl
  | true =>
    have := hw i hi
    rw [decide_eq_true (by omega : (14 : Int) ≤ i), decide_eq_true (by omega : i < 14 + (n : Int))]; rfl
structure Sp (s : TSpace) : Prop where
  nh : Nf s.Held
  no : Nf s.One
  nt : Nf s.Two
  nk : Nf s.Kept
  wh : Wn 14 40 s.Held
  wo : Wn 14 40 s.One
  wt : Wn 14 40 s.Two
  wk : Wn 14 40 s.Kept
  d1 : ∀ i, (hasR s.Held i && hasR s.One i) = false
  d2 : ∀ i, (hasR s.Held i && hasR s.Two i) = false
  d3 : ∀ i, (hasR s.One i && hasR s.Two i) = false
theorem Sp.ok {s : TSpace} (h : Sp s) {n : Nat} (hd : dataOk n = true) : okSp n s = true := by
  have hb := dataOk_iff.1 hd
  have hn : 40 ≤ n ∧ n ≤ 240 := by omega
  rw [okSp, hd, wit_of h.nh (h.wh.wide hn.1) (by omega), wit_of h.no (h.wo.wide hn.1) (by omega), wit_of h.nt (h.wt.wide hn.1) (by omega), wit_of h.nk (h.wk.wide hn.1) (by omega),
    decide_eq_true ((where_nil (h := .both)).2 h.d1), decide_eq_true ((where_nil (h := .both)).2 h.d2), decide_eq_true ((where_nil (h := .both)).2 h.d3)]; rfl
def inS (s : TSpace) (i : Int) : Bool := hasR s.Held i || (hasR s.One i || (hasR s.Two i || hasR s.Kept i))
theorem Sp.free {s : TSpace} (h : Sp s) {n : Nat} (hd : dataOk n = true) (i : Int) : hasR (freeM n s) i = (decide (14 ≤ i) && decide (i < 14 + (n : Int)) && !inS s i) := by
  rw [freeM, if_pos (h.ok hd), where_has, all_has, where_has, where_has, where_has]
  simp only [How.op, inS]
  cases hasR s.Held i <;> cases hasR s.One i <;> cases hasR s.Two i <;> cases hasR s.Kept i <;> rfl
theorem less_wn {l m : List TRun} {a : Int} {k : Nat} (h : Wn a k l) : Wn a k (whereL .less l m) := fun i hi => by
  rw [where_has] at hi
  simp only [How.op, Bool.and_eq_true] at hi
  exact h i hi.1
theorem Sp.mk' {a b c d : List TRun} (nh : Nf a) (no : Nf b) (nt : Nf c) (nk : Nf d) (wh : Wn 14 40 a) (wo : Wn 14 40 b) (wt : Wn 14 40 c) (wk : Wn 14 40 d) (d1 : ∀ i, (hasR a i && hasR b i) = false) (d2 : ∀ i, (hasR a i && hasR c i) = false) (d3 : ∀ i, (hasR b i && hasR c i) = false) : Sp ⟨a, b, c, d⟩ := ⟨nh, no, nt, nk, wh, wo, wt, wk, d1, d2, d3⟩
theorem Sp.keep {s : TSpace} (h : Sp s) : Sp (keepM s) := ⟨h.nh, h.no, h.nt, h.nh, h.wh, h.wo, h.wt, h.wh, h.d1, h.d2, h.d3⟩
theorem Sm.len8 {x : List TRun} (h : Sm 8 x) : x.length ≤ 8 := by have := h.len; omega
end Go.Proofs.Ytofcmdkmhbbbjaa
namespace Go.Proofs.Ytofcmdkmhbbbjaa
open Go Go.Eng
set_option maxRecDepth 100000
theorem box_w1 {α : Type} [Cell α] {s s' : Store} {v : AV} {l : List α} (h : LV s v l) (hd : ∀ g, ¬ Not v g → s'.f g = none) : W1 s s' v (.t (sl l)) := by
  rcases h with ⟨rfl, rfl⟩ | ⟨g, rfl, ro, h⟩
  · exact .inr (.inl ⟨_, rfl, .inl rfl⟩)
  · refine .inr (.inr ⟨sl l, [g], ?_, .inl rfl, fun k hk => ?_⟩)
    · simp only [Store.borrow1, h, sl]
      simp
      rw [List.take_of_length_le (by simp)]
    · obtain rfl : k = g := by simpa using hk
      exact hd _ fun hn => hn _ _ _ rfl
theorem sp_freeze {S : Store} {g : Nat} {a b c : TV} {v : AV} {w : List TRun} (h : S.f g = some (.box [.t a, .t b, .t c, v] false)) (hv : LV S v w) : Fewer S (Store.empty.set g (some (.box [.t a, .t b, .t c, .t (sl w)] false))) := fun k e' hk => by
  have hvg := hv.notbox h
  by_cases hkg : k = g
  · subst hkg
    rw [Store.set_same] at hk
    cases hk
    refine ⟨_, h, .inr ⟨_, _, false, rfl, rfl, ⟨.inl rfl, .inl rfl, .inl rfl, box_w1 hv fun x hx => ?_, trivial⟩, rfl⟩⟩
    exact Store.set_other _ _ fun hh => hx (hh ▸ hvg)
  · rw [Store.set_other _ _ hkg] at hk; cases hk
end Go.Proofs.Ytofcmdkmhbbbjaa
namespace Go.Proofs.Ytofcmdkmhbbbjaa
open Go Go.Eng
set_option maxRecDepth 100000
theorem gl0 : lenS ⟨[], [], [], []⟩ := by unfold lenS; decide
end Go.Proofs.Ytofcmdkmhbbbjaa
namespace Go.Proofs.Ytofcmdkmhbbbjaa
open Go Go.Eng
set_option maxRecDepth 100000
end Go.Proofs.Ytofcmdkmhbbbjaa
namespace Go.Proofs.Ytofcmdkmhbbbjaa
open Go Go.Eng
set_option maxRecDepth 100000
theorem cnt_ge : ∀ {l : List TRun}, Nf l → (l.length : Int) ≤ cntR l
  | [], _ => Int.le_refl _
  | r :: t, h => by
    have h1 := cnt_ge h.tail
    have h2 := h.head.1
    have e : cntR (r :: t) = r.To - r.From + cntR t := by simp [cntR]
    rw [e, List.length_cons]
    omega
theorem nf_len {l : List TRun} {a : Int} {k : Nat} (h : Nf l) (hw : Wn a k l) : l.length ≤ k := by
  have h1 := cnt_ge h
  rw [cntR_card h hw] at h1
  have h2 := List.length_filter_le (hasR l) (seg a k)
  rw [seg_len] at h2
  omega
theorem Sp.len {s : TSpace} (h : Sp s) : lenS s := by
  have h1 := nf_len h.nh h.wh
  have h2 := nf_len h.no h.wo
  have h3 := nf_len h.nt h.wt
  have h4 := nf_len h.nk h.wk
  have e1 : s.Held.length ≤ 1000 := by omega
  have e2 : s.One.length ≤ 1000 := by omega
  have e3 : s.Two.length ≤ 1000 := by omega
  have e4 : s.Kept.length ≤ 1000 := by omega
  exact ⟨e1, e2, e3, e4⟩
end Go.Proofs.Ytofcmdkmhbbbjaa
namespace Go.Proofs.Ytofcmdkmhbbbjaa
open Go Go.Eng
set_option maxRecDepth 100000
theorem take_len17 {n : Int} {s : List UInt8} : (takeM n s).1.length ≤ 1000 := by
  rw [takeM]
  split
  · next h =>
    have h1 : dataOk n = true := by rw [takeOkM, Bool.and_eq_true] at h; exact h.1
    have h2 := dataOk_iff.1 h1
    have h3 := ofL_len (idsB s (8 * ((n.toNat + 7) / 8)))
    have h4 := idsB_len (s := s) (8 * ((n.toNat + 7) / 8))
    show (ofL (idsB s (8 * ((n.toNat + 7) / 8)))).length ≤ 1000
    omega
  · exact Nat.zero_le _
theorem take_rest {n : Int} {s : List UInt8} : (takeM n s).2.1.length ≤ s.length := by
  rw [takeM]
  split
  · show (s.drop _).length ≤ _
    rw [List.length_drop]; omega
  · exact Nat.zero_le _
theorem putM_len {n : Int} {l : List TRun} : (putM n l).length ≤ 30 := by
  rw [putM]
  split
  · next h =>
    have h1 : dataOk n = true := by rw [okM, Bool.and_eq_true] at h; exact h.1
    have h2 := dataOk_iff.1 h1
    rw [List.length_map, mapL, mapS_len, List.length_replicate]
    omega
  · exact Nat.zero_le _
def spaceB (n : Int) (s : TSpace) : List UInt8 := if okSp n s = true then ((putM n s.Held ++ putM n s.One) ++ putM n s.Two) ++ putM n s.Kept else []
def G_table_Space : GCode := .seq (.region [⟨(some 3), none, .box 56 (.tmp 1)⟩, ⟨(some 4), none, .assign (.const (.string ⟨#[]⟩))⟩]) (.seq (.seq (.seq .weak (.region [⟨(some 5), none, .move (.tmp 0)⟩, ⟨(some 6), none, .load 56 (.tmp 3)⟩, ⟨(some 7), none, .call ⟨.value (.func 51), #[.tmp 5, .tmp 6], #[3, 56]⟩⟩, ⟨(some 8), none, .unOp .not 4 (.tmp 7)⟩])) (.cond (.tmp 8) (.seq (.region [⟨(some 4), none, .assign (.const (.string ⟨#[]⟩))⟩]) (.ret)) (.skip))) (.seq (.seq .weak (.region [⟨(some 9), none, .move (.tmp 0)⟩, ⟨(some 10), none, .fieldAddr 56 (.tmp 3) 0⟩, ⟨(some 11), none, .load 52 (.tmp 10)⟩, ⟨(some 12), none, .call ⟨.value (.func 52), #[.tmp 9, .tmp 11], #[3, 52]⟩⟩, ⟨(some 13), none, .move (.tmp 0)⟩, ⟨(some 14), none, .fieldAddr 56 (.tmp 3) 1⟩, ⟨(some 15), none, .load 52 (.tmp 14)⟩, ⟨(some 16), none, .call ⟨.value (.func 52), #[.tmp 13, .tmp 15], #[3, 52]⟩⟩, ⟨(some 17), none, .binOp .add 9 (.tmp 12) (.tmp 16) 9⟩, ⟨(some 18), none, .move (.tmp 0)⟩, ⟨(some 19), none, .fieldAddr 56 (.tmp 3) 2⟩, ⟨(some 20), none, .load 52 (.tmp 19)⟩, ⟨(some 21), none, .call ⟨.value (.func 52), #[.tmp 18, .tmp 20], #[3, 52]⟩⟩, ⟨(some 22), none, .binOp .add 9 (.tmp 17) (.tmp 21) 9⟩, ⟨(some 23), none, .move (.tmp 0)⟩, ⟨(some 24), none, .fieldAddr 56 (.tmp 3) 3⟩, ⟨(some 25), none, .load 52 (.tmp 24)⟩, ⟨(some 26), none, .call ⟨.value (.func 52), #[.tmp 23, .tmp 25], #[3, 52]⟩⟩, ⟨(some 27), none, .binOp .add 9 (.tmp 22) (.tmp 26) 9⟩, ⟨(some 4), none, .assign (.tmp 27)⟩])) (.ret)))
noncomputable def l_table_Space : List (Nat × Con) := [(51, c_space_May), (52, c_smap_Put)]
noncomputable abbrev K_table_Space : Ctx := ctx (cl l_table_Space)
theorem geq_table_Space : gof K_table_Space Try.f26 = some G_table_Space.strip := by kernel_rfl
theorem sys_table_Space : Go.Eng.Sys Try.prog K_table_Space := sys_of' ⟨ok_space_May, ok_smap_Put, trivial⟩
noncomputable def k_table_Space_space_May := PLift.up (call_scal (C := K_table_Space) (f := 51) (A := A_space_May) (p := p_space_May) (r := r_space_May) rfl)
noncomputable def k_table_Space_smap_Put := PLift.up (call_scal (C := K_table_Space) (f := 52) (A := A_smap_Put) (p := p_smap_Put) (r := r_smap_Put) rfl)
def A_table_Space := Arms.cons (argT Int) (Arms.cons (argA TSpace) Arms.nil)
def p_table_Space (x : Int × TSpace × Unit) : Prop := lenS x.2.1
def r_table_Space (x : Int × TSpace × Unit) : AV := .t (.str (spaceB x.1 x.2.1))
set_option maxHeartbeats 2000000 in
theorem body_table_Space (x : Int × TSpace × Unit) (hp : p_table_Space x) : avp K_table_Space G_table_Space (Ret K_table_Space [.tmp 4] fun v _ => v = r_table_Space x) (entry (A_table_Space.enc x) .empty) := by
  obtain ⟨n, s, ⟨⟩⟩ := x
  change lenS s at hp
  change avp _ _ (Ret _ _ fun v s' => v = .t (.str (spaceB n s))) (entry [.t (.int .i64 n), .agg ((spC s).map .t)] .empty)
  unfold G_table_Space
  simp only [vP.down, vS.down, vE.down, qA, qB, qC, qD, qE, qF, qG, reduceIte, reduceCtorEq, qH, qI, qJ, ↓avp_condG, ↓tf_arrow, ↓ft_arrow, spC]
  intro g hg
  refine weak_at [(0, .t (.int .i64 n)), (3, .imm (spC s))] .empty fewer_empty (by
    simp only [vP.down, vS.down, vE.down, qA, qB, qC, qD, qE, qF, qG, reduceIte, reduceCtorEq, qH, qI, qJ, ↓avp_condG, ↓tf_arrow, ↓ft_arrow, wP.down]
    exact w2_imm (l := spC s) (Store.set_same _ _ _) rfl) ?_
  cases hok : okSp n s with
  | false =>
    have e : spaceB n s = [] := by rw [spaceB, hok]; rfl
    simp only [vP.down, vS.down, vE.down, qA, qB, qC, qD, qE, qF, qG, reduceIte, reduceCtorEq, qH, qI, qJ, ↓avp_condG, ↓tf_arrow, ↓ft_arrow, spC, hp, hok, k_table_Space_space_May.down, A_space_May, p_space_May, r_space_May]
    simp only [vP.down, vS.down, vE.down, qA, qB, qC, qD, qE, qF, qG, reduceIte, reduceCtorEq, qH, qI, qJ, ↓avp_condG, ↓tf_arrow, ↓ft_arrow, vT.down, e]
  | true =>
  have e : spaceB n s = ((putM n s.Held ++ putM n s.One) ++ putM n s.Two) ++ putM n s.Kept := by rw [spaceB, hok]; rfl
  obtain ⟨l1, l2, l3, l4⟩ := hp
  have hp : lenS s := ⟨l1, l2, l3, l4⟩
  have q1 : s.Held.length ≤ 1000000 := by omega
  have q2 : s.One.length ≤ 1000000 := by omega
  have q3 : s.Two.length ≤ 1000000 := by omega
  have q4 : s.Kept.length ≤ 1000000 := by omega
  have b1 := putM_len (n := n) (l := s.Held)
  have b2 := putM_len (n := n) (l := s.One)
  have b3 := putM_len (n := n) (l := s.Two)
  have b4 := putM_len (n := n) (l := s.Kept)
  simp only [vP.down, vS.down, vE.down, qA, qB, qC, qD, qE, qF, qG, reduceIte, reduceCtorEq, qH, qI, qJ, ↓avp_condG, ↓tf_arrow, ↓ft_arrow, spC, hp, hok, k_table_Space_space_May.down, A_space_May, p_space_May, r_space_May]
  refine weak_at [(0, .t (.int .i64 n)), (3, .imm (spC s))] .empty fewer_refl (by simp only [vP.down, vS.down, vE.down, qA, qB, qC, qD, qE, qF, qG, reduceIte, reduceCtorEq, qH, qI, qJ, ↓avp_condG, ↓tf_arrow, ↓ft_arrow, wP.down, spC]) ?_
  have c1 : (putM n s.Held).length + (putM n s.One).length ≤ 9223372036854775807 := by omega
  have c2 : (putM n s.Held ++ putM n s.One).length + (putM n s.Two).length ≤ 9223372036854775807 := by rw [List.length_append]; omega
  have c3 : (putM n s.Held ++ putM n s.One ++ putM n s.Two).length + (putM n s.Kept).length ≤ 9223372036854775807 := by rw [List.length_append, List.length_append]; omega
  simp only [vP.down, vS.down, vE.down, qA, qB, qC, qD, qE, qF, qG, reduceIte, reduceCtorEq, qH, qI, qJ, ↓avp_condG, ↓tf_arrow, ↓ft_arrow, spC, c1, c2, c3, q1, q2, q3, q4, k_table_Space_smap_Put.down, A_smap_Put, p_smap_Put, r_smap_Put]
  simp only [vP.down, vS.down, vE.down, qA, qB, qC, qD, qE, qF, qG, reduceIte, reduceCtorEq, qH, qI, qJ, ↓avp_condG, ↓tf_arrow, ↓ft_arrow, vT.down, e]
noncomputable def c_table_Space : Con := fnScal A_table_Space p_table_Space r_table_Space
theorem ok_table_Space : COk Try.prog 26 c_table_Space := fn_sok sys_table_Space mixed Try.func26 (by kernel_rfl) geq_table_Space Try.ntmps26 (by rw [Try.results26]) (fun x => by unfold r_table_Space; simp [AV.scal]) fun x hx => ⟨Nat.le_of_ble_eq_true rfl, body_table_Space x hx⟩
def G_ref16_PutSpace : GCode := .seq (.region [⟨(some 3), none, .box 56 (.tmp 1)⟩, ⟨(some 4), none, .assign (.const (.string ⟨#[]⟩))⟩]) (.seq (.seq (.seq .weak (.region [⟨(some 5), none, .move (.tmp 0)⟩, ⟨(some 6), none, .load 56 (.tmp 3)⟩, ⟨(some 7), none, .call ⟨.value (.func 53), #[.tmp 5, .tmp 6], #[3, 56]⟩⟩, ⟨(some 8), none, .unOp .not 4 (.tmp 7)⟩])) (.cond (.tmp 8) (.seq (.region [⟨(some 4), none, .assign (.const (.string ⟨#[]⟩))⟩]) (.ret)) (.skip))) (.seq (.seq .weak (.region [⟨(some 9), none, .move (.tmp 0)⟩, ⟨(some 10), none, .fieldAddr 56 (.tmp 3) 0⟩, ⟨(some 11), none, .load 52 (.tmp 10)⟩, ⟨(some 12), none, .call ⟨.value (.func 54), #[.tmp 9, .tmp 11], #[3, 52]⟩⟩, ⟨(some 13), none, .move (.tmp 0)⟩, ⟨(some 14), none, .fieldAddr 56 (.tmp 3) 1⟩, ⟨(some 15), none, .load 52 (.tmp 14)⟩, ⟨(some 16), none, .call ⟨.value (.func 54), #[.tmp 13, .tmp 15], #[3, 52]⟩⟩, ⟨(some 17), none, .binOp .add 9 (.tmp 12) (.tmp 16) 9⟩, ⟨(some 18), none, .move (.tmp 0)⟩, ⟨(some 19), none, .fieldAddr 56 (.tmp 3) 2⟩, ⟨(some 20), none, .load 52 (.tmp 19)⟩, ⟨(some 21), none, .call ⟨.value (.func 54), #[.tmp 18, .tmp 20], #[3, 52]⟩⟩, ⟨(some 22), none, .binOp .add 9 (.tmp 17) (.tmp 21) 9⟩, ⟨(some 23), none, .move (.tmp 0)⟩, ⟨(some 24), none, .fieldAddr 56 (.tmp 3) 3⟩, ⟨(some 25), none, .load 52 (.tmp 24)⟩, ⟨(some 26), none, .call ⟨.value (.func 54), #[.tmp 23, .tmp 25], #[3, 52]⟩⟩, ⟨(some 27), none, .binOp .add 9 (.tmp 22) (.tmp 26) 9⟩, ⟨(some 4), none, .assign (.tmp 27)⟩])) (.ret)))
noncomputable def l_ref16_PutSpace : List (Nat × Con) := [(53, c_ref8_MaySpace), (54, c_ref8_PutMap)]
noncomputable abbrev K_ref16_PutSpace : Ctx := ctx (cl l_ref16_PutSpace)
theorem geq_ref16_PutSpace : gof K_ref16_PutSpace Try.f27 = some G_ref16_PutSpace.strip := by kernel_rfl
theorem sys_ref16_PutSpace : Go.Eng.Sys Try.prog K_ref16_PutSpace := sys_of' ⟨ok_ref8_MaySpace, ok_ref8_PutMap, trivial⟩
noncomputable def k_ref16_PutSpace_ref8_MaySpace := PLift.up (call_scal (C := K_ref16_PutSpace) (f := 53) (A := A_ref8_MaySpace) (p := p_ref8_MaySpace) (r := r_ref8_MaySpace) rfl)
noncomputable def k_ref16_PutSpace_ref8_PutMap := PLift.up (call_scal (C := K_ref16_PutSpace) (f := 54) (A := A_ref8_PutMap) (p := p_ref8_PutMap) (r := r_ref8_PutMap) rfl)
def A_ref16_PutSpace := Arms.cons (argT Int) (Arms.cons (argA TSpace) Arms.nil)
def p_ref16_PutSpace (x : Int × TSpace × Unit) : Prop := lenS x.2.1
def r_ref16_PutSpace (x : Int × TSpace × Unit) : AV := .t (.str (spaceB x.1 x.2.1))
set_option maxHeartbeats 2000000 in
theorem body_ref16_PutSpace (x : Int × TSpace × Unit) (hp : p_ref16_PutSpace x) : avp K_ref16_PutSpace G_ref16_PutSpace (Ret K_ref16_PutSpace [.tmp 4] fun v _ => v = r_ref16_PutSpace x) (entry (A_ref16_PutSpace.enc x) .empty) := by
  obtain ⟨n, s, ⟨⟩⟩ := x
  change lenS s at hp
  change avp _ _ (Ret _ _ fun v s' => v = .t (.str (spaceB n s))) (entry [.t (.int .i64 n), .agg ((spC s).map .t)] .empty)
  unfold G_ref16_PutSpace
  simp only [vP.down, vS.down, vE.down, qA, qB, qC, qD, qE, qF, qG, reduceIte, reduceCtorEq, qH, qI, qJ, ↓avp_condG, ↓tf_arrow, ↓ft_arrow, spC]
  intro g hg
  refine weak_at [(0, .t (.int .i64 n)), (3, .imm (spC s))] .empty fewer_empty (by
    simp only [vP.down, vS.down, vE.down, qA, qB, qC, qD, qE, qF, qG, reduceIte, reduceCtorEq, qH, qI, qJ, ↓avp_condG, ↓tf_arrow, ↓ft_arrow, wP.down]
    exact w2_imm (l := spC s) (Store.set_same _ _ _) rfl) ?_
  cases hok : okSp n s with
  | false =>
    have e : spaceB n s = [] := by rw [spaceB, hok]; rfl
    simp only [vP.down, vS.down, vE.down, qA, qB, qC, qD, qE, qF, qG, reduceIte, reduceCtorEq, qH, qI, qJ, ↓avp_condG, ↓tf_arrow, ↓ft_arrow, spC, hp, hok, k_ref16_PutSpace_ref8_MaySpace.down, A_ref8_MaySpace, p_ref8_MaySpace, r_ref8_MaySpace]
    simp only [vP.down, vS.down, vE.down, qA, qB, qC, qD, qE, qF, qG, reduceIte, reduceCtorEq, qH, qI, qJ, ↓avp_condG, ↓tf_arrow, ↓ft_arrow, vT.down, e]
  | true =>
  have e : spaceB n s = ((putM n s.Held ++ putM n s.One) ++ putM n s.Two) ++ putM n s.Kept := by rw [spaceB, hok]; rfl
  obtain ⟨l1, l2, l3, l4⟩ := hp
  have hp : lenS s := ⟨l1, l2, l3, l4⟩
  have q1 : s.Held.length ≤ 1000000 := by omega
  have q2 : s.One.length ≤ 1000000 := by omega
  have q3 : s.Two.length ≤ 1000000 := by omega
  have q4 : s.Kept.length ≤ 1000000 := by omega
  have b1 := putM_len (n := n) (l := s.Held)
  have b2 := putM_len (n := n) (l := s.One)
  have b3 := putM_len (n := n) (l := s.Two)
  have b4 := putM_len (n := n) (l := s.Kept)
  simp only [vP.down, vS.down, vE.down, qA, qB, qC, qD, qE, qF, qG, reduceIte, reduceCtorEq, qH, qI, qJ, ↓avp_condG, ↓tf_arrow, ↓ft_arrow, spC, hp, hok, k_ref16_PutSpace_ref8_MaySpace.down, A_ref8_MaySpace, p_ref8_MaySpace, r_ref8_MaySpace]
  refine weak_at [(0, .t (.int .i64 n)), (3, .imm (spC s))] .empty fewer_refl (by simp only [vP.down, vS.down, vE.down, qA, qB, qC, qD, qE, qF, qG, reduceIte, reduceCtorEq, qH, qI, qJ, ↓avp_condG, ↓tf_arrow, ↓ft_arrow, wP.down, spC]) ?_
  have c1 : (putM n s.Held).length + (putM n s.One).length ≤ 9223372036854775807 := by omega
  have c2 : (putM n s.Held ++ putM n s.One).length + (putM n s.Two).length ≤ 9223372036854775807 := by rw [List.length_append]; omega
  have c3 : (putM n s.Held ++ putM n s.One ++ putM n s.Two).length + (putM n s.Kept).length ≤ 9223372036854775807 := by rw [List.length_append, List.length_append]; omega
  simp only [vP.down, vS.down, vE.down, qA, qB, qC, qD, qE, qF, qG, reduceIte, reduceCtorEq, qH, qI, qJ, ↓avp_condG, ↓tf_arrow, ↓ft_arrow, spC, c1, c2, c3, q1, q2, q3, q4, k_ref16_PutSpace_ref8_PutMap.down, A_ref8_PutMap, p_ref8_PutMap, r_ref8_PutMap]
  simp only [vP.down, vS.down, vE.down, qA, qB, qC, qD, qE, qF, qG, reduceIte, reduceCtorEq, qH, qI, qJ, ↓avp_condG, ↓tf_arrow, ↓ft_arrow, vT.down, e]
noncomputable def c_ref16_PutSpace : Con := fnScal A_ref16_PutSpace p_ref16_PutSpace r_ref16_PutSpace
theorem ok_ref16_PutSpace : COk Try.prog 27 c_ref16_PutSpace := fn_sok sys_ref16_PutSpace mixed Try.func27 (by kernel_rfl) geq_ref16_PutSpace Try.ntmps27 (by rw [Try.results27]) (fun x => by unfold r_ref16_PutSpace; simp [AV.scal]) fun x hx => ⟨Nat.le_of_ble_eq_true rfl, body_ref16_PutSpace x hx⟩
/-! ### Taken -/
def tkL (n : Int) (s : List UInt8) : Nat → List TRun × List UInt8 × Bool
  | 0 => takeM n s
  | i + 1 => takeM n (tkL n s i).2.1
def restL (n : Int) (s : List UInt8) : Nat → List UInt8
  | 0 => s
  | i + 1 => (tkL n s i).2.1
theorem tkL_eq {n : Int} {s : List UInt8} : ∀ i, tkL n s i = takeM n (restL n s i)
  | 0 => rfl
  | _ + 1 => rfl
def tkS (n : Int) (s : List UInt8) : TSpace := ⟨(tkL n s 0).1, (tkL n s 1).1, (tkL n s 2).1, (tkL n s 3).1⟩
def tkOk (n : Int) (s : List UInt8) : Bool := (tkL n s 0).2.2 && ((tkL n s 1).2.2 && ((tkL n s 2).2.2 && ((tkL n s 3).2.2 && (decide (restL n s 4 = []) && okSp n (tkS n s)))))
def z0S : TSpace := ⟨[], [], [], []⟩
def takeSp (n : Int) (s : List UInt8) : TSpace × Bool := if tkOk n s = true then (tkS n s, true) else (z0S, false)
theorem tkS_len {n : Int} {s : List UInt8} : lenS (tkS n s) := ⟨take_len17, take_len17, take_len17, take_len17⟩
theorem rest_len {n : Int} {s : List UInt8} : ∀ i, (restL n s i).length ≤ s.length
  | 0 => Nat.le_refl _
  | i + 1 => by
    have h := take_rest (n := n) (s := restL n s i)
    have h2 := rest_len (n := n) (s := s) i
    show (tkL n s i).2.1.length ≤ _
    rw [tkL_eq]; omega
theorem take_ok {n : Int} {s : List UInt8} : (takeM n s).2.2 = takeOkM n s := by
  rw [takeM]
  cases h : takeOkM n s with
  | true => rw [if_pos rfl]
  | false => rw [if_neg (by simp)]
theorem tk_split {n : Int} {s : List UInt8} {i : Nat} (h : (tkL n s i).2.2 = true) : restL n s i = putM n (tkL n s i).1 ++ restL n s (i + 1) ∧ restL n s i ≠ [] := by
  rw [tkL_eq, take_ok] at h
  have hd : dataOk n = true := by rw [takeOkM, Bool.and_eq_true] at h; exact h.1
  have hb := dataOk_iff.1 hd
  obtain ⟨n, rfl⟩ : ∃ k : Nat, n = k := ⟨n.toNat, by omega⟩
  obtain ⟨_, h2, _, h4, _⟩ := took h
  have h5 := put_took h
  have e : restL n s (i + 1) = (takeM n (restL n s i)).2.1 := by
    show (tkL n s i).2.1 = _
    rw [tkL_eq]
  rw [e, h2, tkL_eq, h5, List.take_append_drop]
  refine ⟨rfl, fun hn => ?_⟩
  rw [hn] at h4
  have : ([] : List UInt8).length = 0 := rfl
  omega
theorem tk_back {n : Int} {s : List UInt8} (h : ∀ i, i < 4 → (tkL n s i).2.2 = true) : decide (spaceB n (tkS n s) = s) = tkOk n s := by
  obtain ⟨e0, e0'⟩ := tk_split (h 0 (by omega))
  obtain ⟨e1, _⟩ := tk_split (h 1 (by omega))
  obtain ⟨e2, _⟩ := tk_split (h 2 (by omega))
  obtain ⟨e3, _⟩ := tk_split (h 3 (by omega))
  have hs : s = putM n (tkL n s 0).1 ++ (putM n (tkL n s 1).1 ++ (putM n (tkL n s 2).1 ++ (putM n (tkL n s 3).1 ++ restL n s 4))) := by
    have e0 : s = putM n (tkL n s 0).1 ++ restL n s 1 := e0
    rw [e1, e2, e3] at e0
    exact e0
  have hne : s ≠ [] := e0'
  rw [tkOk, h 0 (by omega), h 1 (by omega), h 2 (by omega), h 3 (by omega), Bool.true_and, Bool.true_and, Bool.true_and, Bool.true_and]
  cases hok : okSp n (tkS n s) with
  | false =>
    rw [spaceB, hok, if_neg (by simp), Bool.and_false]
    exact decide_eq_false fun h => hne h.symm
  | true =>
    rw [spaceB, hok, if_pos rfl, Bool.and_true]
    refine decide_eq_decide.2 ?_
    show ((putM n (tkL n s 0).1 ++ putM n (tkL n s 1).1) ++ putM n (tkL n s 2).1) ++ putM n (tkL n s 3).1 = s ↔ _
    generalize restL n s 4 = r at hs ⊢
    generalize putM n (tkL n s 0).1 = a at hs ⊢
    generalize putM n (tkL n s 1).1 = b at hs ⊢
    generalize putM n (tkL n s 2).1 = c at hs ⊢
    generalize putM n (tkL n s 3).1 = d at hs ⊢
    rw [hs]
    constructor
    · intro h
      have := congrArg List.length h
      simp only [List.length_append] at this
      exact List.length_eq_zero_iff.1 (by omega)
    · rintro rfl
      simp
theorem takeSp_no {n : Int} {s : List UInt8} {i : Nat} (hi : i < 4) (h : (tkL n s i).2.2 = false) : takeSp n s = (z0S, false) := by
  have : tkOk n s = false := by
    unfold tkOk
    rcases (by omega : i = 0 ∨ i = 1 ∨ i = 2 ∨ i = 3) with rfl | rfl | rfl | rfl <;> rw [h] <;> simp
  rw [takeSp, this]; rfl
end Go.Proofs.Ytofcmdkmhbbbjaa
namespace Go.Proofs.Ytofcmdkmhbbbjaa
open Go Go.Eng
set_option maxRecDepth 100000
def cellA (n : Int) (s : List UInt8) (i j : Nat) : TV := if j < i then sl (tkL n s j).1 else .nilS
def cellsA (n : Int) (s : List UInt8) (i : Nat) : List AV := [.t (cellA n s i 0), .t (cellA n s i 1), .t (cellA n s i 2), .t (cellA n s i 3)]
theorem cells_next {n : Int} {s : List UInt8} {i : Nat} (h : i < 4) : (cellsA n s i).take i ++ [.t (sl (tkL n s i).1)] ++ (cellsA n s i).drop (i + 1) = cellsA n s (i + 1) := by
  rcases (by omega : i = 0 ∨ i = 1 ∨ i = 2 ∨ i = 3) with rfl | rfl | rfl | rfl <;> rfl
def G_table_TakeSpace : GCode := .seq (.region [⟨(some 4), none, .alloc 56⟩, ⟨(some 5), none, .assign (.const (.bool false))⟩]) (.seq (.seq .weak (.region [⟨(some 6), none, .alloc 97⟩])) (.seq (.seq .weak (.region [⟨(some 11), none, .move (.tmp 1)⟩, ⟨(some 7), none, .assign (.tmp 11)⟩, ⟨(some 8), none, .assign (.const (.bool true))⟩])) (.seq (.seq (.seq .weak (.region [⟨(some 12), none, .move (.const (.int .i64 0))⟩])) (.block 0 (.loop (.seq .weak (.seq (.region [⟨(some 13), none, .binOp .lss 3 (.tmp 12) (.const (.int .i64 4)) 3⟩]) (.seq (.cond (.tmp 13) (.skip) (.exit 0)) (.seq (.block 1 (.seq (.region [⟨(some 14), none, .move (.tmp 12)⟩, ⟨(some 9), none, .assign (.tmp 14)⟩]) (.seq (.seq .weak (.region [⟨(some 16), none, .move (.tmp 9)⟩, ⟨(some 17), none, .move (.tmp 0)⟩, ⟨(some 18), none, .move (.tmp 7)⟩, ⟨(some 19), none, .call ⟨.value (.func 55), #[.tmp 17, .tmp 18], #[3, 9]⟩⟩, ⟨(some 15), none, .move (.tmp 19)⟩, ⟨(some 20), none, .extract (.tmp 15) 0⟩, ⟨(some 21), none, .extract (.tmp 15) 1⟩, ⟨(some 22), none, .extract (.tmp 15) 2⟩, ⟨(some 23), none, .indexAddr 97 (.tmp 6) (.tmp 16)⟩, ⟨none, none, .store 52 (.tmp 23) (.tmp 20)⟩, ⟨(some 7), none, .assign (.tmp 21)⟩, ⟨(some 8), none, .assign (.tmp 22)⟩])) (.seq (.seq .weak (.region [⟨(some 24), none, .move (.tmp 8)⟩, ⟨(some 25), none, .unOp .not 4 (.tmp 24)⟩])) (.cond (.tmp 25) (.seq (.region [⟨(some 26), none, .build 56 #[]⟩, ⟨none, none, .store 56 (.tmp 4) (.tmp 26)⟩, ⟨(some 5), none, .assign (.const (.bool false))⟩]) (.ret)) (.skip)))))) (.seq .weak (.region [⟨(some 27), none, .binOp .add 3 (.tmp 12) (.const (.int .i64 1)) 3⟩, ⟨(some 12), none, .move (.tmp 27)⟩]))))))))) (.seq (.seq .weak (.region [⟨(some 28), none, .indexAddr 97 (.tmp 6) (.const (.int .i64 0))⟩, ⟨(some 29), none, .load 52 (.tmp 28)⟩, ⟨(some 30), none, .indexAddr 97 (.tmp 6) (.const (.int .i64 1))⟩, ⟨(some 31), none, .load 52 (.tmp 30)⟩, ⟨(some 32), none, .indexAddr 97 (.tmp 6) (.const (.int .i64 2))⟩, ⟨(some 33), none, .load 52 (.tmp 32)⟩, ⟨(some 34), none, .indexAddr 97 (.tmp 6) (.const (.int .i64 3))⟩, ⟨(some 35), none, .load 52 (.tmp 34)⟩, ⟨(some 36), none, .build 56 #[(0, .tmp 29), (1, .tmp 31), (2, .tmp 33), (3, .tmp 35)]⟩, ⟨(some 10), none, .alloc 56⟩, ⟨none, none, .store 56 (.tmp 10) (.tmp 36)⟩])) (.seq (.seq (.seq .weak (.region [⟨(some 37), none, .move (.tmp 0)⟩, ⟨(some 38), none, .load 56 (.tmp 10)⟩, ⟨(some 39), none, .call ⟨.value (.func 26), #[.tmp 37, .tmp 38], #[3, 56]⟩⟩, ⟨(some 40), none, .move (.tmp 1)⟩, ⟨(some 41), none, .binOp .neq 9 (.tmp 39) (.tmp 40) 9⟩])) (.cond (.tmp 41) (.seq (.region [⟨(some 42), none, .build 56 #[]⟩, ⟨none, none, .store 56 (.tmp 4) (.tmp 42)⟩, ⟨(some 5), none, .assign (.const (.bool false))⟩]) (.ret)) (.skip))) (.seq (.seq .weak (.region [⟨(some 43), none, .load 56 (.tmp 10)⟩, ⟨none, none, .store 56 (.tmp 4) (.tmp 43)⟩, ⟨(some 5), none, .assign (.const (.bool true))⟩])) (.ret)))))))
noncomputable def l_table_TakeSpace : List (Nat × Con) := [(55, c_smap_Take), (26, c_table_Space)]
noncomputable abbrev K_table_TakeSpace : Ctx := ctx (cl l_table_TakeSpace)
theorem geq_table_TakeSpace : gof K_table_TakeSpace Try.f28 = some G_table_TakeSpace.strip := by kernel_rfl
theorem sys_table_TakeSpace : Go.Eng.Sys Try.prog K_table_TakeSpace := sys_of' ⟨ok_smap_Take, ok_table_Space, trivial⟩
theorem hm_table_TakeSpace : ConMono K_table_TakeSpace := conMono_of sys_table_TakeSpace.con
noncomputable def k_table_TakeSpace_smap_Take := PLift.up (call_fn (C := K_table_TakeSpace) (f := 55) (A := A_smap_Take) (p := p_smap_Take) (r := r_smap_Take) rfl)
noncomputable def k_table_TakeSpace_table_Space := PLift.up (call_scal (C := K_table_TakeSpace) (f := 26) (A := A_table_Space) (p := p_table_Space) (r := r_table_Space) rfl)
def A_table_TakeSpace := Arms.cons (argT Int) (Arms.cons (argT (List UInt8)) Arms.nil)
def p_table_TakeSpace (x : Int × List UInt8 × Unit) : Prop := x.2.1.length ≤ 1000000
def r_table_TakeSpace (x : Int × List UInt8 × Unit) : AV := .tup [.agg ((spC (takeSp x.1 x.2.1).1).map .t), .t (.bool (takeSp x.1 x.2.1).2)]
set_option maxHeartbeats 2000000 in
theorem body_table_TakeSpace (x : Int × List UInt8 × Unit) (hp : p_table_TakeSpace x) : avp K_table_TakeSpace G_table_TakeSpace (Ret K_table_TakeSpace [.cell 4 56, .tmp 5] fun v s' => Frz s' v (r_table_TakeSpace x)) (entry (A_table_TakeSpace.enc x) .empty) := by
  obtain ⟨n, s, ⟨⟩⟩ := x
  change s.length ≤ 1000000 at hp
  change avp _ _ (Ret _ _ fun v s' => Frz s' v (.tup [.agg ((spC (takeSp n s).1).map .t), .t (.bool (takeSp n s).2)])) (entry [.t (.int .i64 n), .t (.str s)] .empty)
  unfold G_table_TakeSpace
  simp only [vP.down, vS.down, vE.down, qA, qB, qC, qD, qE, qF, qG, reduceIte, reduceCtorEq, qH, qI, qJ, ↓avp_condG, ↓tf_arrow, ↓ft_arrow]
  intro g4 hg4
  refine weak_here [(0, .t (.int .i64 n)), (1, .t (.str s)), (4, .ptr g4 0)] (by simp only [vP.down, vS.down, vE.down, qA, qB, qC, qD, qE, qF, qG, reduceIte, reduceCtorEq, qH, qI, qJ, ↓avp_condG, ↓tf_arrow, ↓ft_arrow, wP.down]) fun S0 hS0 => ?_
  have a4 : S0.f g4 = some (.box [.t .nilS, .t .nilS, .t .nilS, .t .nilS] false) := by rw [hS0]; exact Store.set_same _ _ _
  clear hS0 hg4
  simp only [vP.down, vS.down, vE.down, qA, qB, qC, qD, qE, qF, qG, reduceIte, reduceCtorEq, qH, qI, qJ, ↓avp_condG, ↓tf_arrow, ↓ft_arrow]
  intro g6 hg6
  have n64 := ne_of a4 hg6
  refine weak_here [(0, .t (.int .i64 n)), (1, .t (.str s)), (4, .ptr g4 0), (6, .ptr g6 0)] (by simp only [vP.down, vS.down, vE.down, qA, qB, qC, qD, qE, qF, qG, reduceIte, reduceCtorEq, qH, qI, qJ, ↓avp_condG, ↓tf_arrow, ↓ft_arrow, wP.down]) fun S1 hS1 => ?_
  have b4 : S1.f g4 = some (.box [.t .nilS, .t .nilS, .t .nilS, .t .nilS] false) := by rw [hS1]; exact (Store.set_other _ _ n64).trans a4
  have b6 : S1.f g6 = some (.box (cellsA n s 0) false) := by rw [hS1]; exact Store.set_same _ _ _
  clear hS1 hg6 a4
  simp only [vP.down, vS.down, vE.down, qA, qB, qC, qD, qE, qF, qG, reduceIte, reduceCtorEq, qH, qI, qJ, ↓avp_condG, ↓tf_arrow, ↓ft_arrow]
  refine weak_here [(0, .t (.int .i64 n)), (1, .t (.str s)), (4, .ptr g4 0), (6, .ptr g6 0), (7, .t (.str (restL n s 0)))] (by simp only [vP.down, vS.down, vE.down, qA, qB, qC, qD, qE, qF, qG, reduceIte, reduceCtorEq, qH, qI, qJ, ↓avp_condG, ↓tf_arrow, ↓ft_arrow, wP.down, restL]) fun S2 hS2 => ?_
  have b4 : S2.f g4 = some (.box [.t .nilS, .t .nilS, .t .nilS, .t .nilS] false) := by rw [hS2]; exact b4
  have b6 : S2.f g6 = some (.box (cellsA n s 0) false) := by rw [hS2]; exact b6
  clear hS2
  simp only [vP.down, vS.down, vE.down, qA, qB, qC, qD, qE, qF, qG, reduceIte, reduceCtorEq, qH, qI, qJ, ↓avp_condG, ↓tf_arrow, ↓ft_arrow]
  refine loop_weak hm_table_TakeSpace (fun k σ => ∃ (i : Nat) (S : Store), k = 4 - i ∧ i ≤ 4 ∧ (∀ j, j < i → (tkL n s j).2.2 = true) ∧ S.f g4 = some (.box [.t .nilS, .t .nilS, .t .nilS, .t .nilS] false) ∧ S.f g6 = some (.box (cellsA n s i) false) ∧
      σ = mkS [(0, .t (.int .i64 n)), (1, .t (.str s)), (4, .ptr g4 0), (6, .ptr g6 0), (7, .t (.str (restL n s i))), (12, .t (.int .i64 (i : Nat)))] S)
    ⟨0, S2, rfl, by omega, by omega, b4, b6, rfl⟩ (wk_to fewer_refl (by simp only [vP.down, vS.down, vE.down, qA, qB, qC, qD, qE, qF, qG, reduceIte, reduceCtorEq, qH, qI, qJ, ↓avp_condG, ↓tf_arrow, ↓ft_arrow, wP.down, Int.natCast_zero])) ?_
  clear b4 b6
  rintro k _ ⟨i, S, rfl, hi, hlo, b4, b6, rfl⟩
  have hi1 : IntKind.i64.wrap ((i : Int) + 1) = ((i + 1 : Nat) : Int) := by rw [IntWalk.i64_in _ (by omega)]; rfl
  by_cases hlt : i < 4
  case neg =>
    obtain rfl : i = 4 := by omega
    have hge : ¬ ((4 : Int) < 4) := by omega
    have hb := tk_back hlo
    simp only [vP.down, vS.down, vE.down, qA, qB, qC, qD, qE, qF, qG, reduceIte, reduceCtorEq, qH, qI, qJ, ↓avp_condG, ↓tf_arrow, ↓ft_arrow, hge, show ((4 : Nat) : Int) = 4 from rfl]
    refine weak_here [(0, .t (.int .i64 n)), (1, .t (.str s)), (4, .ptr g4 0), (6, .ptr g6 0)] (by simp only [vP.down, vS.down, vE.down, qA, qB, qC, qD, qE, qF, qG, reduceIte, reduceCtorEq, qH, qI, qJ, ↓avp_condG, ↓tf_arrow, ↓ft_arrow, wP.down]) fun S3 hS3 => ?_
    have c4 : S3.f g4 = some (.box [.t .nilS, .t .nilS, .t .nilS, .t .nilS] false) := by rw [hS3]; exact b4
    have c6 : S3.f g6 = some (.box [.t (sl (tkS n s).Held), .t (sl (tkS n s).One), .t (sl (tkS n s).Two), .t (sl (tkS n s).Kept)] false) := by rw [hS3]; exact b6
    clear hS3 b4 b6
    simp only [vP.down, vS.down, vE.down, qA, qB, qC, qD, qE, qF, qG, reduceIte, reduceCtorEq, qH, qI, qJ, ↓avp_condG, ↓tf_arrow, ↓ft_arrow, c6]
    intro g10 hg10
    have n1 := ne_of c4 hg10
    refine weak_here [(0, .t (.int .i64 n)), (1, .t (.str s)), (4, .ptr g4 0), (10, .ptr g10 0)] (by simp only [vP.down, vS.down, vE.down, qA, qB, qC, qD, qE, qF, qG, reduceIte, reduceCtorEq, qH, qI, qJ, ↓avp_condG, ↓tf_arrow, ↓ft_arrow, wP.down]) fun S4 hS4 => ?_
    have d4 : S4.f g4 = some (.box [.t .nilS, .t .nilS, .t .nilS, .t .nilS] false) := by rw [hS4]; exact (Store.set_other _ _ n1).trans c4
    have d10 : S4.f g10 = some (.box [.t (sl (tkS n s).Held), .t (sl (tkS n s).One), .t (sl (tkS n s).Two), .t (sl (tkS n s).Kept)] false) := by rw [hS4]; exact Store.set_same _ _ _
    clear hS4 c4 c6 hg10
    have hl := tkS_len (n := n) (s := s)
    cases hk : tkOk n s with
    | false =>
      have e := of_decide_eq_false (hb.trans hk)
      have e2 : takeSp n s = (z0S, false) := by rw [takeSp, hk]; rfl
      simp only [vP.down, vS.down, vE.down, qA, qB, qC, qD, qE, qF, qG, reduceIte, reduceCtorEq, qH, qI, qJ, ↓avp_condG, ↓tf_arrow, ↓ft_arrow, d10, d4, hl, e, not_false_eq_true, true_implies, false_implies, k_table_TakeSpace_table_Space.down, A_table_Space, p_table_Space, r_table_Space]
      simp only [vP.down, vS.down, vE.down, qA, qB, qC, qD, qE, qF, qG, reduceIte, reduceCtorEq, qH, qI, qJ, ↓avp_condG, ↓tf_arrow, ↓ft_arrow, vT.down, Store.set_same, e2, spC, z0S]
    | true =>
      have e := of_decide_eq_true (hb.trans hk)
      have e2 : takeSp n s = (tkS n s, true) := by rw [takeSp, hk]; rfl
      simp only [vP.down, vS.down, vE.down, qA, qB, qC, qD, qE, qF, qG, reduceIte, reduceCtorEq, qH, qI, qJ, ↓avp_condG, ↓tf_arrow, ↓ft_arrow, d10, hl, e, bne_self_eq_false, k_table_TakeSpace_table_Space.down, A_table_Space, p_table_Space, r_table_Space]
      refine weak_here [(4, .ptr g4 0), (10, .ptr g10 0)] (by simp only [vP.down, vS.down, vE.down, qA, qB, qC, qD, qE, qF, qG, reduceIte, reduceCtorEq, qH, qI, qJ, ↓avp_condG, ↓tf_arrow, ↓ft_arrow, wP.down]) fun S5 hS5 => ?_
      have f4 : S5.f g4 = some (.box [.t .nilS, .t .nilS, .t .nilS, .t .nilS] false) := by rw [hS5]; exact d4
      have f10 : S5.f g10 = some (.box [.t (sl (tkS n s).Held), .t (sl (tkS n s).One), .t (sl (tkS n s).Two), .t (sl (tkS n s).Kept)] false) := by rw [hS5]; exact d10
      simp only [vP.down, vS.down, vE.down, qA, qB, qC, qD, qE, qF, qG, reduceIte, reduceCtorEq, qH, qI, qJ, ↓avp_condG, ↓tf_arrow, ↓ft_arrow, f4, f10]
      simp only [vP.down, vS.down, vE.down, qA, qB, qC, qD, qE, qF, qG, reduceIte, reduceCtorEq, qH, qI, qJ, ↓avp_condG, ↓tf_arrow, ↓ft_arrow, vT.down, Store.set_same, e2, spC]
  have hlt' : (i : Int) < 4 := by omega
  have h40 : (0 : Int) ≤ (i : Int) := by omega
  have pr : (restL n s i).length ≤ 1000000 := by have := rest_len (n := n) (s := s) i; omega
  simp only [vP.down, vS.down, vE.down, qA, qB, qC, qD, qE, qF, qG, reduceIte, reduceCtorEq, qH, qI, qJ, ↓avp_condG, ↓tf_arrow, ↓ft_arrow, hlt']
  refine weak_here [(0, .t (.int .i64 n)), (1, .t (.str s)), (4, .ptr g4 0), (6, .ptr g6 0), (7, .t (.str (restL n s i))), (9, .t (.int .i64 (i : Nat))), (12, .t (.int .i64 (i : Nat)))] (by simp only [vP.down, vS.down, vE.down, qA, qB, qC, qD, qE, qF, qG, reduceIte, reduceCtorEq, qH, qI, qJ, ↓avp_condG, ↓tf_arrow, ↓ft_arrow, wP.down]) fun S3 hS3 => ?_
  have c4 : S3.f g4 = some (.box [.t .nilS, .t .nilS, .t .nilS, .t .nilS] false) := by rw [hS3]; exact b4
  have c6 : S3.f g6 = some (.box (cellsA n s i) false) := by rw [hS3]; exact b6
  have hcl : (cellsA n s i).length = 4 := rfl
  clear hS3 b4 b6
  have et := tkL_eq (n := n) (s := s) i
  have hcn := cells_next (n := n) (s := s) hlt
  have n46 : g4 ≠ g6 := n64
  simp only [vP.down, vS.down, vE.down, qA, qB, qC, qD, qE, qF, qG, reduceIte, reduceCtorEq, qH, qI, qJ, ↓avp_condG, ↓tf_arrow, ↓ft_arrow, hlt', hcn, h40, pr, c6, ← et, hcl, Nat.mul_one, Nat.zero_add, Int.toNat_natCast, k_table_TakeSpace_smap_Take.down, A_smap_Take, p_smap_Take, r_smap_Take]
  refine ⟨by omega, ?_⟩
  refine weak_here [(0, .t (.int .i64 n)), (1, .t (.str s)), (4, .ptr g4 0), (6, .ptr g6 0), (7, .t (.str (restL n s (i + 1)))), (8, .t (.bool (tkL n s i).2.2)), (12, .t (.int .i64 (i : Nat)))] (by simp only [vP.down, vS.down, vE.down, qA, qB, qC, qD, qE, qF, qG, reduceIte, reduceCtorEq, qH, qI, qJ, ↓avp_condG, ↓tf_arrow, ↓ft_arrow, wP.down, restL]) fun S4 hS4 => ?_
  have d4 : S4.f g4 = some (.box [.t .nilS, .t .nilS, .t .nilS, .t .nilS] false) := by rw [hS4]; exact (Store.set_other _ _ n46).trans c4
  have d6 : S4.f g6 = some (.box (cellsA n s (i + 1)) false) := by rw [hS4]; exact Store.set_same _ _ _
  clear hS4 c4 c6
  cases hk : (tkL n s i).2.2 with
  | false =>
    have e2 := takeSp_no hlt hk
    simp only [vP.down, vS.down, vE.down, qA, qB, qC, qD, qE, qF, qG, reduceIte, reduceCtorEq, qH, qI, qJ, ↓avp_condG, ↓tf_arrow, ↓ft_arrow, d4]
    simp only [vP.down, vS.down, vE.down, qA, qB, qC, qD, qE, qF, qG, reduceIte, reduceCtorEq, qH, qI, qJ, ↓avp_condG, ↓tf_arrow, ↓ft_arrow, vT.down, Store.set_same, e2, spC, z0S]
  | true =>
    simp only [vP.down, vS.down, vE.down, qA, qB, qC, qD, qE, qF, qG, reduceIte, reduceCtorEq, qH, qI, qJ, ↓avp_condG, ↓tf_arrow, ↓ft_arrow]
    refine weak_here [(0, .t (.int .i64 n)), (1, .t (.str s)), (4, .ptr g4 0), (6, .ptr g6 0), (7, .t (.str (restL n s (i + 1)))), (12, .t (.int .i64 (i : Nat)))] (by simp only [vP.down, vS.down, vE.down, qA, qB, qC, qD, qE, qF, qG, reduceIte, reduceCtorEq, qH, qI, qJ, ↓avp_condG, ↓tf_arrow, ↓ft_arrow, wP.down]) fun S5 hS5 => ?_
    have d4 : S5.f g4 = some (.box [.t .nilS, .t .nilS, .t .nilS, .t .nilS] false) := by rw [hS5]; exact d4
    have d6 : S5.f g6 = some (.box (cellsA n s (i + 1)) false) := by rw [hS5]; exact d6
    simp only [vP.down, vS.down, vE.down, qA, qB, qC, qD, qE, qF, qG, reduceIte, reduceCtorEq, qH, qI, qJ, ↓avp_condG, ↓tf_arrow, ↓ft_arrow]
    exact round_to (4 - (i + 1)) [(0, .t (.int .i64 n)), (1, .t (.str s)), (4, .ptr g4 0), (6, .ptr g6 0), (7, .t (.str (restL n s (i + 1)))), (12, .t (.int .i64 (i + 1 : Nat)))] S5 (by omega) fewer_refl (by simp only [vP.down, vS.down, vE.down, qA, qB, qC, qD, qE, qF, qG, reduceIte, reduceCtorEq, qH, qI, qJ, ↓avp_condG, ↓tf_arrow, ↓ft_arrow, wP.down, hi1])
      ⟨i + 1, S5, rfl, by omega, fun j hj => (by
        by_cases hji : j = i
        · rw [hji]; exact hk
        · exact hlo j (by omega)), d4, d6, rfl⟩
noncomputable def c_table_TakeSpace : Con := fnCon A_table_TakeSpace p_table_TakeSpace r_table_TakeSpace
theorem ok_table_TakeSpace : COk Try.prog 28 c_table_TakeSpace := fn_ok sys_table_TakeSpace mixed Try.func28 (by kernel_rfl) geq_table_TakeSpace Try.ntmps28 (by rw [Try.results28]) fun x hx => ⟨Nat.le_of_ble_eq_true rfl, body_table_TakeSpace x hx⟩
def G_ref16_TakeSpace : GCode := .seq (.region [⟨(some 4), none, .alloc 56⟩, ⟨(some 5), none, .assign (.const (.bool false))⟩]) (.seq (.seq .weak (.region [⟨(some 17), none, .move (.tmp 0)⟩, ⟨(some 18), none, .move (.tmp 1)⟩, ⟨(some 19), none, .call ⟨.value (.func 56), #[.tmp 17, .tmp 18], #[3, 9]⟩⟩, ⟨(some 16), none, .move (.tmp 19)⟩, ⟨(some 20), none, .extract (.tmp 16) 0⟩, ⟨(some 21), none, .extract (.tmp 16) 1⟩, ⟨(some 22), none, .extract (.tmp 16) 2⟩, ⟨(some 6), none, .assign (.tmp 20)⟩, ⟨(some 7), none, .assign (.tmp 21)⟩, ⟨(some 8), none, .assign (.tmp 22)⟩])) (.seq (.seq .weak (.region [⟨(some 24), none, .move (.tmp 0)⟩, ⟨(some 25), none, .move (.tmp 7)⟩, ⟨(some 26), none, .call ⟨.value (.func 56), #[.tmp 24, .tmp 25], #[3, 9]⟩⟩, ⟨(some 23), none, .move (.tmp 26)⟩, ⟨(some 27), none, .extract (.tmp 23) 0⟩, ⟨(some 28), none, .extract (.tmp 23) 1⟩, ⟨(some 29), none, .extract (.tmp 23) 2⟩, ⟨(some 9), none, .assign (.tmp 27)⟩, ⟨(some 7), none, .assign (.tmp 28)⟩, ⟨(some 10), none, .assign (.tmp 29)⟩])) (.seq (.seq .weak (.region [⟨(some 31), none, .move (.tmp 0)⟩, ⟨(some 32), none, .move (.tmp 7)⟩, ⟨(some 33), none, .call ⟨.value (.func 56), #[.tmp 31, .tmp 32], #[3, 9]⟩⟩, ⟨(some 30), none, .move (.tmp 33)⟩, ⟨(some 34), none, .extract (.tmp 30) 0⟩, ⟨(some 35), none, .extract (.tmp 30) 1⟩, ⟨(some 36), none, .extract (.tmp 30) 2⟩, ⟨(some 11), none, .assign (.tmp 34)⟩, ⟨(some 7), none, .assign (.tmp 35)⟩, ⟨(some 12), none, .assign (.tmp 36)⟩])) (.seq (.seq .weak (.region [⟨(some 38), none, .move (.tmp 0)⟩, ⟨(some 39), none, .move (.tmp 7)⟩, ⟨(some 40), none, .call ⟨.value (.func 56), #[.tmp 38, .tmp 39], #[3, 9]⟩⟩, ⟨(some 37), none, .move (.tmp 40)⟩, ⟨(some 41), none, .extract (.tmp 37) 0⟩, ⟨(some 42), none, .extract (.tmp 37) 1⟩, ⟨(some 43), none, .extract (.tmp 37) 2⟩, ⟨(some 13), none, .assign (.tmp 41)⟩, ⟨(some 7), none, .assign (.tmp 42)⟩, ⟨(some 14), none, .assign (.tmp 43)⟩])) (.seq (.seq .weak (.region [⟨(some 44), none, .move (.tmp 6)⟩, ⟨(some 45), none, .move (.tmp 9)⟩, ⟨(some 46), none, .move (.tmp 11)⟩, ⟨(some 47), none, .move (.tmp 13)⟩, ⟨(some 48), none, .build 56 #[(0, .tmp 44), (1, .tmp 45), (2, .tmp 46), (3, .tmp 47)]⟩, ⟨(some 15), none, .alloc 56⟩, ⟨none, none, .store 56 (.tmp 15) (.tmp 48)⟩])) (.seq (.seq (.seq .weak (.region [⟨(some 49), none, .move (.tmp 8)⟩, ⟨(some 50), none, .unOp .not 4 (.tmp 49)⟩, ⟨(some 51), none, .move (.tmp 50)⟩, ⟨(some 52), (some (51, false)), .move (.tmp 10)⟩, ⟨(some 53), (some (51, false)), .unOp .not 4 (.tmp 52)⟩, ⟨(some 54), none, .pick (.tmp 51) (.const (.bool true)) (.tmp 53)⟩, ⟨(some 55), none, .move (.tmp 54)⟩, ⟨(some 56), (some (55, false)), .move (.tmp 12)⟩, ⟨(some 57), (some (55, false)), .unOp .not 4 (.tmp 56)⟩, ⟨(some 58), none, .pick (.tmp 55) (.const (.bool true)) (.tmp 57)⟩, ⟨(some 59), none, .move (.tmp 58)⟩, ⟨(some 60), (some (59, false)), .move (.tmp 14)⟩, ⟨(some 61), (some (59, false)), .unOp .not 4 (.tmp 60)⟩, ⟨(some 62), none, .pick (.tmp 59) (.const (.bool true)) (.tmp 61)⟩, ⟨(some 63), none, .move (.tmp 62)⟩, ⟨(some 64), (some (63, false)), .move (.tmp 7)⟩, ⟨(some 65), (some (63, false)), .binOp .neq 9 (.tmp 64) (.const (.string ⟨#[]⟩)) 9⟩, ⟨(some 66), none, .pick (.tmp 63) (.const (.bool true)) (.tmp 65)⟩, ⟨(some 67), none, .move (.tmp 66)⟩, ⟨(some 68), (some (67, false)), .move (.tmp 0)⟩, ⟨(some 69), (some (67, false)), .load 56 (.tmp 15)⟩, ⟨(some 70), (some (67, false)), .call ⟨.value (.func 53), #[.tmp 68, .tmp 69], #[3, 56]⟩⟩, ⟨(some 71), (some (67, false)), .unOp .not 4 (.tmp 70)⟩, ⟨(some 72), none, .pick (.tmp 67) (.const (.bool true)) (.tmp 71)⟩])) (.cond (.tmp 72) (.seq (.region [⟨(some 73), none, .build 56 #[]⟩, ⟨none, none, .store 56 (.tmp 4) (.tmp 73)⟩, ⟨(some 5), none, .assign (.const (.bool false))⟩]) (.ret)) (.skip))) (.seq (.seq .weak (.region [⟨(some 74), none, .load 56 (.tmp 15)⟩, ⟨none, none, .store 56 (.tmp 4) (.tmp 74)⟩, ⟨(some 5), none, .assign (.const (.bool true))⟩])) (.ret))))))))
noncomputable def l_ref16_TakeSpace : List (Nat × Con) := [(56, c_ref8_TakeMap), (53, c_ref8_MaySpace)]
noncomputable abbrev K_ref16_TakeSpace : Ctx := ctx (cl l_ref16_TakeSpace)
theorem geq_ref16_TakeSpace : gof K_ref16_TakeSpace Try.f29 = some G_ref16_TakeSpace.strip := by kernel_rfl
theorem sys_ref16_TakeSpace : Go.Eng.Sys Try.prog K_ref16_TakeSpace := sys_of' ⟨ok_ref8_TakeMap, ok_ref8_MaySpace, trivial⟩
noncomputable def k_ref16_TakeSpace_ref8_TakeMap := PLift.up (call_fn (C := K_ref16_TakeSpace) (f := 56) (A := A_ref8_TakeMap) (p := p_ref8_TakeMap) (r := r_ref8_TakeMap) rfl)
noncomputable def k_ref16_TakeSpace_ref8_MaySpace := PLift.up (call_scal (C := K_ref16_TakeSpace) (f := 53) (A := A_ref8_MaySpace) (p := p_ref8_MaySpace) (r := r_ref8_MaySpace) rfl)
def A_ref16_TakeSpace := Arms.cons (argT Int) (Arms.cons (argT (List UInt8)) Arms.nil)
def p_ref16_TakeSpace (x : Int × List UInt8 × Unit) : Prop := x.2.1.length ≤ 1000000
def r_ref16_TakeSpace (x : Int × List UInt8 × Unit) : AV := .tup [.agg ((spC (takeSp x.1 x.2.1).1).map .t), .t (.bool (takeSp x.1 x.2.1).2)]
set_option maxHeartbeats 4000000 in
theorem body_ref16_TakeSpace (x : Int × List UInt8 × Unit) (hp : p_ref16_TakeSpace x) : avp K_ref16_TakeSpace G_ref16_TakeSpace (Ret K_ref16_TakeSpace [.cell 4 56, .tmp 5] fun v s' => Frz s' v (r_ref16_TakeSpace x)) (entry (A_ref16_TakeSpace.enc x) .empty) := by
  obtain ⟨n, s, ⟨⟩⟩ := x
  change s.length ≤ 1000000 at hp
  change avp _ _ (Ret _ _ fun v s' => Frz s' v (.tup [.agg ((spC (takeSp n s).1).map .t), .t (.bool (takeSp n s).2)])) (entry [.t (.int .i64 n), .t (.str s)] .empty)
  unfold G_ref16_TakeSpace
  simp only [vP.down, vS.down, vE.down, qA, qB, qC, qD, qE, qF, qG, reduceIte, reduceCtorEq, qH, qI, qJ, ↓avp_condG, ↓tf_arrow, ↓ft_arrow]
  intro g4 hg4
  have pr : ∀ i, (restL n s i).length ≤ 1000000 := fun i => by have := rest_len (n := n) (s := s) i; omega
  have q0 := pr 0
  have q1 := pr 1
  have q2 := pr 2
  have q3 := pr 3
  have t0 := (tkL_eq (n := n) (s := s) 0).symm
  have t1 := (tkL_eq (n := n) (s := s) 1).symm
  have t2 := (tkL_eq (n := n) (s := s) 2).symm
  have t3 := (tkL_eq (n := n) (s := s) 3).symm
  have r1 : (tkL n s 0).2.1 = restL n s 1 := rfl
  have r2 : (tkL n s 1).2.1 = restL n s 2 := rfl
  have r3 : (tkL n s 2).2.1 = restL n s 3 := rfl
  have r4 : (tkL n s 3).2.1 = restL n s 4 := rfl
  refine weak_at [(0, .t (.int .i64 n)), (1, .t (.str (restL n s 0))), (4, .ptr g4 0)] (Store.empty.set g4 (some (.box [.t .nilS, .t .nilS, .t .nilS, .t .nilS] false))) fewer_refl (by simp only [vP.down, vS.down, vE.down, qA, qB, qC, qD, qE, qF, qG, reduceIte, reduceCtorEq, qH, qI, qJ, ↓avp_condG, ↓tf_arrow, ↓ft_arrow, wP.down, restL]) ?_
  simp only [vP.down, vS.down, vE.down, qA, qB, qC, qD, qE, qF, qG, reduceIte, reduceCtorEq, qH, qI, qJ, ↓avp_condG, ↓tf_arrow, ↓ft_arrow, q0, t0, r1, k_ref16_TakeSpace_ref8_TakeMap.down, A_ref8_TakeMap, p_ref8_TakeMap, r_ref8_TakeMap]
  refine weak_at [(0, .t (.int .i64 n)), (4, .ptr g4 0), (6, .t (sl (tkL n s 0).1)), (7, .t (.str (restL n s 1))), (8, .t (.bool (tkL n s 0).2.2))] (Store.empty.set g4 (some (.box [.t .nilS, .t .nilS, .t .nilS, .t .nilS] false))) fewer_refl (by simp only [vP.down, vS.down, vE.down, qA, qB, qC, qD, qE, qF, qG, reduceIte, reduceCtorEq, qH, qI, qJ, ↓avp_condG, ↓tf_arrow, ↓ft_arrow, wP.down]) ?_
  simp only [vP.down, vS.down, vE.down, qA, qB, qC, qD, qE, qF, qG, reduceIte, reduceCtorEq, qH, qI, qJ, ↓avp_condG, ↓tf_arrow, ↓ft_arrow, q1, t1, r2, k_ref16_TakeSpace_ref8_TakeMap.down, A_ref8_TakeMap, p_ref8_TakeMap, r_ref8_TakeMap]
  refine weak_at [(0, .t (.int .i64 n)), (4, .ptr g4 0), (6, .t (sl (tkL n s 0).1)), (7, .t (.str (restL n s 2))), (8, .t (.bool (tkL n s 0).2.2)), (9, .t (sl (tkL n s 1).1)), (10, .t (.bool (tkL n s 1).2.2))] (Store.empty.set g4 (some (.box [.t .nilS, .t .nilS, .t .nilS, .t .nilS] false))) fewer_refl (by simp only [vP.down, vS.down, vE.down, qA, qB, qC, qD, qE, qF, qG, reduceIte, reduceCtorEq, qH, qI, qJ, ↓avp_condG, ↓tf_arrow, ↓ft_arrow, wP.down]) ?_
  simp only [vP.down, vS.down, vE.down, qA, qB, qC, qD, qE, qF, qG, reduceIte, reduceCtorEq, qH, qI, qJ, ↓avp_condG, ↓tf_arrow, ↓ft_arrow, q2, t2, r3, k_ref16_TakeSpace_ref8_TakeMap.down, A_ref8_TakeMap, p_ref8_TakeMap, r_ref8_TakeMap]
  refine weak_at [(0, .t (.int .i64 n)), (4, .ptr g4 0), (6, .t (sl (tkL n s 0).1)), (7, .t (.str (restL n s 3))), (8, .t (.bool (tkL n s 0).2.2)), (9, .t (sl (tkL n s 1).1)), (10, .t (.bool (tkL n s 1).2.2)), (11, .t (sl (tkL n s 2).1)), (12, .t (.bool (tkL n s 2).2.2))] (Store.empty.set g4 (some (.box [.t .nilS, .t .nilS, .t .nilS, .t .nilS] false))) fewer_refl (by simp only [vP.down, vS.down, vE.down, qA, qB, qC, qD, qE, qF, qG, reduceIte, reduceCtorEq, qH, qI, qJ, ↓avp_condG, ↓tf_arrow, ↓ft_arrow, wP.down]) ?_
  simp only [vP.down, vS.down, vE.down, qA, qB, qC, qD, qE, qF, qG, reduceIte, reduceCtorEq, qH, qI, qJ, ↓avp_condG, ↓tf_arrow, ↓ft_arrow, q3, t3, r4, k_ref16_TakeSpace_ref8_TakeMap.down, A_ref8_TakeMap, p_ref8_TakeMap, r_ref8_TakeMap]
  refine weak_at [(0, .t (.int .i64 n)), (4, .ptr g4 0), (6, .t (sl (tkS n s).Held)), (7, .t (.str (restL n s 4))), (8, .t (.bool (tkL n s 0).2.2)), (9, .t (sl (tkS n s).One)), (10, .t (.bool (tkL n s 1).2.2)), (11, .t (sl (tkS n s).Two)), (12, .t (.bool (tkL n s 2).2.2)), (13, .t (sl (tkS n s).Kept)), (14, .t (.bool (tkL n s 3).2.2))] (Store.empty.set g4 (some (.box [.t .nilS, .t .nilS, .t .nilS, .t .nilS] false))) fewer_refl (by simp only [vP.down, vS.down, vE.down, qA, qB, qC, qD, qE, qF, qG, reduceIte, reduceCtorEq, qH, qI, qJ, ↓avp_condG, ↓tf_arrow, ↓ft_arrow, wP.down, tkS]) ?_
  have hl := tkS_len (n := n) (s := s)
  have ek : tkOk n s = ((tkL n s 0).2.2 && ((tkL n s 1).2.2 && ((tkL n s 2).2.2 && ((tkL n s 3).2.2 && (decide (restL n s 4 = []) && okSp n (tkS n s)))))) := rfl
  obtain ⟨T, hT⟩ : ∃ T, T = tkS n s := ⟨_, rfl⟩
  obtain ⟨R, hR⟩ : ∃ R, R = restL n s 4 := ⟨_, rfl⟩
  obtain ⟨o0, h0⟩ : ∃ o, o = (tkL n s 0).2.2 := ⟨_, rfl⟩
  obtain ⟨o1, h1⟩ : ∃ o, o = (tkL n s 1).2.2 := ⟨_, rfl⟩
  obtain ⟨o2, h2⟩ : ∃ o, o = (tkL n s 2).2.2 := ⟨_, rfl⟩
  obtain ⟨o3, h3⟩ : ∃ o, o = (tkL n s 3).2.2 := ⟨_, rfl⟩
  rw [← hT, ← hR, ← h0, ← h1, ← h2, ← h3] at ek
  rw [← hT] at hl
  rw [← hT, ← hR, ← h0, ← h1, ← h2, ← h3]
  clear t0 t1 t2 t3 r1 r2 r3 r4 h0 h1 h2 h3
  simp only [vP.down, vS.down, vE.down, qA, qB, qC, qD, qE, qF, qG, reduceIte, reduceCtorEq, qH, qI, qJ, ↓avp_condG, ↓tf_arrow, ↓ft_arrow]
  intro g15 hg15
  have n1 := Store.ne_new hg15
  refine weak_here [(0, .t (.int .i64 n)), (4, .ptr g4 0), (7, .t (.str R)), (8, .t (.bool o0)), (10, .t (.bool o1)), (12, .t (.bool o2)), (14, .t (.bool o3)), (15, .ptr g15 0)] (by simp only [vP.down, vS.down, vE.down, qA, qB, qC, qD, qE, qF, qG, reduceIte, reduceCtorEq, qH, qI, qJ, ↓avp_condG, ↓tf_arrow, ↓ft_arrow, wP.down]) fun S hS => ?_
  have c4 : S.f g4 = some (.box [.t .nilS, .t .nilS, .t .nilS, .t .nilS] false) := by rw [hS]; exact (Store.set_other _ _ n1.symm).trans (Store.set_same _ _ _)
  have c15 : S.f g15 = some (.box [.t (sl T.Held), .t (sl T.One), .t (sl T.Two), .t (sl T.Kept)] false) := by rw [hS]; exact Store.set_same _ _ _
  clear hS hg15 hg4
  simp only [vP.down, vS.down, vE.down, qA, qB, qC, qD, qE, qF, qG, reduceIte, reduceCtorEq, qH, qI, qJ, ↓avp_condG, ↓tf_arrow, ↓ft_arrow, c15, hl, pick_of, pick_ot, k_ref16_TakeSpace_ref8_MaySpace.down, A_ref8_MaySpace, p_ref8_MaySpace, r_ref8_MaySpace]
  refine ⟨fun h => ?_, fun h => ?_⟩
  · have e : tkOk n s = false := by
      rw [ek]
      rcases h with ((((h | h) | h) | h) | h) | h <;> simp [h]
    have e2 : takeSp n s = (z0S, false) := by rw [takeSp, e]; rfl
    simp only [vP.down, vS.down, vE.down, qA, qB, qC, qD, qE, qF, qG, reduceIte, reduceCtorEq, qH, qI, qJ, ↓avp_condG, ↓tf_arrow, ↓ft_arrow, c4]
    simp only [vP.down, vS.down, vE.down, qA, qB, qC, qD, qE, qF, qG, reduceIte, reduceCtorEq, qH, qI, qJ, ↓avp_condG, ↓tf_arrow, ↓ft_arrow, vT.down, Store.set_same, e2, spC, z0S]
  · have e : tkOk n s = true := by
      rw [ek]
      obtain ⟨⟨⟨⟨⟨a, b⟩, c⟩, d⟩, e⟩, f⟩ := h
      simp [a, b, c, d, e, f]
    have e2 : takeSp n s = (T, true) := by rw [takeSp, e, hT]; rfl
    refine weak_here [(4, .ptr g4 0), (15, .ptr g15 0)] (by simp only [vP.down, vS.down, vE.down, qA, qB, qC, qD, qE, qF, qG, reduceIte, reduceCtorEq, qH, qI, qJ, ↓avp_condG, ↓tf_arrow, ↓ft_arrow, wP.down]) fun S5 hS5 => ?_
    have f4 : S5.f g4 = some (.box [.t .nilS, .t .nilS, .t .nilS, .t .nilS] false) := by rw [hS5]; exact c4
    have f15 : S5.f g15 = some (.box [.t (sl T.Held), .t (sl T.One), .t (sl T.Two), .t (sl T.Kept)] false) := by rw [hS5]; exact c15
    simp only [vP.down, vS.down, vE.down, qA, qB, qC, qD, qE, qF, qG, reduceIte, reduceCtorEq, qH, qI, qJ, ↓avp_condG, ↓tf_arrow, ↓ft_arrow, f4, f15]
    simp only [vP.down, vS.down, vE.down, qA, qB, qC, qD, qE, qF, qG, reduceIte, reduceCtorEq, qH, qI, qJ, ↓avp_condG, ↓tf_arrow, ↓ft_arrow, vT.down, Store.set_same, e2, spC]
noncomputable def c_ref16_TakeSpace : Con := fnCon A_ref16_TakeSpace p_ref16_TakeSpace r_ref16_TakeSpace
theorem ok_ref16_TakeSpace : COk Try.prog 29 c_ref16_TakeSpace := fn_ok sys_ref16_TakeSpace mixed Try.func29 (by kernel_rfl) geq_ref16_TakeSpace Try.ntmps29 (by rw [Try.results29]) fun x hx => ⟨Nat.le_of_ble_eq_true rfl, body_ref16_TakeSpace x hx⟩
end Go.Proofs.Ytofcmdkmhbbbjaa
