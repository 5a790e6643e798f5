/-
  What is taken: may it be, what is free, are two alike.
-/
import Derived.Test.YtofcmdkmhbbbjaaFnsD
set_option linter.unusedSimpArgs false
set_option linter.unusedVariables false
open Nat renaming reduceEqDiff → qA, reduceAdd → qB, reduceSub → qC, reduceMul → qD, reduceLeDiff → qE, reduceLT → qF
open Int renaming reduceToNat → qG, reduceEq → qH, reduceLT → qI, reduceLE → qJ
namespace Go.Proofs.Ytofcmdkmhbbbjaa
open Go Go.Eng
set_option maxRecDepth 100000
def G_space_May : GCode := .seq (.region [⟨(some 3), none, .box 56 (.tmp 1)⟩, ⟨(some 4), none, .assign (.const (.bool false))⟩]) (.seq (.seq .weak (.region [⟨(some 5), none, .load 56 (.tmp 3)⟩, ⟨(some 6), none, .build 115 #[(0, .tmp 5)]⟩, ⟨(some 7), none, .move (.tmp 0)⟩, ⟨(some 8), none, .build 117 #[(0, .tmp 6), (1, .tmp 7)]⟩, ⟨(some 9), none, .call ⟨.value (.func 68), #[.tmp 8], #[117]⟩⟩, ⟨(some 4), none, .assign (.tmp 9)⟩])) (.ret))
noncomputable def l_space_May : List (Nat × Con) := [(68, c_space_pool_may)]
noncomputable abbrev K_space_May : Ctx := ctx (cl l_space_May)
theorem geq_space_May : gof K_space_May Try.f51 = some G_space_May.strip := by kernel_rfl
theorem sys_space_May : Go.Eng.Sys Try.prog K_space_May := sys_of' ⟨ok_space_pool_may, trivial⟩
noncomputable def k_space_May_space_pool_may := PLift.up (call_scal (C := K_space_May) (f := 68) (A := A_space_pool_may) (p := p_space_pool_may) (r := r_space_pool_may) rfl)
def A_space_May := Arms.cons (argT Int) (Arms.cons (argA TSpace) Arms.nil)
def p_space_May (x : Int × TSpace × Unit) : Prop := lenS x.2.1
def r_space_May (x : Int × TSpace × Unit) : AV := .t (.bool (okSp x.1 x.2.1))
theorem body_space_May (x : Int × TSpace × Unit) (hp : p_space_May x) : avp K_space_May G_space_May (Ret K_space_May [.tmp 4] fun v _ => v = r_space_May x) (entry (A_space_May.enc x) .empty) := by
  obtain ⟨n, s, ⟨⟩⟩ := x
  change lenS s at hp
  change avp _ _ (Ret _ _ fun v s' => v = .t (.bool (okSp n s))) (entry [.t (.int .i64 n), .agg ((spC s).map .t)] .empty)
  unfold G_space_May
  simp only [vP.down, vS.down, vE.down, qA, qB, qC, qD, qE, qF, qG, reduceIte, reduceCtorEq, qH, qI, qJ, ↓avp_condG, ↓tf_arrow, ↓ft_arrow, spC]
  intro g hg
  refine weak_at [(0, .t (.int .i64 n)), (3, .imm (spC s))] .empty fewer_empty (by
    simp only [vP.down, vS.down, vE.down, qA, qB, qC, qD, qE, qF, qG, reduceIte, reduceCtorEq, qH, qI, qJ, ↓avp_condG, ↓tf_arrow, ↓ft_arrow, wP.down]
    exact w2_imm (l := spC s) (Store.set_same _ _ _) rfl) ?_
  simp only [vP.down, vS.down, vE.down, qA, qB, qC, qD, qE, qF, qG, reduceIte, reduceCtorEq, qH, qI, qJ, ↓avp_condG, ↓tf_arrow, ↓ft_arrow, spC, hp, k_space_May_space_pool_may.down, A_space_pool_may, p_space_pool_may, r_space_pool_may]
  simp only [vP.down, vS.down, vE.down, qA, qB, qC, qD, qE, qF, qG, reduceIte, reduceCtorEq, qH, qI, qJ, ↓avp_condG, ↓tf_arrow, ↓ft_arrow, vT.down]
noncomputable def c_space_May : Con := fnScal A_space_May p_space_May r_space_May
theorem ok_space_May : COk Try.prog 51 c_space_May := fn_sok sys_space_May mixed Try.func51 (by kernel_rfl) geq_space_May Try.ntmps51 (by rw [Try.results51]) (fun x => by unfold r_space_May; simp [AV.scal]) fun x hx => ⟨Nat.le_of_ble_eq_true rfl, body_space_May x hx⟩
end Go.Proofs.Ytofcmdkmhbbbjaa
namespace Go.Proofs.Ytofcmdkmhbbbjaa
open Go Go.Eng
set_option maxRecDepth 100000
theorem wn_nil {a : Int} {k : Nat} : Wn a k [] := fun _ h => by cases h
theorem Wn.wide {l : List TRun} {n : Nat} (h : Wn 14 40 l) (hn : 40 ≤ n) : Wn 14 n l := h.mono (by omega) (by omega)
theorem wit_of {n : Nat} {l : List TRun} (hl : Nf l) (hw : Wn 14 n l) (hn : n ≤ 1000) : wit n l = true := by
  rw [wit_eq (by omega) (may_of hl hw (by omega) (by omega))]
  refine decide_eq_true (where_nil.2 fun i => ?_)
  rw [all_has]
  cases hi : hasR l i with
  | false => rfl
  | true =>
    have := hw i hi
    rw [decide_eq_true (by omega : (14 : Int) ≤ i), decide_eq_true (by omega : i < 14 + (n : Int))]; rfl
structure Sp (s : TSpace) : Prop where
  nh : Nf s.Held
  no : Nf s.One
  nt : Nf s.Two
  nk : Nf s.Kept
  wh : Wn 14 40 s.Held
  wo : Wn 14 40 s.One
  wt : Wn 14 40 s.Two
  wk : Wn 14 40 s.Kept
  d1 : ∀ i, (hasR s.Held i && hasR s.One i) = false
  d2 : ∀ i, (hasR s.Held i && hasR s.Two i) = false
  d3 : ∀ i, (hasR s.One i && hasR s.Two i) = false
theorem Sp.ok {s : TSpace} (h : Sp s) {n : Nat} (hd : dataOk n = true) : okSp n s = true := by
  have hb := dataOk_iff.1 hd
  have hn : 40 ≤ n ∧ n ≤ 240 := by omega
  rw [okSp, hd, wit_of h.nh (h.wh.wide hn.1) (by omega), wit_of h.no (h.wo.wide hn.1) (by omega), wit_of h.nt (h.wt.wide hn.1) (by omega), wit_of h.nk (h.wk.wide hn.1) (by omega),
    decide_eq_true ((where_nil (h := .both)).2 h.d1), decide_eq_true ((where_nil (h := .both)).2 h.d2), decide_eq_true ((where_nil (h := .both)).2 h.d3)]; rfl
def inS (s : TSpace) (i : Int) : Bool := hasR s.Held i || (hasR s.One i || (hasR s.Two i || hasR s.Kept i))
theorem Sp.free {s : TSpace} (h : Sp s) {n : Nat} (hd : dataOk n = true) (i : Int) : hasR (freeM n s) i = (decide (14 ≤ i) && decide (i < 14 + (n : Int)) && !inS s i) := by
  rw [freeM, if_pos (h.ok hd), where_has, all_has, where_has, where_has, where_has]
  simp only [How.op, inS]
  cases hasR s.Held i <;> cases hasR s.One i <;> cases hasR s.Two i <;> cases hasR s.Kept i <;> rfl
theorem Sp.mk' {a b c d : List TRun} (nh : Nf a) (no : Nf b) (nt : Nf c) (nk : Nf d) (wh : Wn 14 40 a) (wo : Wn 14 40 b) (wt : Wn 14 40 c) (wk : Wn 14 40 d) (d1 : ∀ i, (hasR a i && hasR b i) = false) (d2 : ∀ i, (hasR a i && hasR c i) = false) (d3 : ∀ i, (hasR b i && hasR c i) = false) : Sp ⟨a, b, c, d⟩ := ⟨nh, no, nt, nk, wh, wo, wt, wk, d1, d2, d3⟩
theorem Sp.keep {s : TSpace} (h : Sp s) : Sp (keepM s) := ⟨h.nh, h.no, h.nt, h.nh, h.wh, h.wo, h.wt, h.wh, h.d1, h.d2, h.d3⟩
end Go.Proofs.Ytofcmdkmhbbbjaa
namespace Go.Proofs.Ytofcmdkmhbbbjaa
open Go Go.Eng
set_option maxRecDepth 100000
end Go.Proofs.Ytofcmdkmhbbbjaa
namespace Go.Proofs.Ytofcmdkmhbbbjaa
open Go Go.Eng
set_option maxRecDepth 100000
end Go.Proofs.Ytofcmdkmhbbbjaa
namespace Go.Proofs.Ytofcmdkmhbbbjaa
open Go Go.Eng
set_option maxRecDepth 100000
end Go.Proofs.Ytofcmdkmhbbbjaa
namespace Go.Proofs.Ytofcmdkmhbbbjaa
open Go Go.Eng
set_option maxRecDepth 100000
theorem cnt_ge : ∀ {l : List TRun}, Nf l → (l.length : Int) ≤ cntR l
  | [], _ => Int.le_refl _
  | r :: t, h => by
    have h1 := cnt_ge h.tail
    have h2 := h.head.1
    have e : cntR (r :: t) = r.To - r.From + cntR t := by simp [cntR]
    rw [e, List.length_cons]
    omega
theorem nf_len {l : List TRun} {a : Int} {k : Nat} (h : Nf l) (hw : Wn a k l) : l.length ≤ k := by
  have h1 := cnt_ge h
  rw [cntR_card h hw] at h1
  have h2 := List.length_filter_le (hasR l) (seg a k)
  rw [seg_len] at h2
  omega
theorem Sp.len {s : TSpace} (h : Sp s) : lenS s := by
  have h1 := nf_len h.nh h.wh
  have h2 := nf_len h.no h.wo
  have h3 := nf_len h.nt h.wt
  have h4 := nf_len h.nk h.wk
  have e1 : s.Held.length ≤ 1000 := by omega
  have e2 : s.One.length ≤ 1000 := by omega
  have e3 : s.Two.length ≤ 1000 := by omega
  have e4 : s.Kept.length ≤ 1000 := by omega
  exact ⟨e1, e2, e3, e4⟩
end Go.Proofs.Ytofcmdkmhbbbjaa
namespace Go.Proofs.Ytofcmdkmhbbbjaa
open Go Go.Eng
set_option maxRecDepth 100000
theorem take_len17 {n : Int} {s : List UInt8} : (takeM n s).1.length ≤ 1000 := by
  rw [takeM]
  split
  · next h =>
    have h1 : dataOk n = true := by rw [takeOkM, Bool.and_eq_true] at h; exact h.1
    have h2 := dataOk_iff.1 h1
    have h3 := ofL_len (idsB s (8 * ((n.toNat + 7) / 8)))
    have h4 := idsB_len (s := s) (8 * ((n.toNat + 7) / 8))
    show (ofL (idsB s (8 * ((n.toNat + 7) / 8)))).length ≤ 1000
    omega
  · exact Nat.zero_le _
theorem take_rest {n : Int} {s : List UInt8} : (takeM n s).2.1.length ≤ s.length := by
  rw [takeM]
  split
  · show (s.drop _).length ≤ _
    rw [List.length_drop]; omega
  · exact Nat.zero_le _
theorem putM_len {n : Int} {l : List TRun} : (putM n l).length ≤ 30 := by
  rw [putM]
  split
  · next h =>
    have h1 : dataOk n = true := by rw [okM, Bool.and_eq_true] at h; exact h.1
    have h2 := dataOk_iff.1 h1
    rw [List.length_map, mapL, mapS_len, List.length_replicate]
    omega
  · exact Nat.zero_le _
def spaceB (n : Int) (s : TSpace) : List UInt8 := if okSp n s = true then ((putM n s.Held ++ putM n s.One) ++ putM n s.Two) ++ putM n s.Kept else []
def G_table_Space : GCode := .seq (.region [⟨(some 3), none, .box 56 (.tmp 1)⟩, ⟨(some 4), none, .assign (.const (.string ⟨#[]⟩))⟩]) (.seq (.seq (.seq .weak (.region [⟨(some 5), none, .move (.tmp 0)⟩, ⟨(some 6), none, .load 56 (.tmp 3)⟩, ⟨(some 7), none, .call ⟨.value (.func 51), #[.tmp 5, .tmp 6], #[3, 56]⟩⟩, ⟨(some 8), none, .unOp .not 4 (.tmp 7)⟩])) (.cond (.tmp 8) (.seq (.region [⟨(some 4), none, .assign (.const (.string ⟨#[]⟩))⟩]) (.ret)) (.skip))) (.seq (.seq .weak (.region [⟨(some 9), none, .move (.tmp 0)⟩, ⟨(some 10), none, .fieldAddr 56 (.tmp 3) 0⟩, ⟨(some 11), none, .load 52 (.tmp 10)⟩, ⟨(some 12), none, .call ⟨.value (.func 52), #[.tmp 9, .tmp 11], #[3, 52]⟩⟩, ⟨(some 13), none, .move (.tmp 0)⟩, ⟨(some 14), none, .fieldAddr 56 (.tmp 3) 1⟩, ⟨(some 15), none, .load 52 (.tmp 14)⟩, ⟨(some 16), none, .call ⟨.value (.func 52), #[.tmp 13, .tmp 15], #[3, 52]⟩⟩, ⟨(some 17), none, .binOp .add 9 (.tmp 12) (.tmp 16) 9⟩, ⟨(some 18), none, .move (.tmp 0)⟩, ⟨(some 19), none, .fieldAddr 56 (.tmp 3) 2⟩, ⟨(some 20), none, .load 52 (.tmp 19)⟩, ⟨(some 21), none, .call ⟨.value (.func 52), #[.tmp 18, .tmp 20], #[3, 52]⟩⟩, ⟨(some 22), none, .binOp .add 9 (.tmp 17) (.tmp 21) 9⟩, ⟨(some 23), none, .move (.tmp 0)⟩, ⟨(some 24), none, .fieldAddr 56 (.tmp 3) 3⟩, ⟨(some 25), none, .load 52 (.tmp 24)⟩, ⟨(some 26), none, .call ⟨.value (.func 52), #[.tmp 23, .tmp 25], #[3, 52]⟩⟩, ⟨(some 27), none, .binOp .add 9 (.tmp 22) (.tmp 26) 9⟩, ⟨(some 4), none, .assign (.tmp 27)⟩])) (.ret)))
noncomputable def l_table_Space : List (Nat × Con) := [(51, c_space_May), (52, c_smap_Put)]
noncomputable abbrev K_table_Space : Ctx := ctx (cl l_table_Space)
theorem geq_table_Space : gof K_table_Space Try.f26 = some G_table_Space.strip := by kernel_rfl
theorem sys_table_Space : Go.Eng.Sys Try.prog K_table_Space := sys_of' ⟨ok_space_May, ok_smap_Put, trivial⟩
noncomputable def k_table_Space_space_May := PLift.up (call_scal (C := K_table_Space) (f := 51) (A := A_space_May) (p := p_space_May) (r := r_space_May) rfl)
noncomputable def k_table_Space_smap_Put := PLift.up (call_scal (C := K_table_Space) (f := 52) (A := A_smap_Put) (p := p_smap_Put) (r := r_smap_Put) rfl)
def A_table_Space := Arms.cons (argT Int) (Arms.cons (argA TSpace) Arms.nil)
def p_table_Space (x : Int × TSpace × Unit) : Prop := lenS x.2.1
def r_table_Space (x : Int × TSpace × Unit) : AV := .t (.str (spaceB x.1 x.2.1))
set_option maxHeartbeats 2000000 in
theorem body_table_Space (x : Int × TSpace × Unit) (hp : p_table_Space x) : avp K_table_Space G_table_Space (Ret K_table_Space [.tmp 4] fun v _ => v = r_table_Space x) (entry (A_table_Space.enc x) .empty) := by
  obtain ⟨n, s, ⟨⟩⟩ := x
  change lenS s at hp
  change avp _ _ (Ret _ _ fun v s' => v = .t (.str (spaceB n s))) (entry [.t (.int .i64 n), .agg ((spC s).map .t)] .empty)
  unfold G_table_Space
  simp only [vP.down, vS.down, vE.down, qA, qB, qC, qD, qE, qF, qG, reduceIte, reduceCtorEq, qH, qI, qJ, ↓avp_condG, ↓tf_arrow, ↓ft_arrow, spC]
  intro g hg
  refine weak_at [(0, .t (.int .i64 n)), (3, .imm (spC s))] .empty fewer_empty (by
    simp only [vP.down, vS.down, vE.down, qA, qB, qC, qD, qE, qF, qG, reduceIte, reduceCtorEq, qH, qI, qJ, ↓avp_condG, ↓tf_arrow, ↓ft_arrow, wP.down]
    exact w2_imm (l := spC s) (Store.set_same _ _ _) rfl) ?_
  cases hok : okSp n s with
  | false =>
    have e : spaceB n s = [] := by rw [spaceB, hok]; rfl
    simp only [vP.down, vS.down, vE.down, qA, qB, qC, qD, qE, qF, qG, reduceIte, reduceCtorEq, qH, qI, qJ, ↓avp_condG, ↓tf_arrow, ↓ft_arrow, spC, hp, hok, k_table_Space_space_May.down, A_space_May, p_space_May, r_space_May]
    simp only [vP.down, vS.down, vE.down, qA, qB, qC, qD, qE, qF, qG, reduceIte, reduceCtorEq, qH, qI, qJ, ↓avp_condG, ↓tf_arrow, ↓ft_arrow, vT.down, e]
  | true =>
  have e : spaceB n s = ((putM n s.Held ++ putM n s.One) ++ putM n s.Two) ++ putM n s.Kept := by rw [spaceB, hok]; rfl
  obtain ⟨l1, l2, l3, l4⟩ := hp
  have hp : lenS s := ⟨l1, l2, l3, l4⟩
  have q1 : s.Held.length ≤ 1000000 := by omega
  have q2 : s.One.length ≤ 1000000 := by omega
  have q3 : s.Two.length ≤ 1000000 := by omega
  have q4 : s.Kept.length ≤ 1000000 := by omega
  have b1 := putM_len (n := n) (l := s.Held)
  have b2 := putM_len (n := n) (l := s.One)
  have b3 := putM_len (n := n) (l := s.Two)
  have b4 := putM_len (n := n) (l := s.Kept)
  simp only [vP.down, vS.down, vE.down, qA, qB, qC, qD, qE, qF, qG, reduceIte, reduceCtorEq, qH, qI, qJ, ↓avp_condG, ↓tf_arrow, ↓ft_arrow, spC, hp, hok, k_table_Space_space_May.down, A_space_May, p_space_May, r_space_May]
  refine weak_at [(0, .t (.int .i64 n)), (3, .imm (spC s))] .empty fewer_refl (by simp only [vP.down, vS.down, vE.down, qA, qB, qC, qD, qE, qF, qG, reduceIte, reduceCtorEq, qH, qI, qJ, ↓avp_condG, ↓tf_arrow, ↓ft_arrow, wP.down, spC]) ?_
  have c1 : (putM n s.Held).length + (putM n s.One).length ≤ 9223372036854775807 := by omega
  have c2 : (putM n s.Held ++ putM n s.One).length + (putM n s.Two).length ≤ 9223372036854775807 := by rw [List.length_append]; omega
  have c3 : (putM n s.Held ++ putM n s.One ++ putM n s.Two).length + (putM n s.Kept).length ≤ 9223372036854775807 := by rw [List.length_append, List.length_append]; omega
  simp only [vP.down, vS.down, vE.down, qA, qB, qC, qD, qE, qF, qG, reduceIte, reduceCtorEq, qH, qI, qJ, ↓avp_condG, ↓tf_arrow, ↓ft_arrow, spC, c1, c2, c3, q1, q2, q3, q4, k_table_Space_smap_Put.down, A_smap_Put, p_smap_Put, r_smap_Put]
  simp only [vP.down, vS.down, vE.down, qA, qB, qC, qD, qE, qF, qG, reduceIte, reduceCtorEq, qH, qI, qJ, ↓avp_condG, ↓tf_arrow, ↓ft_arrow, vT.down, e]
noncomputable def c_table_Space : Con := fnScal A_table_Space p_table_Space r_table_Space
theorem ok_table_Space : COk Try.prog 26 c_table_Space := fn_sok sys_table_Space mixed Try.func26 (by kernel_rfl) geq_table_Space Try.ntmps26 (by rw [Try.results26]) (fun x => by unfold r_table_Space; simp [AV.scal]) fun x hx => ⟨Nat.le_of_ble_eq_true rfl, body_table_Space x hx⟩
/-! ### Taken -/
def tkL (n : Int) (s : List UInt8) : Nat → List TRun × List UInt8 × Bool
  | 0 => takeM n s
  | i + 1 => takeM n (tkL n s i).2.1
def restL (n : Int) (s : List UInt8) : Nat → List UInt8
  | 0 => s
  | i + 1 => (tkL n s i).2.1
theorem tkL_eq {n : Int} {s : List UInt8} : ∀ i, tkL n s i = takeM n (restL n s i)
  | 0 => rfl
  | _ + 1 => rfl
def tkS (n : Int) (s : List UInt8) : TSpace := ⟨(tkL n s 0).1, (tkL n s 1).1, (tkL n s 2).1, (tkL n s 3).1⟩
def tkOk (n : Int) (s : List UInt8) : Bool := (tkL n s 0).2.2 && ((tkL n s 1).2.2 && ((tkL n s 2).2.2 && ((tkL n s 3).2.2 && (decide (restL n s 4 = []) && okSp n (tkS n s)))))
def z0S : TSpace := ⟨[], [], [], []⟩
def takeSp (n : Int) (s : List UInt8) : TSpace × Bool := if tkOk n s = true then (tkS n s, true) else (z0S, false)
theorem tkS_len {n : Int} {s : List UInt8} : lenS (tkS n s) := ⟨take_len17, take_len17, take_len17, take_len17⟩
theorem rest_len {n : Int} {s : List UInt8} : ∀ i, (restL n s i).length ≤ s.length
  | 0 => Nat.le_refl _
  | i + 1 => by
    have h := take_rest (n := n) (s := restL n s i)
    have h2 := rest_len (n := n) (s := s) i
    show (tkL n s i).2.1.length ≤ _
    rw [tkL_eq]; omega
theorem take_ok {n : Int} {s : List UInt8} : (takeM n s).2.2 = takeOkM n s := by
  rw [takeM]
  cases h : takeOkM n s with
  | true => rw [if_pos rfl]
  | false => rw [if_neg (by simp)]
theorem tk_split {n : Int} {s : List UInt8} {i : Nat} (h : (tkL n s i).2.2 = true) : restL n s i = putM n (tkL n s i).1 ++ restL n s (i + 1) ∧ restL n s i ≠ [] := by
  rw [tkL_eq, take_ok] at h
  have hd : dataOk n = true := by rw [takeOkM, Bool.and_eq_true] at h; exact h.1
  have hb := dataOk_iff.1 hd
  obtain ⟨n, rfl⟩ : ∃ k : Nat, n = k := ⟨n.toNat, by omega⟩
  obtain ⟨_, h2, _, h4, _⟩ := took h
  have h5 := put_took h
  have e : restL n s (i + 1) = (takeM n (restL n s i)).2.1 := by
    show (tkL n s i).2.1 = _
    rw [tkL_eq]
  rw [e, h2, tkL_eq, h5, List.take_append_drop]
  refine ⟨rfl, fun hn => ?_⟩
  rw [hn] at h4
  have : ([] : List UInt8).length = 0 := rfl
  omega
theorem tk_back {n : Int} {s : List UInt8} (h : ∀ i, i < 4 → (tkL n s i).2.2 = true) : decide (spaceB n (tkS n s) = s) = tkOk n s := by
  obtain ⟨e0, e0'⟩ := tk_split (h 0 (by omega))
  obtain ⟨e1, _⟩ := tk_split (h 1 (by omega))
  obtain ⟨e2, _⟩ := tk_split (h 2 (by omega))
  obtain ⟨e3, _⟩ := tk_split (h 3 (by omega))
  have hs : s = putM n (tkL n s 0).1 ++ (putM n (tkL n s 1).1 ++ (putM n (tkL n s 2).1 ++ (putM n (tkL n s 3).1 ++ restL n s 4))) := by
    have e0 : s = putM n (tkL n s 0).1 ++ restL n s 1 := e0
    rw [e1, e2, e3] at e0
    exact e0
  have hne : s ≠ [] := e0'
  rw [tkOk, h 0 (by omega), h 1 (by omega), h 2 (by omega), h 3 (by omega), Bool.true_and, Bool.true_and, Bool.true_and, Bool.true_and]
  cases hok : okSp n (tkS n s) with
  | false =>
    rw [spaceB, hok, if_neg (by simp), Bool.and_false]
    exact decide_eq_false fun h => hne h.symm
  | true =>
    rw [spaceB, hok, if_pos rfl, Bool.and_true]
    refine decide_eq_decide.2 ?_
    show ((putM n (tkL n s 0).1 ++ putM n (tkL n s 1).1) ++ putM n (tkL n s 2).1) ++ putM n (tkL n s 3).1 = s ↔ _
    generalize restL n s 4 = r at hs ⊢
    generalize putM n (tkL n s 0).1 = a at hs ⊢
    generalize putM n (tkL n s 1).1 = b at hs ⊢
    generalize putM n (tkL n s 2).1 = c at hs ⊢
    generalize putM n (tkL n s 3).1 = d at hs ⊢
    rw [hs]
    constructor
    · intro h
      have := congrArg List.length h
      simp only [List.length_append] at this
      exact List.length_eq_zero_iff.1 (by omega)
    · rintro rfl
      simp
theorem takeSp_no {n : Int} {s : List UInt8} {i : Nat} (hi : i < 4) (h : (tkL n s i).2.2 = false) : takeSp n s = (z0S, false) := by
  have : tkOk n s = false := by
    unfold tkOk
    rcases (by omega : i = 0 ∨ i = 1 ∨ i = 2 ∨ i = 3) with rfl | rfl | rfl | rfl <;> rw [h] <;> simp
  rw [takeSp, this]; rfl
end Go.Proofs.Ytofcmdkmhbbbjaa
namespace Go.Proofs.Ytofcmdkmhbbbjaa
open Go Go.Eng
set_option maxRecDepth 100000
def cellA (n : Int) (s : List UInt8) (i j : Nat) : TV := if j < i then sl (tkL n s j).1 else .nilS
def cellsA (n : Int) (s : List UInt8) (i : Nat) : List AV := [.t (cellA n s i 0), .t (cellA n s i 1), .t (cellA n s i 2), .t (cellA n s i 3)]
theorem cells_next {n : Int} {s : List UInt8} {i : Nat} (h : i < 4) : (cellsA n s i).take i ++ [.t (sl (tkL n s i).1)] ++ (cellsA n s i).drop (i + 1) = cellsA n s (i + 1) := by
  rcases (by omega : i = 0 ∨ i = 1 ∨ i = 2 ∨ i = 3) with rfl | rfl | rfl | rfl <;> rfl
def G_table_TakeSpace : GCode := .seq (.region [⟨(some 4), none, .alloc 56⟩, ⟨(some 5), none, .assign (.const (.bool false))⟩]) (.seq (.seq .weak (.region [⟨(some 6), none, .alloc 97⟩])) (.seq (.seq .weak (.region [⟨(some 11), none, .move (.tmp 1)⟩, ⟨(some 7), none, .assign (.tmp 11)⟩, ⟨(some 8), none, .assign (.const (.bool true))⟩])) (.seq (.seq (.seq .weak (.region [⟨(some 12), none, .move (.const (.int .i64 0))⟩])) (.block 0 (.loop (.seq .weak (.seq (.region [⟨(some 13), none, .binOp .lss 3 (.tmp 12) (.const (.int .i64 4)) 3⟩]) (.seq (.cond (.tmp 13) (.skip) (.exit 0)) (.seq (.block 1 (.seq (.region [⟨(some 14), none, .move (.tmp 12)⟩, ⟨(some 9), none, .assign (.tmp 14)⟩]) (.seq (.seq .weak (.region [⟨(some 16), none, .move (.tmp 9)⟩, ⟨(some 17), none, .move (.tmp 0)⟩, ⟨(some 18), none, .move (.tmp 7)⟩, ⟨(some 19), none, .call ⟨.value (.func 55), #[.tmp 17, .tmp 18], #[3, 9]⟩⟩, ⟨(some 15), none, .move (.tmp 19)⟩, ⟨(some 20), none, .extract (.tmp 15) 0⟩, ⟨(some 21), none, .extract (.tmp 15) 1⟩, ⟨(some 22), none, .extract (.tmp 15) 2⟩, ⟨(some 23), none, .indexAddr 97 (.tmp 6) (.tmp 16)⟩, ⟨none, none, .store 52 (.tmp 23) (.tmp 20)⟩, ⟨(some 7), none, .assign (.tmp 21)⟩, ⟨(some 8), none, .assign (.tmp 22)⟩])) (.seq (.seq .weak (.region [⟨(some 24), none, .move (.tmp 8)⟩, ⟨(some 25), none, .unOp .not 4 (.tmp 24)⟩])) (.cond (.tmp 25) (.seq (.region [⟨(some 26), none, .build 56 #[]⟩, ⟨none, none, .store 56 (.tmp 4) (.tmp 26)⟩, ⟨(some 5), none, .assign (.const (.bool false))⟩]) (.ret)) (.skip)))))) (.seq .weak (.region [⟨(some 27), none, .binOp .add 3 (.tmp 12) (.const (.int .i64 1)) 3⟩, ⟨(some 12), none, .move (.tmp 27)⟩]))))))))) (.seq (.seq .weak (.region [⟨(some 28), none, .indexAddr 97 (.tmp 6) (.const (.int .i64 0))⟩, ⟨(some 29), none, .load 52 (.tmp 28)⟩, ⟨(some 30), none, .indexAddr 97 (.tmp 6) (.const (.int .i64 1))⟩, ⟨(some 31), none, .load 52 (.tmp 30)⟩, ⟨(some 32), none, .indexAddr 97 (.tmp 6) (.const (.int .i64 2))⟩, ⟨(some 33), none, .load 52 (.tmp 32)⟩, ⟨(some 34), none, .indexAddr 97 (.tmp 6) (.const (.int .i64 3))⟩, ⟨(some 35), none, .load 52 (.tmp 34)⟩, ⟨(some 36), none, .build 56 #[(0, .tmp 29), (1, .tmp 31), (2, .tmp 33), (3, .tmp 35)]⟩, ⟨(some 10), none, .alloc 56⟩, ⟨none, none, .store 56 (.tmp 10) (.tmp 36)⟩])) (.seq (.seq (.seq .weak (.region [⟨(some 37), none, .move (.tmp 0)⟩, ⟨(some 38), none, .load 56 (.tmp 10)⟩, ⟨(some 39), none, .call ⟨.value (.func 26), #[.tmp 37, .tmp 38], #[3, 56]⟩⟩, ⟨(some 40), none, .move (.tmp 1)⟩, ⟨(some 41), none, .binOp .neq 9 (.tmp 39) (.tmp 40) 9⟩])) (.cond (.tmp 41) (.seq (.region [⟨(some 42), none, .build 56 #[]⟩, ⟨none, none, .store 56 (.tmp 4) (.tmp 42)⟩, ⟨(some 5), none, .assign (.const (.bool false))⟩]) (.ret)) (.skip))) (.seq (.seq .weak (.region [⟨(some 43), none, .load 56 (.tmp 10)⟩, ⟨none, none, .store 56 (.tmp 4) (.tmp 43)⟩, ⟨(some 5), none, .assign (.const (.bool true))⟩])) (.ret)))))))
noncomputable def l_table_TakeSpace : List (Nat × Con) := [(55, c_smap_Take), (26, c_table_Space)]
noncomputable abbrev K_table_TakeSpace : Ctx := ctx (cl l_table_TakeSpace)
theorem geq_table_TakeSpace : gof K_table_TakeSpace Try.f28 = some G_table_TakeSpace.strip := by kernel_rfl
theorem sys_table_TakeSpace : Go.Eng.Sys Try.prog K_table_TakeSpace := sys_of' ⟨ok_smap_Take, ok_table_Space, trivial⟩
theorem hm_table_TakeSpace : ConMono K_table_TakeSpace := conMono_of sys_table_TakeSpace.con
noncomputable def k_table_TakeSpace_smap_Take := PLift.up (call_fn (C := K_table_TakeSpace) (f := 55) (A := A_smap_Take) (p := p_smap_Take) (r := r_smap_Take) rfl)
noncomputable def k_table_TakeSpace_table_Space := PLift.up (call_scal (C := K_table_TakeSpace) (f := 26) (A := A_table_Space) (p := p_table_Space) (r := r_table_Space) rfl)
def A_table_TakeSpace := Arms.cons (argT Int) (Arms.cons (argT (List UInt8)) Arms.nil)
def p_table_TakeSpace (x : Int × List UInt8 × Unit) : Prop := x.2.1.length ≤ 1000000
def r_table_TakeSpace (x : Int × List UInt8 × Unit) : AV := .tup [.agg ((spC (takeSp x.1 x.2.1).1).map .t), .t (.bool (takeSp x.1 x.2.1).2)]
set_option maxHeartbeats 2000000 in
theorem body_table_TakeSpace (x : Int × List UInt8 × Unit) (hp : p_table_TakeSpace x) : avp K_table_TakeSpace G_table_TakeSpace (Ret K_table_TakeSpace [.cell 4 56, .tmp 5] fun v s' => Frz s' v (r_table_TakeSpace x)) (entry (A_table_TakeSpace.enc x) .empty) := by
  obtain ⟨n, s, ⟨⟩⟩ := x
  change s.length ≤ 1000000 at hp
  change avp _ _ (Ret _ _ fun v s' => Frz s' v (.tup [.agg ((spC (takeSp n s).1).map .t), .t (.bool (takeSp n s).2)])) (entry [.t (.int .i64 n), .t (.str s)] .empty)
  unfold G_table_TakeSpace
  simp only [vP.down, vS.down, vE.down, qA, qB, qC, qD, qE, qF, qG, reduceIte, reduceCtorEq, qH, qI, qJ, ↓avp_condG, ↓tf_arrow, ↓ft_arrow]
  intro g4 hg4
  refine weak_here [(0, .t (.int .i64 n)), (1, .t (.str s)), (4, .ptr g4 0)] (by simp only [vP.down, vS.down, vE.down, qA, qB, qC, qD, qE, qF, qG, reduceIte, reduceCtorEq, qH, qI, qJ, ↓avp_condG, ↓tf_arrow, ↓ft_arrow, wP.down]) fun S0 hS0 => ?_
  have a4 : S0.f g4 = some (.box [.t .nilS, .t .nilS, .t .nilS, .t .nilS] false) := by rw [hS0]; exact Store.set_same _ _ _
  clear hS0 hg4
  simp only [vP.down, vS.down, vE.down, qA, qB, qC, qD, qE, qF, qG, reduceIte, reduceCtorEq, qH, qI, qJ, ↓avp_condG, ↓tf_arrow, ↓ft_arrow]
  intro g6 hg6
  have n64 := ne_of a4 hg6
  refine weak_here [(0, .t (.int .i64 n)), (1, .t (.str s)), (4, .ptr g4 0), (6, .ptr g6 0)] (by simp only [vP.down, vS.down, vE.down, qA, qB, qC, qD, qE, qF, qG, reduceIte, reduceCtorEq, qH, qI, qJ, ↓avp_condG, ↓tf_arrow, ↓ft_arrow, wP.down]) fun S1 hS1 => ?_
  have b4 : S1.f g4 = some (.box [.t .nilS, .t .nilS, .t .nilS, .t .nilS] false) := by rw [hS1]; exact (Store.set_other _ _ n64).trans a4
  have b6 : S1.f g6 = some (.box (cellsA n s 0) false) := by rw [hS1]; exact Store.set_same _ _ _
  clear hS1 hg6 a4
  simp only [vP.down, vS.down, vE.down, qA, qB, qC, qD, qE, qF, qG, reduceIte, reduceCtorEq, qH, qI, qJ, ↓avp_condG, ↓tf_arrow, ↓ft_arrow]
  refine weak_here [(0, .t (.int .i64 n)), (1, .t (.str s)), (4, .ptr g4 0), (6, .ptr g6 0), (7, .t (.str (restL n s 0)))] (by simp only [vP.down, vS.down, vE.down, qA, qB, qC, qD, qE, qF, qG, reduceIte, reduceCtorEq, qH, qI, qJ, ↓avp_condG, ↓tf_arrow, ↓ft_arrow, wP.down, restL]) fun S2 hS2 => ?_
  have b4 : S2.f g4 = some (.box [.t .nilS, .t .nilS, .t .nilS, .t .nilS] false) := by rw [hS2]; exact b4
  have b6 : S2.f g6 = some (.box (cellsA n s 0) false) := by rw [hS2]; exact b6
  clear hS2
  simp only [vP.down, vS.down, vE.down, qA, qB, qC, qD, qE, qF, qG, reduceIte, reduceCtorEq, qH, qI, qJ, ↓avp_condG, ↓tf_arrow, ↓ft_arrow]
  refine loop_weak hm_table_TakeSpace (fun k σ => ∃ (i : Nat) (S : Store), k = 4 - i ∧ i ≤ 4 ∧ (∀ j, j < i → (tkL n s j).2.2 = true) ∧ S.f g4 = some (.box [.t .nilS, .t .nilS, .t .nilS, .t .nilS] false) ∧ S.f g6 = some (.box (cellsA n s i) false) ∧
      σ = mkS [(0, .t (.int .i64 n)), (1, .t (.str s)), (4, .ptr g4 0), (6, .ptr g6 0), (7, .t (.str (restL n s i))), (12, .t (.int .i64 (i : Nat)))] S)
    ⟨0, S2, rfl, by omega, by omega, b4, b6, rfl⟩ (wk_to fewer_refl (by simp only [vP.down, vS.down, vE.down, qA, qB, qC, qD, qE, qF, qG, reduceIte, reduceCtorEq, qH, qI, qJ, ↓avp_condG, ↓tf_arrow, ↓ft_arrow, wP.down, Int.natCast_zero])) ?_
  clear b4 b6
  rintro k _ ⟨i, S, rfl, hi, hlo, b4, b6, rfl⟩
  have hi1 : IntKind.i64.wrap ((i : Int) + 1) = ((i + 1 : Nat) : Int) := by rw [IntWalk.i64_in _ (by omega)]; rfl
  by_cases hlt : i < 4
  case neg =>
    obtain rfl : i = 4 := by omega
    have hge : ¬ ((4 : Int) < 4) := by omega
    have hb := tk_back hlo
    simp only [vP.down, vS.down, vE.down, qA, qB, qC, qD, qE, qF, qG, reduceIte, reduceCtorEq, qH, qI, qJ, ↓avp_condG, ↓tf_arrow, ↓ft_arrow, hge, show ((4 : Nat) : Int) = 4 from rfl]
    refine weak_here [(0, .t (.int .i64 n)), (1, .t (.str s)), (4, .ptr g4 0), (6, .ptr g6 0)] (by simp only [vP.down, vS.down, vE.down, qA, qB, qC, qD, qE, qF, qG, reduceIte, reduceCtorEq, qH, qI, qJ, ↓avp_condG, ↓tf_arrow, ↓ft_arrow, wP.down]) fun S3 hS3 => ?_
    have c4 : S3.f g4 = some (.box [.t .nilS, .t .nilS, .t .nilS, .t .nilS] false) := by rw [hS3]; exact b4
    have c6 : S3.f g6 = some (.box [.t (sl (tkS n s).Held), .t (sl (tkS n s).One), .t (sl (tkS n s).Two), .t (sl (tkS n s).Kept)] false) := by rw [hS3]; exact b6
    clear hS3 b4 b6
    simp only [vP.down, vS.down, vE.down, qA, qB, qC, qD, qE, qF, qG, reduceIte, reduceCtorEq, qH, qI, qJ, ↓avp_condG, ↓tf_arrow, ↓ft_arrow, c6]
    intro g10 hg10
    have n1 := ne_of c4 hg10
    refine weak_here [(0, .t (.int .i64 n)), (1, .t (.str s)), (4, .ptr g4 0), (10, .ptr g10 0)] (by simp only [vP.down, vS.down, vE.down, qA, qB, qC, qD, qE, qF, qG, reduceIte, reduceCtorEq, qH, qI, qJ, ↓avp_condG, ↓tf_arrow, ↓ft_arrow, wP.down]) fun S4 hS4 => ?_
    have d4 : S4.f g4 = some (.box [.t .nilS, .t .nilS, .t .nilS, .t .nilS] false) := by rw [hS4]; exact (Store.set_other _ _ n1).trans c4
    have d10 : S4.f g10 = some (.box [.t (sl (tkS n s).Held), .t (sl (tkS n s).One), .t (sl (tkS n s).Two), .t (sl (tkS n s).Kept)] false) := by rw [hS4]; exact Store.set_same _ _ _
    clear hS4 c4 c6 hg10
    have hl := tkS_len (n := n) (s := s)
    cases hk : tkOk n s with
    | false =>
      have e := of_decide_eq_false (hb.trans hk)
      have e2 : takeSp n s = (z0S, false) := by rw [takeSp, hk]; rfl
      simp only [vP.down, vS.down, vE.down, qA, qB, qC, qD, qE, qF, qG, reduceIte, reduceCtorEq, qH, qI, qJ, ↓avp_condG, ↓tf_arrow, ↓ft_arrow, d10, d4, hl, e, not_false_eq_true, true_implies, false_implies, k_table_TakeSpace_table_Space.down, A_table_Space, p_table_Space, r_table_Space]
      simp only [vP.down, vS.down, vE.down, qA, qB, qC, qD, qE, qF, qG, reduceIte, reduceCtorEq, qH, qI, qJ, ↓avp_condG, ↓tf_arrow, ↓ft_arrow, vT.down, Store.set_same, e2, spC, z0S]
    | true =>
      have e := of_decide_eq_true (hb.trans hk)
      have e2 : takeSp n s = (tkS n s, true) := by rw [takeSp, hk]; rfl
      simp only [vP.down, vS.down, vE.down, qA, qB, qC, qD, qE, qF, qG, reduceIte, reduceCtorEq, qH, qI, qJ, ↓avp_condG, ↓tf_arrow, ↓ft_arrow, d10, hl, e, bne_self_eq_false, k_table_TakeSpace_table_Space.down, A_table_Space, p_table_Space, r_table_Space]
      refine weak_here [(4, .ptr g4 0), (10, .ptr g10 0)] (by simp only [vP.down, vS.down, vE.down, qA, qB, qC, qD, qE, qF, qG, reduceIte, reduceCtorEq, qH, qI, qJ, ↓avp_condG, ↓tf_arrow, ↓ft_arrow, wP.down]) fun S5 hS5 => ?_
      have f4 : S5.f g4 = some (.box [.t .nilS, .t .nilS, .t .nilS, .t .nilS] false) := by rw [hS5]; exact d4
      have f10 : S5.f g10 = some (.box [.t (sl (tkS n s).Held), .t (sl (tkS n s).One), .t (sl (tkS n s).Two), .t (sl (tkS n s).Kept)] false) := by rw [hS5]; exact d10
      simp only [vP.down, vS.down, vE.down, qA, qB, qC, qD, qE, qF, qG, reduceIte, reduceCtorEq, qH, qI, qJ, ↓avp_condG, ↓tf_arrow, ↓ft_arrow, f4, f10]
      simp only [vP.down, vS.down, vE.down, qA, qB, qC, qD, qE, qF, qG, reduceIte, reduceCtorEq, qH, qI, qJ, ↓avp_condG, ↓tf_arrow, ↓ft_arrow, vT.down, Store.set_same, e2, spC]
  have hlt' : (i : Int) < 4 := by omega
  have h40 : (0 : Int) ≤ (i : Int) := by omega
  have pr : (restL n s i).length ≤ 1000000 := by have := rest_len (n := n) (s := s) i; omega
  simp only [vP.down, vS.down, vE.down, qA, qB, qC, qD, qE, qF, qG, reduceIte, reduceCtorEq, qH, qI, qJ, ↓avp_condG, ↓tf_arrow, ↓ft_arrow, hlt']
  refine weak_here [(0, .t (.int .i64 n)), (1, .t (.str s)), (4, .ptr g4 0), (6, .ptr g6 0), (7, .t (.str (restL n s i))), (9, .t (.int .i64 (i : Nat))), (12, .t (.int .i64 (i : Nat)))] (by simp only [vP.down, vS.down, vE.down, qA, qB, qC, qD, qE, qF, qG, reduceIte, reduceCtorEq, qH, qI, qJ, ↓avp_condG, ↓tf_arrow, ↓ft_arrow, wP.down]) fun S3 hS3 => ?_
  have c4 : S3.f g4 = some (.box [.t .nilS, .t .nilS, .t .nilS, .t .nilS] false) := by rw [hS3]; exact b4
  have c6 : S3.f g6 = some (.box (cellsA n s i) false) := by rw [hS3]; exact b6
  have hcl : (cellsA n s i).length = 4 := rfl
  clear hS3 b4 b6
  have et := tkL_eq (n := n) (s := s) i
  have hcn := cells_next (n := n) (s := s) hlt
  have n46 : g4 ≠ g6 := n64
  simp only [vP.down, vS.down, vE.down, qA, qB, qC, qD, qE, qF, qG, reduceIte, reduceCtorEq, qH, qI, qJ, ↓avp_condG, ↓tf_arrow, ↓ft_arrow, hlt', hcn, h40, pr, c6, ← et, hcl, Nat.mul_one, Nat.zero_add, Int.toNat_natCast, k_table_TakeSpace_smap_Take.down, A_smap_Take, p_smap_Take, r_smap_Take]
  refine ⟨by omega, ?_⟩
  refine weak_here [(0, .t (.int .i64 n)), (1, .t (.str s)), (4, .ptr g4 0), (6, .ptr g6 0), (7, .t (.str (restL n s (i + 1)))), (8, .t (.bool (tkL n s i).2.2)), (12, .t (.int .i64 (i : Nat)))] (by simp only [vP.down, vS.down, vE.down, qA, qB, qC, qD, qE, qF, qG, reduceIte, reduceCtorEq, qH, qI, qJ, ↓avp_condG, ↓tf_arrow, ↓ft_arrow, wP.down, restL]) fun S4 hS4 => ?_
  have d4 : S4.f g4 = some (.box [.t .nilS, .t .nilS, .t .nilS, .t .nilS] false) := by rw [hS4]; exact (Store.set_other _ _ n46).trans c4
  have d6 : S4.f g6 = some (.box (cellsA n s (i + 1)) false) := by rw [hS4]; exact Store.set_same _ _ _
  clear hS4 c4 c6
  cases hk : (tkL n s i).2.2 with
  | false =>
    have e2 := takeSp_no hlt hk
    simp only [vP.down, vS.down, vE.down, qA, qB, qC, qD, qE, qF, qG, reduceIte, reduceCtorEq, qH, qI, qJ, ↓avp_condG, ↓tf_arrow, ↓ft_arrow, d4]
    simp only [vP.down, vS.down, vE.down, qA, qB, qC, qD, qE, qF, qG, reduceIte, reduceCtorEq, qH, qI, qJ, ↓avp_condG, ↓tf_arrow, ↓ft_arrow, vT.down, Store.set_same, e2, spC, z0S]
  | true =>
    simp only [vP.down, vS.down, vE.down, qA, qB, qC, qD, qE, qF, qG, reduceIte, reduceCtorEq, qH, qI, qJ, ↓avp_condG, ↓tf_arrow, ↓ft_arrow]
    refine weak_here [(0, .t (.int .i64 n)), (1, .t (.str s)), (4, .ptr g4 0), (6, .ptr g6 0), (7, .t (.str (restL n s (i + 1)))), (12, .t (.int .i64 (i : Nat)))] (by simp only [vP.down, vS.down, vE.down, qA, qB, qC, qD, qE, qF, qG, reduceIte, reduceCtorEq, qH, qI, qJ, ↓avp_condG, ↓tf_arrow, ↓ft_arrow, wP.down]) fun S5 hS5 => ?_
    have d4 : S5.f g4 = some (.box [.t .nilS, .t .nilS, .t .nilS, .t .nilS] false) := by rw [hS5]; exact d4
    have d6 : S5.f g6 = some (.box (cellsA n s (i + 1)) false) := by rw [hS5]; exact d6
    simp only [vP.down, vS.down, vE.down, qA, qB, qC, qD, qE, qF, qG, reduceIte, reduceCtorEq, qH, qI, qJ, ↓avp_condG, ↓tf_arrow, ↓ft_arrow]
    exact round_to (4 - (i + 1)) [(0, .t (.int .i64 n)), (1, .t (.str s)), (4, .ptr g4 0), (6, .ptr g6 0), (7, .t (.str (restL n s (i + 1)))), (12, .t (.int .i64 (i + 1 : Nat)))] S5 (by omega) fewer_refl (by simp only [vP.down, vS.down, vE.down, qA, qB, qC, qD, qE, qF, qG, reduceIte, reduceCtorEq, qH, qI, qJ, ↓avp_condG, ↓tf_arrow, ↓ft_arrow, wP.down, hi1])
      ⟨i + 1, S5, rfl, by omega, fun j hj => (by
        by_cases hji : j = i
        · rw [hji]; exact hk
        · exact hlo j (by omega)), d4, d6, rfl⟩
noncomputable def c_table_TakeSpace : Con := fnCon A_table_TakeSpace p_table_TakeSpace r_table_TakeSpace
theorem ok_table_TakeSpace : COk Try.prog 28 c_table_TakeSpace := fn_ok sys_table_TakeSpace mixed Try.func28 (by kernel_rfl) geq_table_TakeSpace Try.ntmps28 (by rw [Try.results28]) fun x hx => ⟨Nat.le_of_ble_eq_true rfl, body_table_TakeSpace x hx⟩
end Go.Proofs.Ytofcmdkmhbbbjaa
