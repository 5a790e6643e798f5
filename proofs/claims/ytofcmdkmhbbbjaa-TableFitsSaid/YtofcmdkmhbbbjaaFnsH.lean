/-
  Roots as loads.
-/
import Derived.Test.YtofcmdkmhbbbjaaFnsG
set_option linter.unusedSimpArgs false
set_option linter.unusedVariables false
open Nat renaming reduceEqDiff → qA, reduceAdd → qB, reduceSub → qC, reduceMul → qD, reduceLeDiff → qE, reduceLT → qF
open Int renaming reduceToNat → qG, reduceEq → qH, reduceLT → qI, reduceLE → qJ
namespace Go.Proofs.Ytofcmdkmhbbbjaa
open Go Go.Eng
set_option maxRecDepth 100000
def H3 : List UInt8 := [52, 52, 52]
def T1 : List UInt8 := [52]
def rtOk (r : TRoot) : Bool := decide (1 ≤ r.Txg) && (upTo r.Txg 1073741824 && (upTo r.Next 1073741824 && (upTo r.Guid 1073741824 && (upTo r.KeptTxg 1073741824 && [r.Table, r.Space, r.Kept].all mayP))))
def rootB (r : TRoot) : List UInt8 := if rtOk r = true then (putF H3 [r.Txg, r.Next, r.Guid] ++ ptrsF [r.Table, r.Space, r.Kept]) ++ putF T1 [r.KeptTxg] else []
def rtC (r : TRoot) : List TV := [.int .i64 r.Txg, .int .i64 r.Next, .int .i64 r.Guid] ++ (ptC r.Table ++ (ptC r.Space ++ (ptC r.Kept ++ [.int .i64 r.KeptTxg])))
theorem decP3 {p q u : TPtr} : (argT (List TPtr)).dec (.t (.seq 6 [[.int .i64 p.Addr, .int .i64 p.Birth, .int .u32 (p.Sum.1.toNat : Int), .int .u32 (p.Sum.2.1.toNat : Int), .int .u32 (p.Sum.2.2.1.toNat : Int), .int .u32 (p.Sum.2.2.2.toNat : Int)], [.int .i64 q.Addr, .int .i64 q.Birth, .int .u32 (q.Sum.1.toNat : Int), .int .u32 (q.Sum.2.1.toNat : Int), .int .u32 (q.Sum.2.2.1.toNat : Int), .int .u32 (q.Sum.2.2.2.toNat : Int)], [.int .i64 u.Addr, .int .i64 u.Birth, .int .u32 (u.Sum.1.toNat : Int), .int .u32 (u.Sum.2.1.toNat : Int), .int .u32 (u.Sum.2.2.1.toNat : Int), .int .u32 (u.Sum.2.2.2.toNat : Int)]])) = some [p, q, u] := argT_sl (l := [p, q, u])
theorem ptrs3_ne {l : List TPtr} (h : l.all mayP = true) (hl : l.length = 3) : ptrsF l ≠ [] := fun e => by
  have h1 := ptrsB_len l
  rw [ptrsF, if_pos h] at e
  rw [e, hl] at h1
  cases h1
def G_table_Root : GCode := .seq (.region [⟨(some 1), none, .box 31 (.tmp 0)⟩, ⟨(some 2), none, .assign (.const (.string ⟨#[]⟩))⟩]) (.seq (.seq (.seq .weak (.region [⟨(some 4), none, .fieldAddr 31 (.tmp 1) 0⟩, ⟨(some 5), none, .load 3 (.tmp 4)⟩, ⟨(some 6), none, .binOp .lss 3 (.tmp 5) (.const (.int .i64 1)) 3⟩, ⟨(some 7), none, .move (.tmp 6)⟩, ⟨(some 8), (some (7, false)), .fieldAddr 31 (.tmp 1) 0⟩, ⟨(some 9), (some (7, false)), .load 3 (.tmp 8)⟩, ⟨(some 10), (some (7, false)), .call ⟨.value (.func 42), #[.tmp 9, .const (.int .i64 1073741824)], #[3, 3]⟩⟩, ⟨(some 11), (some (7, false)), .unOp .not 4 (.tmp 10)⟩, ⟨(some 12), none, .pick (.tmp 7) (.const (.bool true)) (.tmp 11)⟩, ⟨(some 13), none, .move (.tmp 12)⟩, ⟨(some 14), (some (13, false)), .fieldAddr 31 (.tmp 1) 1⟩, ⟨(some 15), (some (13, false)), .load 3 (.tmp 14)⟩, ⟨(some 16), (some (13, false)), .call ⟨.value (.func 42), #[.tmp 15, .const (.int .i64 1073741824)], #[3, 3]⟩⟩, ⟨(some 17), (some (13, false)), .unOp .not 4 (.tmp 16)⟩, ⟨(some 18), none, .pick (.tmp 13) (.const (.bool true)) (.tmp 17)⟩, ⟨(some 19), none, .move (.tmp 18)⟩, ⟨(some 20), (some (19, false)), .fieldAddr 31 (.tmp 1) 2⟩, ⟨(some 21), (some (19, false)), .load 3 (.tmp 20)⟩, ⟨(some 22), (some (19, false)), .call ⟨.value (.func 42), #[.tmp 21, .const (.int .i64 1073741824)], #[3, 3]⟩⟩, ⟨(some 23), (some (19, false)), .unOp .not 4 (.tmp 22)⟩, ⟨(some 24), none, .pick (.tmp 19) (.const (.bool true)) (.tmp 23)⟩, ⟨(some 25), none, .move (.tmp 24)⟩, ⟨(some 26), (some (25, false)), .fieldAddr 31 (.tmp 1) 6⟩, ⟨(some 27), (some (25, false)), .load 3 (.tmp 26)⟩, ⟨(some 28), (some (25, false)), .call ⟨.value (.func 42), #[.tmp 27, .const (.int .i64 1073741824)], #[3, 3]⟩⟩, ⟨(some 29), (some (25, false)), .unOp .not 4 (.tmp 28)⟩, ⟨(some 30), none, .pick (.tmp 25) (.const (.bool true)) (.tmp 29)⟩])) (.cond (.tmp 30) (.seq (.region [⟨(some 2), none, .assign (.const (.string ⟨#[]⟩))⟩]) (.ret)) (.skip))) (.seq (.seq .weak (.region [⟨(some 31), none, .fieldAddr 31 (.tmp 1) 3⟩, ⟨(some 32), none, .load 29 (.tmp 31)⟩, ⟨(some 33), none, .fieldAddr 31 (.tmp 1) 4⟩, ⟨(some 34), none, .load 29 (.tmp 33)⟩, ⟨(some 35), none, .fieldAddr 31 (.tmp 1) 5⟩, ⟨(some 36), none, .load 29 (.tmp 35)⟩, ⟨(some 37), none, .buildSlice 24 3 #[(0, .tmp 32), (1, .tmp 34), (2, .tmp 36)]⟩, ⟨(some 38), none, .call ⟨.value (.func 43), #[.tmp 37], #[24]⟩⟩, ⟨(some 3), none, .assign (.tmp 38)⟩])) (.seq (.seq (.seq .weak (.region [⟨(some 39), none, .move (.tmp 3)⟩, ⟨(some 40), none, .binOp .eql 9 (.tmp 39) (.const (.string ⟨#[]⟩)) 9⟩])) (.cond (.tmp 40) (.seq (.region [⟨(some 2), none, .assign (.const (.string ⟨#[]⟩))⟩]) (.ret)) (.skip))) (.seq (.seq .weak (.region [⟨(some 41), none, .fieldAddr 31 (.tmp 1) 0⟩, ⟨(some 42), none, .load 3 (.tmp 41)⟩, ⟨(some 43), none, .fieldAddr 31 (.tmp 1) 1⟩, ⟨(some 44), none, .load 3 (.tmp 43)⟩, ⟨(some 45), none, .fieldAddr 31 (.tmp 1) 2⟩, ⟨(some 46), none, .load 3 (.tmp 45)⟩, ⟨(some 47), none, .buildSlice 58 3 #[(0, .tmp 42), (1, .tmp 44), (2, .tmp 46)]⟩, ⟨(some 48), none, .call ⟨.value (.func 34), #[.const (.string ⟨#[52, 52, 52]⟩), .tmp 47], #[9, 58]⟩⟩, ⟨(some 49), none, .move (.tmp 3)⟩, ⟨(some 50), none, .binOp .add 9 (.tmp 48) (.tmp 49) 9⟩, ⟨(some 51), none, .fieldAddr 31 (.tmp 1) 6⟩, ⟨(some 52), none, .load 3 (.tmp 51)⟩, ⟨(some 53), none, .buildSlice 58 1 #[(0, .tmp 52)]⟩, ⟨(some 54), none, .call ⟨.value (.func 34), #[.const (.string ⟨#[52]⟩), .tmp 53], #[9, 58]⟩⟩, ⟨(some 55), none, .binOp .add 9 (.tmp 50) (.tmp 54) 9⟩, ⟨(some 2), none, .assign (.tmp 55)⟩])) (.ret)))))
noncomputable def l_table_Root : List (Nat × Con) := [(42, c_table_within), (43, c_ptr_Put), (34, c_pack_Put)]
noncomputable abbrev K_table_Root : Ctx := ctx (cl l_table_Root)
theorem geq_table_Root : gof K_table_Root Try.f16 = some G_table_Root.strip := by kernel_rfl
theorem sys_table_Root : Go.Eng.Sys Try.prog K_table_Root := sys_of' ⟨ok_table_within, ok_ptr_Put, ok_pack_Put, trivial⟩
noncomputable def k_table_Root_table_within := PLift.up (call_scal (C := K_table_Root) (f := 42) (A := A_table_within) (p := p_table_within) (r := r_table_within) rfl)
noncomputable def k_table_Root_ptr_Put := PLift.up (call_scal (C := K_table_Root) (f := 43) (A := A_ptr_Put) (p := p_ptr_Put) (r := r_ptr_Put) rfl)
noncomputable def k_table_Root_pack_Put := PLift.up (call_scal (C := K_table_Root) (f := 34) (A := A_pack_Put) (p := p_pack_Put) (r := r_pack_Put) rfl)
def A_table_Root := Arms.cons (argA TRoot) Arms.nil
def p_table_Root (_ : TRoot × Unit) : Prop := True
def r_table_Root (x : TRoot × Unit) : AV := .t (.str (rootB x.1))
set_option maxHeartbeats 4000000 in
theorem body_table_Root (x : TRoot × Unit) (_ : p_table_Root x) : avp K_table_Root G_table_Root (Ret K_table_Root [.tmp 2] fun v _ => v = r_table_Root x) (entry (A_table_Root.enc x) .empty) := by
  obtain ⟨r, ⟨⟩⟩ := x
  change avp _ _ (Ret _ _ fun v _ => v = .t (.str (rootB r))) (entry [.agg ((rtC r).map .t)] .empty)
  unfold G_table_Root
  simp only [vP.down, vS.down, vE.down, qA, qB, qC, qD, qE, qF, qG, reduceIte, reduceCtorEq, qH, qI, qJ, ↓avp_condG, ↓tf_arrow, ↓ft_arrow, rtC, ptC, List.cons_append, List.nil_append]
  intro g hg
  refine weak_at [(1, .imm (rtC r))] .empty fewer_empty (by
    simp only [vP.down, vS.down, vE.down, qA, qB, qC, qD, qE, qF, qG, reduceIte, reduceCtorEq, qH, qI, qJ, ↓avp_condG, ↓tf_arrow, ↓ft_arrow, wP.down]
    exact w2_imm (l := rtC r) (ro := false) (Store.set_same _ _ _) rfl) ?_
  simp only [vP.down, vS.down, vE.down, qA, qB, qC, qD, qE, qF, qG, reduceIte, reduceCtorEq, qH, qI, qJ, ↓avp_condG, ↓tf_arrow, ↓ft_arrow, rtC, ptC, List.cons_append, List.nil_append, pick_of, pick_ot, k_table_Root_table_within.down, A_table_within, p_table_within, r_table_within]
  refine ⟨fun hb => ?_, fun hg => ?_⟩
  · have e : rtOk r = false := by
      unfold rtOk
      rcases hb with (((hb | hb) | hb) | hb) | hb
      · rw [decide_eq_false (by omega)]; rfl
      all_goals rw [hb]; simp
    simp only [vP.down, vS.down, vE.down, qA, qB, qC, qD, qE, qF, qG, reduceIte, reduceCtorEq, qH, qI, qJ, ↓avp_condG, ↓tf_arrow, ↓ft_arrow, vT.down]
    rw [rootB, e]; rfl
  obtain ⟨⟨⟨⟨g1, g2⟩, g3⟩, g4⟩, g5⟩ := hg
  have ek : rtOk r = [r.Table, r.Space, r.Kept].all mayP := by
    rw [rtOk, decide_eq_true (by omega), g2, g3, g4, g5]; rfl
  refine weak_at [(1, .imm (rtC r))] .empty fewer_refl (by simp only [vP.down, vS.down, vE.down, qA, qB, qC, qD, qE, qF, qG, reduceIte, reduceCtorEq, qH, qI, qJ, ↓avp_condG, ↓tf_arrow, ↓ft_arrow, wP.down, rtC, ptC, List.cons_append, List.nil_append]) ?_
  have p3 : [r.Table, r.Space, r.Kept].length ≤ 1099511627776 := by show (3 : Nat) ≤ _; omega
  obtain ⟨P, hP⟩ : ∃ P, P = ptrsF [r.Table, r.Space, r.Kept] := ⟨_, rfl⟩
  simp only [vP.down, vS.down, vE.down, qA, qB, qC, qD, qE, qF, qG, reduceIte, reduceCtorEq, qH, qI, qJ, ↓avp_condG, ↓tf_arrow, ↓ft_arrow, rtC, ptC, List.cons_append, List.nil_append, decP3, p3, ← hP, k_table_Root_ptr_Put.down, A_ptr_Put, p_ptr_Put, r_ptr_Put]
  intro g7 hg7
  refine weak_at [(1, .imm (rtC r)), (3, .t (.str P))] .empty fewer_empty (by simp only [vP.down, vS.down, vE.down, qA, qB, qC, qD, qE, qF, qG, reduceIte, reduceCtorEq, qH, qI, qJ, ↓avp_condG, ↓tf_arrow, ↓ft_arrow, wP.down, rtC, ptC, List.cons_append, List.nil_append]) ?_
  clear hg7
  cases hm : [r.Table, r.Space, r.Kept].all mayP with
  | false =>
    have e : rootB r = [] := by rw [rootB, ek, hm]; rfl
    have eP : P = [] := by rw [hP, ptrsF, if_neg (by rw [hm]; simp)]
    have c1 : (P = []) = True := eq_true eP
    simp only [vP.down, vS.down, vE.down, qA, qB, qC, qD, qE, qF, qG, reduceIte, reduceCtorEq, qH, qI, qJ, ↓avp_condG, ↓tf_arrow, ↓ft_arrow, c1]
    simp only [vP.down, vS.down, vE.down, qA, qB, qC, qD, qE, qF, qG, reduceIte, reduceCtorEq, qH, qI, qJ, ↓avp_condG, ↓tf_arrow, ↓ft_arrow, vT.down, e]
  | true =>
  have e : rootB r = (putF [52, 52, 52] [r.Txg, r.Next, r.Guid] ++ P) ++ putF [52] [r.KeptTxg] := by rw [rootB, ek, hm, hP]; rfl
  have c1 : (P = []) = False := eq_false (hP ▸ ptrs3_ne hm rfl)
  have l1 := putF_len [52, 52, 52] [r.Txg, r.Next, r.Guid]
  have l2 := putF_len [52] [r.KeptTxg]
  have l3 : P.length ≤ 66 := hP ▸ ptrsF_len [r.Table, r.Space, r.Kept]
  have l4 : ([52, 52, 52] : List UInt8).length = 3 := rfl
  have l5 : ([52] : List UInt8).length = 1 := rfl
  simp only [vP.down, vS.down, vE.down, qA, qB, qC, qD, qE, qF, qG, reduceIte, reduceCtorEq, qH, qI, qJ, ↓avp_condG, ↓tf_arrow, ↓ft_arrow, c1]
  refine weak_at [(1, .imm (rtC r)), (3, .t (.str P))] .empty fewer_refl (by simp only [vP.down, vS.down, vE.down, qA, qB, qC, qD, qE, qF, qG, reduceIte, reduceCtorEq, qH, qI, qJ, ↓avp_condG, ↓tf_arrow, ↓ft_arrow, wP.down]) ?_
  simp only [vP.down, vS.down, vE.down, qA, qB, qC, qD, qE, qF, qG, reduceIte, reduceCtorEq, qH, qI, qJ, ↓avp_condG, ↓tf_arrow, ↓ft_arrow, rtC, ptC, List.cons_append, List.nil_append, decI3, decI1, k_table_Root_pack_Put.down, A_pack_Put, p_pack_Put, r_pack_Put]
  intro g8 hg8
  refine ⟨by omega, fun g9 hg9 => ⟨by rw [List.length_append]; omega, ?_⟩⟩
  simp only [vP.down, vS.down, vE.down, qA, qB, qC, qD, qE, qF, qG, reduceIte, reduceCtorEq, qH, qI, qJ, ↓avp_condG, ↓tf_arrow, ↓ft_arrow, vT.down, e]
noncomputable def c_table_Root : Con := fnScal A_table_Root p_table_Root r_table_Root
theorem ok_table_Root : COk Try.prog 16 c_table_Root := fn_sok sys_table_Root mixed Try.func16 (by kernel_rfl) geq_table_Root Try.ntmps16 (by rw [Try.results16]) (fun x => by unfold r_table_Root; simp [AV.scal]) fun x hx => ⟨Nat.le_of_ble_eq_true rfl, body_table_Root x hx⟩
end Go.Proofs.Ytofcmdkmhbbbjaa
namespace Go.Proofs.Ytofcmdkmhbbbjaa
open Go Go.Eng
set_option maxRecDepth 100000
def rtOf (s : List UInt8) : TRoot :=
  let v := takeL H3 s
  let q := takePL 3 (takeR H3 s)
  let w := takeL T1 (takePR 3 (takeR H3 s))
  ⟨v.getD 0 default, v.getD 1 default, v.getD 2 default, q.getD 0 default, q.getD 1 default, q.getD 2 default, w.getD 0 default⟩
def rt1 (s : List UInt8) : Bool := takeOk H3 s
def rt2 (s : List UInt8) : Bool := takePOk 3 (takeR H3 s)
def rt3 (s : List UInt8) : Bool := takeOk T1 (takePR 3 (takeR H3 s))
def zeroR : TRoot := ⟨0, 0, 0, zeroP, zeroP, zeroP, 0⟩
def rtTok (s : List UInt8) : Bool := rt1 s && (rt2 s && (rt3 s && decide (rootB (rtOf s) = s)))
def takeRt (s : List UInt8) : TRoot × Bool := if rtTok s = true then (rtOf s, true) else (zeroR, false)
theorem rt_no {s : List UInt8} (h : rtTok s = false) : takeRt s = (zeroR, false) := by rw [takeRt, h]; rfl
theorem only_box17 {S : Store} {g : Nat} {e : Entry} (h : S.f g = some e) : Fewer S (Store.empty.set g (some e)) := fewer_sub fun k e' hk => by
  by_cases hkg : k = g
  · subst hkg; rw [Store.set_same] at hk; rw [← hk]; exact h
  · rw [Store.set_other _ _ hkg] at hk; cases hk
theorem idx3 {C : Ctx} {T e : TypeId} {n m : Nat} {z : List TV} {α : Type} [Cell α] [Inhabited α] {l : List α} {de : TyD} (h : C.ty T = some ⟨.slice e, n, m, z⟩) (he : C.ty e = some de) (hw : de.size = Cell.width α) (hl : l.length = 3) :
    idxB C T (.t (sl l)) (.t (.int .i64 0)) = .val True (.imm (Cell.enc (l.getD 0 default))) ∧ idxB C T (.t (sl l)) (.t (.int .i64 1)) = .val True (.imm (Cell.enc (l.getD 1 default))) ∧ idxB C T (.t (sl l)) (.t (.int .i64 2)) = .val True (.imm (Cell.enc (l.getD 2 default))) :=
  ⟨idx_at (i := 0) h he hw (by omega) .i64, idx_at (i := 1) h he hw (by omega) .i64, idx_at (i := 2) h he hw (by omega) .i64⟩
abbrev zR : List AV := [.t (.int .i64 0), .t (.int .i64 0), .t (.int .i64 0), .t (.int .i64 0), .t (.int .i64 0), .t (.int .u32 0), .t (.int .u32 0), .t (.int .u32 0), .t (.int .u32 0), .t (.int .i64 0), .t (.int .i64 0), .t (.int .u32 0), .t (.int .u32 0), .t (.int .u32 0), .t (.int .u32 0), .t (.int .i64 0), .t (.int .i64 0), .t (.int .u32 0), .t (.int .u32 0), .t (.int .u32 0), .t (.int .u32 0), .t (.int .i64 0)]
def G_table_TakeRoot : GCode := .seq (.region [⟨(some 2), none, .alloc 31⟩, ⟨(some 3), none, .assign (.const (.bool false))⟩]) (.seq (.seq .weak (.region [⟨(some 12), none, .move (.tmp 0)⟩, ⟨(some 13), none, .call ⟨.value (.func 45), #[.const (.string ⟨#[52, 52, 52]⟩), .tmp 12], #[9, 9]⟩⟩, ⟨(some 11), none, .move (.tmp 13)⟩, ⟨(some 14), none, .extract (.tmp 11) 0⟩, ⟨(some 15), none, .extract (.tmp 11) 1⟩, ⟨(some 16), none, .extract (.tmp 11) 2⟩, ⟨(some 4), none, .assign (.tmp 14)⟩, ⟨(some 5), none, .assign (.tmp 15)⟩, ⟨(some 6), none, .assign (.tmp 16)⟩])) (.seq (.seq (.seq .weak (.region [⟨(some 17), none, .move (.tmp 6)⟩, ⟨(some 18), none, .unOp .not 4 (.tmp 17)⟩])) (.cond (.tmp 18) (.seq (.region [⟨(some 19), none, .build 31 #[]⟩, ⟨none, none, .store 31 (.tmp 2) (.tmp 19)⟩, ⟨(some 3), none, .assign (.const (.bool false))⟩]) (.ret)) (.skip))) (.seq (.seq .weak (.region [⟨(some 21), none, .move (.tmp 5)⟩, ⟨(some 22), none, .call ⟨.value (.func 46), #[.tmp 21, .const (.int .i64 3)], #[9, 3]⟩⟩, ⟨(some 20), none, .move (.tmp 22)⟩, ⟨(some 23), none, .extract (.tmp 20) 0⟩, ⟨(some 24), none, .extract (.tmp 20) 1⟩, ⟨(some 25), none, .extract (.tmp 20) 2⟩, ⟨(some 7), none, .assign (.tmp 23)⟩, ⟨(some 5), none, .assign (.tmp 24)⟩, ⟨(some 6), none, .assign (.tmp 25)⟩])) (.seq (.seq (.seq .weak (.region [⟨(some 26), none, .move (.tmp 6)⟩, ⟨(some 27), none, .unOp .not 4 (.tmp 26)⟩])) (.cond (.tmp 27) (.seq (.region [⟨(some 28), none, .build 31 #[]⟩, ⟨none, none, .store 31 (.tmp 2) (.tmp 28)⟩, ⟨(some 3), none, .assign (.const (.bool false))⟩]) (.ret)) (.skip))) (.seq (.seq .weak (.region [⟨(some 30), none, .move (.tmp 5)⟩, ⟨(some 31), none, .call ⟨.value (.func 45), #[.const (.string ⟨#[52]⟩), .tmp 30], #[9, 9]⟩⟩, ⟨(some 29), none, .move (.tmp 31)⟩, ⟨(some 32), none, .extract (.tmp 29) 0⟩, ⟨(some 33), none, .extract (.tmp 29) 1⟩, ⟨(some 34), none, .extract (.tmp 29) 2⟩, ⟨(some 8), none, .assign (.tmp 32)⟩, ⟨(some 9), none, .assign (.tmp 33)⟩, ⟨(some 6), none, .assign (.tmp 34)⟩])) (.seq (.seq (.seq .weak (.region [⟨(some 35), none, .move (.tmp 6)⟩, ⟨(some 36), none, .unOp .not 4 (.tmp 35)⟩])) (.cond (.tmp 36) (.seq (.region [⟨(some 37), none, .build 31 #[]⟩, ⟨none, none, .store 31 (.tmp 2) (.tmp 37)⟩, ⟨(some 3), none, .assign (.const (.bool false))⟩]) (.ret)) (.skip))) (.seq (.seq .weak (.region [⟨(some 38), none, .move (.tmp 4)⟩, ⟨(some 39), none, .indexAddr 58 (.tmp 38) (.const (.int .i64 0))⟩, ⟨(some 40), none, .load 3 (.tmp 39)⟩, ⟨(some 41), none, .move (.tmp 4)⟩, ⟨(some 42), none, .indexAddr 58 (.tmp 41) (.const (.int .i64 1))⟩, ⟨(some 43), none, .load 3 (.tmp 42)⟩, ⟨(some 44), none, .move (.tmp 4)⟩, ⟨(some 45), none, .indexAddr 58 (.tmp 44) (.const (.int .i64 2))⟩, ⟨(some 46), none, .load 3 (.tmp 45)⟩, ⟨(some 47), none, .move (.tmp 7)⟩, ⟨(some 48), none, .indexAddr 24 (.tmp 47) (.const (.int .i64 0))⟩, ⟨(some 49), none, .load 29 (.tmp 48)⟩, ⟨(some 50), none, .move (.tmp 7)⟩, ⟨(some 51), none, .indexAddr 24 (.tmp 50) (.const (.int .i64 1))⟩, ⟨(some 52), none, .load 29 (.tmp 51)⟩, ⟨(some 53), none, .move (.tmp 7)⟩, ⟨(some 54), none, .indexAddr 24 (.tmp 53) (.const (.int .i64 2))⟩, ⟨(some 55), none, .load 29 (.tmp 54)⟩, ⟨(some 56), none, .move (.tmp 8)⟩, ⟨(some 57), none, .indexAddr 58 (.tmp 56) (.const (.int .i64 0))⟩, ⟨(some 58), none, .load 3 (.tmp 57)⟩, ⟨(some 59), none, .build 31 #[(0, .tmp 40), (1, .tmp 43), (2, .tmp 46), (3, .tmp 49), (4, .tmp 52), (5, .tmp 55), (6, .tmp 58)]⟩, ⟨(some 10), none, .alloc 31⟩, ⟨none, none, .store 31 (.tmp 10) (.tmp 59)⟩])) (.seq (.seq (.seq .weak (.region [⟨(some 60), none, .load 31 (.tmp 10)⟩, ⟨(some 61), none, .call ⟨.value (.func 16), #[.tmp 60], #[31]⟩⟩, ⟨(some 62), none, .move (.tmp 0)⟩, ⟨(some 63), none, .binOp .neq 9 (.tmp 61) (.tmp 62) 9⟩])) (.cond (.tmp 63) (.seq (.region [⟨(some 64), none, .build 31 #[]⟩, ⟨none, none, .store 31 (.tmp 2) (.tmp 64)⟩, ⟨(some 3), none, .assign (.const (.bool false))⟩]) (.ret)) (.skip))) (.seq (.seq .weak (.region [⟨(some 65), none, .load 31 (.tmp 10)⟩, ⟨none, none, .store 31 (.tmp 2) (.tmp 65)⟩, ⟨(some 3), none, .assign (.const (.bool true))⟩])) (.ret))))))))))
noncomputable def l_table_TakeRoot : List (Nat × Con) := [(45, c_pack_Take), (46, c_ptr_Take), (16, c_table_Root)]
noncomputable abbrev K_table_TakeRoot : Ctx := ctx (cl l_table_TakeRoot)
theorem geq_table_TakeRoot : gof K_table_TakeRoot Try.f20 = some G_table_TakeRoot.strip := by kernel_rfl
theorem sys_table_TakeRoot : Go.Eng.Sys Try.prog K_table_TakeRoot := sys_of' ⟨ok_pack_Take, ok_ptr_Take, ok_table_Root, trivial⟩
noncomputable def k_table_TakeRoot_pack_Take := PLift.up (call_fn (C := K_table_TakeRoot) (f := 45) (A := A_pack_Take) (p := p_pack_Take) (r := r_pack_Take) rfl)
noncomputable def k_table_TakeRoot_ptr_Take := PLift.up (call_fn (C := K_table_TakeRoot) (f := 46) (A := A_ptr_Take) (p := p_ptr_Take) (r := r_ptr_Take) rfl)
noncomputable def k_table_TakeRoot_table_Root := PLift.up (call_scal (C := K_table_TakeRoot) (f := 16) (A := A_table_Root) (p := p_table_Root) (r := r_table_Root) rfl)
def A_table_TakeRoot := Arms.cons (argT (List UInt8)) Arms.nil
def p_table_TakeRoot (x : List UInt8 × Unit) : Prop := x.1.length ≤ 1000000
def r_table_TakeRoot (x : List UInt8 × Unit) : AV := .tup [.agg ((rtC (takeRt x.1).1).map .t), .t (.bool (takeRt x.1).2)]
set_option maxHeartbeats 4000000 in
theorem body_table_TakeRoot (x : List UInt8 × Unit) (hp : p_table_TakeRoot x) : avp K_table_TakeRoot G_table_TakeRoot (Ret K_table_TakeRoot [.cell 2 31, .tmp 3] fun v s' => Frz s' v (r_table_TakeRoot x)) (entry (A_table_TakeRoot.enc x) .empty) := by
  obtain ⟨s, ⟨⟩⟩ := x
  change s.length ≤ 1000000 at hp
  change avp _ _ (Ret _ _ fun v s' => Frz s' v (.tup [.agg ((rtC (takeRt s).1).map .t), .t (.bool (takeRt s).2)])) (entry [.t (.str s)] .empty)
  have hH : ([52, 52, 52] : List UInt8) = H3 := rfl
  have hT : ([52] : List UInt8) = T1 := rfl
  have ph : H3.length ≤ 1099511627776 := by decide
  have pt : T1.length ≤ 1099511627776 := by decide
  have p1 : s.length ≤ 1099511627776 := by omega
  have p2 : (takeR H3 s).length ≤ 1099511627776 := by have := takeR_len (f := H3) (s := s); omega
  have p3 : (takePR 3 (takeR H3 s)).length ≤ 1099511627776 := by have := takePR_len (n := 3) (s := takeR H3 s); omega
  have pn : (3 : Int) ≤ 1048576 := by omega
  have ek : rtTok s = (rt1 s && (rt2 s && (rt3 s && decide (rootB (rtOf s) = s)))) := rfl
  have u0 : ((UInt32.toNat 0 : Nat) : Int) = 0 := rfl
  unfold G_table_TakeRoot
  simp only [vP.down, vS.down, vE.down, qA, qB, qC, qD, qE, qF, qG, reduceIte, reduceCtorEq, qH, qI, qJ, ↓avp_condG, ↓tf_arrow, ↓ft_arrow, ↓hH]
  intro g2 hg2
  have hz : ((([.int .i64 0, .int .i64 0, .int .i64 0, .int .i64 0, .int .i64 0, .int .u32 0, .int .u32 0, .int .u32 0, .int .u32 0, .int .i64 0, .int .i64 0, .int .u32 0, .int .u32 0, .int .u32 0, .int .u32 0, .int .i64 0, .int .i64 0, .int .u32 0, .int .u32 0, .int .u32 0, .int .u32 0, .int .i64 0] : List TV).map AV.t)) = zR := rfl
  refine weak_at [(0, .t (.str s)), (2, .ptr g2 0)] (Store.empty.set g2 (some (.box zR false))) fewer_refl (by simp only [vP.down, vS.down, vE.down, qA, qB, qC, qD, qE, qF, qG, reduceIte, reduceCtorEq, qH, qI, qJ, ↓avp_condG, ↓tf_arrow, ↓ft_arrow, wP.down]) ?_
  simp only [vP.down, vS.down, vE.down, qA, qB, qC, qD, qE, qF, qG, reduceIte, reduceCtorEq, qH, qI, qJ, ↓avp_condG, ↓tf_arrow, ↓ft_arrow, p1, ph, ↓hH, hT, k_table_TakeRoot_pack_Take.down, A_pack_Take, p_pack_Take, r_pack_Take]
  refine weak_at [(0, .t (.str s)), (2, .ptr g2 0), (4, .t (sl (takeL H3 s))), (5, .t (.str (takeR H3 s))), (6, .t (.bool (takeOk H3 s)))] (Store.empty.set g2 (some (.box zR false))) fewer_refl (by simp only [vP.down, vS.down, vE.down, qA, qB, qC, qD, qE, qF, qG, reduceIte, reduceCtorEq, qH, qI, qJ, ↓avp_condG, ↓tf_arrow, ↓ft_arrow, wP.down]) ?_
  cases h1 : takeOk H3 s with
  | false =>
    have e := rt_no (ek.trans (by rw [rt1, h1]; rfl))
    simp only [vP.down, vS.down, vE.down, qA, qB, qC, qD, qE, qF, qG, reduceIte, reduceCtorEq, qH, qI, qJ, ↓avp_condG, ↓tf_arrow, ↓ft_arrow, Store.set_same]
    simp only [vP.down, vS.down, vE.down, qA, qB, qC, qD, qE, qF, qG, reduceIte, reduceCtorEq, qH, qI, qJ, ↓avp_condG, ↓tf_arrow, ↓ft_arrow, vT.down, Store.set_same, e, u0, rtC, ptC, zeroR, zeroP, List.cons_append, List.nil_append]
  | true =>
  simp only [vP.down, vS.down, vE.down, qA, qB, qC, qD, qE, qF, qG, reduceIte, reduceCtorEq, qH, qI, qJ, ↓avp_condG, ↓tf_arrow, ↓ft_arrow]
  refine weak_at [(0, .t (.str s)), (2, .ptr g2 0), (4, .t (sl (takeL H3 s))), (5, .t (.str (takeR H3 s)))] (Store.empty.set g2 (some (.box zR false))) fewer_refl (by simp only [vP.down, vS.down, vE.down, qA, qB, qC, qD, qE, qF, qG, reduceIte, reduceCtorEq, qH, qI, qJ, ↓avp_condG, ↓tf_arrow, ↓ft_arrow, wP.down]) ?_
  simp only [vP.down, vS.down, vE.down, qA, qB, qC, qD, qE, qF, qG, reduceIte, reduceCtorEq, qH, qI, qJ, ↓avp_condG, ↓tf_arrow, ↓ft_arrow, p2, pn, show ((3 : Int)).toNat = 3 from rfl, k_table_TakeRoot_ptr_Take.down, A_ptr_Take, p_ptr_Take, r_ptr_Take]
  refine weak_at [(0, .t (.str s)), (2, .ptr g2 0), (4, .t (sl (takeL H3 s))), (5, .t (.str (takePR 3 (takeR H3 s)))), (6, .t (.bool (takePOk 3 (takeR H3 s)))), (7, .t (sl (takePL 3 (takeR H3 s))))] (Store.empty.set g2 (some (.box zR false))) fewer_refl (by simp only [vP.down, vS.down, vE.down, qA, qB, qC, qD, qE, qF, qG, reduceIte, reduceCtorEq, qH, qI, qJ, ↓avp_condG, ↓tf_arrow, ↓ft_arrow, wP.down]) ?_
  cases h2 : takePOk 3 (takeR H3 s) with
  | false =>
    have e := rt_no (ek.trans (by rw [rt2, h2, Bool.false_and, Bool.and_false]))
    simp only [vP.down, vS.down, vE.down, qA, qB, qC, qD, qE, qF, qG, reduceIte, reduceCtorEq, qH, qI, qJ, ↓avp_condG, ↓tf_arrow, ↓ft_arrow, Store.set_same]
    simp only [vP.down, vS.down, vE.down, qA, qB, qC, qD, qE, qF, qG, reduceIte, reduceCtorEq, qH, qI, qJ, ↓avp_condG, ↓tf_arrow, ↓ft_arrow, vT.down, Store.set_same, e, u0, rtC, ptC, zeroR, zeroP, List.cons_append, List.nil_append]
  | true =>
  simp only [vP.down, vS.down, vE.down, qA, qB, qC, qD, qE, qF, qG, reduceIte, reduceCtorEq, qH, qI, qJ, ↓avp_condG, ↓tf_arrow, ↓ft_arrow]
  refine weak_at [(0, .t (.str s)), (2, .ptr g2 0), (4, .t (sl (takeL H3 s))), (5, .t (.str (takePR 3 (takeR H3 s)))), (7, .t (sl (takePL 3 (takeR H3 s))))] (Store.empty.set g2 (some (.box zR false))) fewer_refl (by simp only [vP.down, vS.down, vE.down, qA, qB, qC, qD, qE, qF, qG, reduceIte, reduceCtorEq, qH, qI, qJ, ↓avp_condG, ↓tf_arrow, ↓ft_arrow, wP.down]) ?_
  simp only [vP.down, vS.down, vE.down, qA, qB, qC, qD, qE, qF, qG, reduceIte, reduceCtorEq, qH, qI, qJ, ↓avp_condG, ↓tf_arrow, ↓ft_arrow, p3, pt, k_table_TakeRoot_pack_Take.down, A_pack_Take, p_pack_Take, r_pack_Take]
  refine weak_at [(0, .t (.str s)), (2, .ptr g2 0), (4, .t (sl (takeL H3 s))), (6, .t (.bool (takeOk T1 (takePR 3 (takeR H3 s))))), (7, .t (sl (takePL 3 (takeR H3 s)))), (8, .t (sl (takeL T1 (takePR 3 (takeR H3 s)))))] (Store.empty.set g2 (some (.box zR false))) fewer_refl (by simp only [vP.down, vS.down, vE.down, qA, qB, qC, qD, qE, qF, qG, reduceIte, reduceCtorEq, qH, qI, qJ, ↓avp_condG, ↓tf_arrow, ↓ft_arrow, wP.down]) ?_
  cases h3 : takeOk T1 (takePR 3 (takeR H3 s)) with
  | false =>
    have e := rt_no (ek.trans (by rw [rt3, h3, Bool.false_and, Bool.and_false, Bool.and_false]))
    simp only [vP.down, vS.down, vE.down, qA, qB, qC, qD, qE, qF, qG, reduceIte, reduceCtorEq, qH, qI, qJ, ↓avp_condG, ↓tf_arrow, ↓ft_arrow, Store.set_same]
    simp only [vP.down, vS.down, vE.down, qA, qB, qC, qD, qE, qF, qG, reduceIte, reduceCtorEq, qH, qI, qJ, ↓avp_condG, ↓tf_arrow, ↓ft_arrow, vT.down, Store.set_same, e, u0, rtC, ptC, zeroR, zeroP, List.cons_append, List.nil_append]
  | true =>
  simp only [vP.down, vS.down, vE.down, qA, qB, qC, qD, qE, qF, qG, reduceIte, reduceCtorEq, qH, qI, qJ, ↓avp_condG, ↓tf_arrow, ↓ft_arrow]
  refine weak_at [(0, .t (.str s)), (2, .ptr g2 0), (4, .t (sl (takeL H3 s))), (7, .t (sl (takePL 3 (takeR H3 s)))), (8, .t (sl (takeL T1 (takePR 3 (takeR H3 s)))))] (Store.empty.set g2 (some (.box zR false))) fewer_refl (by simp only [vP.down, vS.down, vE.down, qA, qB, qC, qD, qE, qF, qG, reduceIte, reduceCtorEq, qH, qI, qJ, ↓avp_condG, ↓tf_arrow, ↓ft_arrow, wP.down]) ?_
  have ek2 : rtTok s = decide (rootB (rtOf s) = s) := by rw [ek, rt1, rt2, rt3, h1, h2, h3]; rfl
  have er : rtOf s = ⟨(takeL H3 s).getD 0 default, (takeL H3 s).getD 1 default, (takeL H3 s).getD 2 default, (takePL 3 (takeR H3 s)).getD 0 default, (takePL 3 (takeR H3 s)).getD 1 default, (takePL 3 (takeR H3 s)).getD 2 default, (takeL T1 (takePR 3 (takeR H3 s))).getD 0 default⟩ := rfl
  have b1 : (takeL H3 s).length = 3 := takeL_len' h1
  have b2 : (takePL 3 (takeR H3 s)).length = 3 := takePL_len h2
  have b3 : (takeL T1 (takePR 3 (takeR H3 s))).length = 1 := takeL_len' h3
  obtain ⟨v, hv⟩ : ∃ v, v = takeL H3 s := ⟨_, rfl⟩
  obtain ⟨q, hq⟩ : ∃ v, v = takePL 3 (takeR H3 s) := ⟨_, rfl⟩
  obtain ⟨w, hw⟩ : ∃ v, v = takeL T1 (takePR 3 (takeR H3 s)) := ⟨_, rfl⟩
  rw [← hv, ← hq, ← hw] at er
  rw [← hv] at b1
  rw [← hq] at b2
  rw [← hw] at b3
  rw [← hv, ← hq, ← hw]
  obtain ⟨y0, y1, y2⟩ := idx3 (C := K_table_TakeRoot) (l := v) ty_Lint ty_int rfl b1
  obtain ⟨z0, z1, z2⟩ := idx3 (C := K_table_TakeRoot) (l := q) ty_Lapi_Ptr ty_api_Ptr rfl b2
  have w0 : idxB K_table_TakeRoot 58 (.t (sl w)) (.t (.int .i64 0)) = .val True (.imm (Cell.enc (w.getD 0 default))) := idx_at (i := 0) ty_Lint ty_int rfl (by omega) .i64
  obtain ⟨q0, e0⟩ : ∃ x, x = q.getD 0 default := ⟨_, rfl⟩
  obtain ⟨q1, e1⟩ : ∃ x, x = q.getD 1 default := ⟨_, rfl⟩
  obtain ⟨q2, e2⟩ : ∃ x, x = q.getD 2 default := ⟨_, rfl⟩
  rw [← e0] at z0 er
  rw [← e1] at z1 er
  rw [← e2] at z2 er
  obtain ⟨v0, f0⟩ : ∃ x, x = v.getD 0 default := ⟨_, rfl⟩
  obtain ⟨v1, f1⟩ : ∃ x, x = v.getD 1 default := ⟨_, rfl⟩
  obtain ⟨v2, f2⟩ : ∃ x, x = v.getD 2 default := ⟨_, rfl⟩
  obtain ⟨v3, f3⟩ : ∃ x, x = w.getD 0 default := ⟨_, rfl⟩
  rw [← f0] at y0 er
  rw [← f1] at y1 er
  rw [← f2] at y2 er
  rw [← f3] at w0 er
  simp only [vP.down, vS.down, vE.down, qA, qB, qC, qD, qE, qF, qG, reduceIte, reduceCtorEq, qH, qI, qJ, ↓avp_condG, ↓tf_arrow, ↓ft_arrow, y0, y1, y2, z0, z1, z2, w0]
  intro g10 hg10
  have n1 := Store.ne_new hg10
  obtain ⟨R, hR⟩ : ∃ R, R = rtOf s := ⟨_, rfl⟩
  have hRe : R = ⟨v0, v1, v2, q0, q1, q2, v3⟩ := hR.trans er
  refine weak_at [(0, .t (.str s)), (2, .ptr g2 0), (10, .imm (rtC ⟨v0, v1, v2, q0, q1, q2, v3⟩))] (Store.empty.set g2 (some (.box zR false))) (only_box17 ((Store.set_other _ _ n1.symm).trans (Store.set_same _ _ _))) (by
    simp only [vP.down, vS.down, vE.down, qA, qB, qC, qD, qE, qF, qG, reduceIte, reduceCtorEq, qH, qI, qJ, ↓avp_condG, ↓tf_arrow, ↓ft_arrow, wP.down]
    exact w2_imm (l := rtC ⟨v0, v1, v2, q0, q1, q2, v3⟩) (ro := false) (Store.set_same _ _ _) (Store.set_other _ _ n1)) ?_
  rw [← hRe]
  rw [← hR] at ek2
  clear er hRe y0 y1 y2 z0 z1 z2 w0 hg10 n1
  cases hk : rtTok s with
  | false =>
    have e4 := of_decide_eq_false (ek2.symm.trans hk)
    have e := rt_no hk
    simp only [vP.down, vS.down, vE.down, qA, qB, qC, qD, qE, qF, qG, reduceIte, reduceCtorEq, qH, qI, qJ, ↓avp_condG, ↓tf_arrow, ↓ft_arrow, rtC, ptC, List.cons_append, List.nil_append, e4, not_false_eq_true, true_implies, false_implies, Store.set_same, k_table_TakeRoot_table_Root.down, A_table_Root, p_table_Root, r_table_Root]
    simp only [vP.down, vS.down, vE.down, qA, qB, qC, qD, qE, qF, qG, reduceIte, reduceCtorEq, qH, qI, qJ, ↓avp_condG, ↓tf_arrow, ↓ft_arrow, vT.down, Store.set_same, e, u0, rtC, ptC, zeroR, zeroP, List.cons_append, List.nil_append]
  | true =>
    have e4 := of_decide_eq_true (ek2.symm.trans hk)
    have e : takeRt s = (R, true) := by rw [takeRt, hk, hR]; rfl
    simp only [vP.down, vS.down, vE.down, qA, qB, qC, qD, qE, qF, qG, reduceIte, reduceCtorEq, qH, qI, qJ, ↓avp_condG, ↓tf_arrow, ↓ft_arrow, rtC, ptC, List.cons_append, List.nil_append, e4, bne_self_eq_false, k_table_TakeRoot_table_Root.down, A_table_Root, p_table_Root, r_table_Root]
    refine weak_at [(2, .ptr g2 0), (10, .imm (rtC R))] (Store.empty.set g2 (some (.box zR false))) fewer_refl (by simp only [vP.down, vS.down, vE.down, qA, qB, qC, qD, qE, qF, qG, reduceIte, reduceCtorEq, qH, qI, qJ, ↓avp_condG, ↓tf_arrow, ↓ft_arrow, wP.down, rtC, ptC, List.cons_append, List.nil_append]) ?_
    simp only [vP.down, vS.down, vE.down, qA, qB, qC, qD, qE, qF, qG, reduceIte, reduceCtorEq, qH, qI, qJ, ↓avp_condG, ↓tf_arrow, ↓ft_arrow, rtC, ptC, List.cons_append, List.nil_append, Store.set_same]
    simp only [vP.down, vS.down, vE.down, qA, qB, qC, qD, qE, qF, qG, reduceIte, reduceCtorEq, qH, qI, qJ, ↓avp_condG, ↓tf_arrow, ↓ft_arrow, vT.down, Store.set_same, e, u0, rtC, ptC, zeroR, zeroP, List.cons_append, List.nil_append]
noncomputable def c_table_TakeRoot : Con := fnCon A_table_TakeRoot p_table_TakeRoot r_table_TakeRoot
theorem ok_table_TakeRoot : COk Try.prog 20 c_table_TakeRoot := fn_ok sys_table_TakeRoot mixed Try.func20 (by kernel_rfl) geq_table_TakeRoot Try.ntmps20 (by rw [Try.results20]) fun x hx => ⟨Nat.le_of_ble_eq_true rfl, body_table_TakeRoot x hx⟩
end Go.Proofs.Ytofcmdkmhbbbjaa
namespace Go.Proofs.Ytofcmdkmhbbbjaa
open Go Go.Eng
set_option maxRecDepth 100000
end Go.Proofs.Ytofcmdkmhbbbjaa
namespace Go.Proofs.Ytofcmdkmhbbbjaa
open Go Go.Eng
set_option maxRecDepth 100000
def NoF (l : List TDset) : Prop := l.length ≤ 100000 ∧ ∀ d ∈ l, d.Files = []
end Go.Proofs.Ytofcmdkmhbbbjaa
namespace Go.Proofs.Ytofcmdkmhbbbjaa
open Go Go.Eng
set_option maxRecDepth 100000
def G_made_Picks_Ptr : GCode := .seq (.region [⟨(some 2), none, .alloc 29⟩]) (.seq (.seq (.region [⟨(some 3), none, .move (.tmp 0)⟩, ⟨(some 4), none, .call ⟨.value (.func 41), #[.tmp 3, .const (.int .i64 4)], #[38, 3]⟩⟩, ⟨(some 5), none, .binOp .eql 3 (.tmp 4) (.const (.int .i64 0)) 3⟩]) (.cond (.tmp 5) (.seq (.region [⟨(some 6), none, .build 29 #[]⟩, ⟨none, none, .store 29 (.tmp 2) (.tmp 6)⟩]) (.ret)) (.skip))) (.seq (.region [⟨(some 7), none, .move (.tmp 0)⟩, ⟨(some 8), none, .call ⟨.value (.func 41), #[.tmp 7, .const (.int .i64 60)], #[38, 3]⟩⟩, ⟨(some 9), none, .binOp .add 3 (.const (.int .i64 14)) (.tmp 8) 3⟩, ⟨(some 10), none, .move (.tmp 0)⟩, ⟨(some 11), none, .call ⟨.value (.func 41), #[.tmp 10, .const (.int .i64 90)], #[38, 3]⟩⟩, ⟨(some 12), none, .binOp .add 3 (.const (.int .i64 1)) (.tmp 11) 3⟩, ⟨(some 13), none, .move (.tmp 0)⟩, ⟨(some 14), none, .call ⟨.value (.func 41), #[.tmp 13, .const (.int .i64 256)], #[38, 3]⟩⟩, ⟨(some 15), none, .convert 3 25 (.tmp 14)⟩, ⟨(some 16), none, .binOp .shl 25 (.tmp 15) (.const (.int .u64 24)) 103⟩, ⟨(some 17), none, .move (.tmp 0)⟩, ⟨(some 18), none, .call ⟨.value (.func 41), #[.tmp 17, .const (.int .i64 256)], #[38, 3]⟩⟩, ⟨(some 19), none, .convert 3 25 (.tmp 18)⟩, ⟨(some 20), none, .move (.tmp 0)⟩, ⟨(some 21), none, .call ⟨.value (.func 41), #[.tmp 20, .const (.int .i64 9)], #[38, 3]⟩⟩, ⟨(some 22), none, .convert 3 25 (.tmp 21)⟩, ⟨(some 23), none, .build 27 #[(0, .tmp 16), (1, .tmp 19), (2, .const (.int .u32 5)), (3, .tmp 22)]⟩, ⟨(some 24), none, .build 29 #[(0, .tmp 9), (1, .tmp 12), (2, .tmp 23)]⟩, ⟨none, none, .store 29 (.tmp 2) (.tmp 24)⟩]) (.ret)))
noncomputable def l_made_Picks_Ptr : List (Nat × Con) := [(41, c_made_Picks_Num)]
noncomputable abbrev K_made_Picks_Ptr : Ctx := ctx (cl l_made_Picks_Ptr)
theorem geq_made_Picks_Ptr : gof K_made_Picks_Ptr Try.f33 = some G_made_Picks_Ptr.strip := by kernel_rfl
theorem sys_made_Picks_Ptr : Go.Eng.Sys Try.prog K_made_Picks_Ptr := sys_of' ⟨ok_made_Picks_Num, trivial⟩
noncomputable def k_made_Picks_Ptr_made_Picks_Num := PLift.up (call_gen (C := K_made_Picks_Ptr) (f := 41) (modes := m_made_Picks_Num) (F := F_made_Picks_Num) rfl)
def m_made_Picks_Ptr : List Bool := [true]
def F_made_Picks_Ptr (xs : List AV) (s : Store) (Q : AV → Store → Prop) : Prop := ∃ (g : Nat) (l : List Byt), xs = [.ptr g 0] ∧ PkI s s g l ∧ ∀ (p : TPtr) S, mayP p = true → PkI s S g l → Q (.agg ((ptC p).map .t)) S
theorem mono_made_Picks_Ptr (xs : List AV) (s : Store) (Q Q' : AV → Store → Prop) (hq : ∀ r t, Q r t → Q' r t) : F_made_Picks_Ptr xs s Q → F_made_Picks_Ptr xs s Q' := fun ⟨g, l, a, b, c⟩ => ⟨g, l, a, b, fun p S h1 h2 => hq _ _ (c p S h1 h2)⟩
theorem ex_made_Picks_Ptr (xs : List AV) (s : Store) (Q : AV → Store → Prop) : F_made_Picks_Ptr xs s Q → ∃ r t, Q r t := fun ⟨_, _, _, b, c⟩ => ⟨_, _, c zeroP s rfl b⟩
set_option maxHeartbeats 4000000 in
theorem body_made_Picks_Ptr (xs : List AV) (s : Store) (Q : AV → Store → Prop) (h : F_made_Picks_Ptr xs s Q) : xs.length ≤ 25 ∧ avp K_made_Picks_Ptr G_made_Picks_Ptr (Ret K_made_Picks_Ptr [.cell 2 29] fun r s' => ∃ s'', Sub s'' s' ∧ Q r s'') (entry xs s) := by
  obtain ⟨g, l, rfl, H0, hq⟩ := h
  refine ⟨by simp, ?_⟩
  unfold G_made_Picks_Ptr
  simp only [vP.down, vS.down, vE.down, qA, qB, qC, qD, qE, qF, qG, reduceIte, reduceCtorEq, qH, qI, qJ, ↓avp_condG, ↓tf_arrow, ↓ft_arrow, k_made_Picks_Ptr_made_Picks_Num.down, m_made_Picks_Num]
  intro g2 hg2
  have hne := H0.ne hg2
  obtain ⟨Z, hZ⟩ : ∃ Z : Entry, Z = .box [.t (.int .i64 0), .t (.int .i64 0), .t (.int .u32 0), .t (.int .u32 0), .t (.int .u32 0), .t (.int .u32 0)] false := ⟨_, rfl⟩
  rw [← hZ]
  have H1 : PkI s (s.set g2 (some Z)) g l := H0.box hg2 hne
  have f1 : (s.set g2 (some Z)).f g2 = some Z := Store.set_same _ _ _
  have keep : ∀ {S S' : Store}, PkI S S' g l → S.f g2 = some Z → S'.f g2 = some Z := fun I h => I.keep h hne
  have fin : ∀ (S : Store) (e : Entry), PkI s S g l → PkI s (S.set g2 (some e)) g l := fun S e I => I.box hg2 hne
  refine num_any H1.refl' (by omega) fun v0 S1 _ _ I1 => ?_
  have H2 := H1.trans I1
  have f2 := keep I1 f1
  rw [hZ] at f2
  by_cases h0 : v0 = 0
  · simp only [vP.down, vS.down, vE.down, qA, qB, qC, qD, qE, qF, qG, reduceIte, reduceCtorEq, qH, qI, qJ, ↓avp_condG, ↓tf_arrow, ↓ft_arrow, h0, f2]
    simp only [vP.down, vS.down, vE.down, qA, qB, qC, qD, qE, qF, qG, reduceIte, reduceCtorEq, qH, qI, qJ, ↓avp_condG, ↓tf_arrow, ↓ft_arrow, vT.down, Store.set_same]
    exact ⟨_, fun _ _ h => h, hq zeroP _ rfl (fin S1 _ H2)⟩
  simp only [vP.down, vS.down, vE.down, qA, qB, qC, qD, qE, qF, qG, reduceIte, reduceCtorEq, qH, qI, qJ, ↓avp_condG, ↓tf_arrow, ↓ft_arrow, h0, false_implies, k_made_Picks_Ptr_made_Picks_Num.down, m_made_Picks_Num]
  refine num_any H2.refl' (by omega) fun v1 S2 a1 b1 I2 => ?_
  have H3 := H2.trans I2
  have w1 : IntKind.i64.wrap (14 + v1) = 14 + v1 := IntWalk.i64_in _ (by omega)
  simp only [vP.down, vS.down, vE.down, qA, qB, qC, qD, qE, qF, qG, reduceIte, reduceCtorEq, qH, qI, qJ, ↓avp_condG, ↓tf_arrow, ↓ft_arrow, w1, k_made_Picks_Ptr_made_Picks_Num.down, m_made_Picks_Num]
  refine num_any H3.refl' (by omega) fun v2 S3 a2 b2 I3 => ?_
  have H4 := H3.trans I3
  have w2 : IntKind.i64.wrap (1 + v2) = 1 + v2 := IntWalk.i64_in _ (by omega)
  simp only [vP.down, vS.down, vE.down, qA, qB, qC, qD, qE, qF, qG, reduceIte, reduceCtorEq, qH, qI, qJ, ↓avp_condG, ↓tf_arrow, ↓ft_arrow, w2, k_made_Picks_Ptr_made_Picks_Num.down, m_made_Picks_Num]
  refine num_any H4.refl' (by omega) fun v3 S4 a3 b3 I4 => ?_
  have H5 := H4.trans I4
  simp only [vP.down, vS.down, vE.down, qA, qB, qC, qD, qE, qF, qG, reduceIte, reduceCtorEq, qH, qI, qJ, ↓avp_condG, ↓tf_arrow, ↓ft_arrow, u32I_wrap, k_made_Picks_Ptr_made_Picks_Num.down, m_made_Picks_Num]
  refine num_any H5.refl' (by omega) fun v4 S5 a4 b4 I5 => ?_
  have H6 := H5.trans I5
  simp only [vP.down, vS.down, vE.down, qA, qB, qC, qD, qE, qF, qG, reduceIte, reduceCtorEq, qH, qI, qJ, ↓avp_condG, ↓tf_arrow, ↓ft_arrow, u32I_wrap, k_made_Picks_Ptr_made_Picks_Num.down, m_made_Picks_Num]
  refine num_any H6.refl' (by omega) fun v5 S6 a5 b5 I6 => ?_
  have H7 := H6.trans I6
  have f7 := keep I6 (keep I5 (keep I4 (keep I3 (keep I2 (hZ ▸ f2)))))
  rw [hZ] at f7
  simp only [vP.down, vS.down, vE.down, qA, qB, qC, qD, qE, qF, qG, reduceIte, reduceCtorEq, qH, qI, qJ, ↓avp_condG, ↓tf_arrow, ↓ft_arrow, f7, u32I_wrap]
  have hm : mayP ⟨14 + v1, 1 + v2, (u32I (((u32I v3).toNat : Int) * 2 ^ min 24 IntKind.u32.bits), u32I v4, 5, u32I v5)⟩ = true := by
    simp only [mayP, numB, Bool.and_eq_true, decide_eq_true_eq, Bool.or_eq_true]
    omega
  simp only [vP.down, vS.down, vE.down, qA, qB, qC, qD, qE, qF, qG, reduceIte, reduceCtorEq, qH, qI, qJ, ↓avp_condG, ↓tf_arrow, ↓ft_arrow, vT.down, Store.set_same]
  exact ⟨_, fun _ _ h => h, hq ⟨14 + v1, 1 + v2, (u32I (((u32I v3).toNat : Int) * 2 ^ min 24 IntKind.u32.bits), u32I v4, 5, u32I v5)⟩ _ hm (fin S6 _ H7)⟩
noncomputable def c_made_Picks_Ptr : Con := .gen m_made_Picks_Ptr F_made_Picks_Ptr
theorem ok_made_Picks_Ptr : COk Try.prog 33 c_made_Picks_Ptr := fn_gok sys_made_Picks_Ptr mixed Try.func33 (by kernel_rfl) geq_made_Picks_Ptr Try.ntmps33 (by rw [Try.results33]) mono_made_Picks_Ptr ex_made_Picks_Ptr body_made_Picks_Ptr
theorem ptr_any {s : Store} {g : Nat} {l : List Byt} {Q : AV → Store → Prop} (h : PkI s s g l) (hq : ∀ (p : TPtr) S, mayP p = true → PkI s S g l → Q (.agg ((ptC p).map .t)) S) : F_made_Picks_Ptr [.ptr g 0] s Q := ⟨g, l, rfl, h, hq⟩
theorem PkI.same {s S : Store} {g : Nat} {l : List Byt} (h : PkI s s g l) (hf : ∀ k e, s.f k = some e → S.f k = some e) : PkI s S g l := by
  obtain ⟨n, a, b, c, _⟩ := h
  exact ⟨n, hf _ _ a, b, c, fun k e _ hs => hf k e hs⟩
def G_made_Picks_Root : GCode := .seq (.region [⟨(some 2), none, .alloc 31⟩]) (.seq (.region [⟨(some 3), none, .move (.tmp 0)⟩, ⟨(some 4), none, .call ⟨.value (.func 41), #[.tmp 3, .const (.int .i64 200)], #[38, 3]⟩⟩, ⟨(some 5), none, .binOp .add 3 (.const (.int .i64 1)) (.tmp 4) 3⟩, ⟨(some 6), none, .move (.tmp 0)⟩, ⟨(some 7), none, .call ⟨.value (.func 41), #[.tmp 6, .const (.int .i64 50)], #[38, 3]⟩⟩, ⟨(some 8), none, .move (.tmp 0)⟩, ⟨(some 9), none, .call ⟨.value (.func 41), #[.tmp 8, .const (.int .i64 9)], #[38, 3]⟩⟩, ⟨(some 10), none, .move (.tmp 0)⟩, ⟨(some 11), none, .call ⟨.value (.func 33), #[.tmp 10], #[38]⟩⟩, ⟨(some 12), none, .move (.tmp 0)⟩, ⟨(some 13), none, .call ⟨.value (.func 33), #[.tmp 12], #[38]⟩⟩, ⟨(some 14), none, .move (.tmp 0)⟩, ⟨(some 15), none, .call ⟨.value (.func 33), #[.tmp 14], #[38]⟩⟩, ⟨(some 16), none, .move (.tmp 0)⟩, ⟨(some 17), none, .call ⟨.value (.func 41), #[.tmp 16, .const (.int .i64 9)], #[38, 3]⟩⟩, ⟨(some 18), none, .build 31 #[(0, .tmp 5), (1, .tmp 7), (2, .tmp 9), (3, .tmp 11), (4, .tmp 13), (5, .tmp 15), (6, .tmp 17)]⟩, ⟨none, none, .store 31 (.tmp 2) (.tmp 18)⟩]) (.ret))
noncomputable def l_made_Picks_Root : List (Nat × Con) := [(41, c_made_Picks_Num), (33, c_made_Picks_Ptr)]
noncomputable abbrev K_made_Picks_Root : Ctx := ctx (cl l_made_Picks_Root)
theorem geq_made_Picks_Root : gof K_made_Picks_Root Try.f15 = some G_made_Picks_Root.strip := by kernel_rfl
theorem sys_made_Picks_Root : Go.Eng.Sys Try.prog K_made_Picks_Root := sys_of' ⟨ok_made_Picks_Num, ok_made_Picks_Ptr, trivial⟩
noncomputable def k_made_Picks_Root_made_Picks_Num := PLift.up (call_gen (C := K_made_Picks_Root) (f := 41) (modes := m_made_Picks_Num) (F := F_made_Picks_Num) rfl)
noncomputable def k_made_Picks_Root_made_Picks_Ptr := PLift.up (call_gen (C := K_made_Picks_Root) (f := 33) (modes := m_made_Picks_Ptr) (F := F_made_Picks_Ptr) rfl)
def m_made_Picks_Root : List Bool := [true]
def F_made_Picks_Root (xs : List AV) (s : Store) (Q : AV → Store → Prop) : Prop := ∃ (g : Nat) (l : List Byt), xs = [.ptr g 0] ∧ PkI s s g l ∧ ∀ (r : TRoot) S, rtOk r = true → PkI s S g l → Q (.agg ((rtC r).map .t)) S
theorem mono_made_Picks_Root (xs : List AV) (s : Store) (Q Q' : AV → Store → Prop) (hq : ∀ r t, Q r t → Q' r t) : F_made_Picks_Root xs s Q → F_made_Picks_Root xs s Q' := fun ⟨g, l, a, b, c⟩ => ⟨g, l, a, b, fun p S h1 h2 => hq _ _ (c p S h1 h2)⟩
theorem ex_made_Picks_Root (xs : List AV) (s : Store) (Q : AV → Store → Prop) : F_made_Picks_Root xs s Q → ∃ r t, Q r t := fun ⟨_, _, _, b, c⟩ => ⟨_, _, c ⟨1, 0, 0, zeroP, zeroP, zeroP, 0⟩ s rfl b⟩
set_option maxHeartbeats 4000000 in
theorem body_made_Picks_Root (xs : List AV) (s : Store) (Q : AV → Store → Prop) (h : F_made_Picks_Root xs s Q) : xs.length ≤ 19 ∧ avp K_made_Picks_Root G_made_Picks_Root (Ret K_made_Picks_Root [.cell 2 31] fun r s' => ∃ s'', Sub s'' s' ∧ Q r s'') (entry xs s) := by
  obtain ⟨g, l, rfl, H0, hq⟩ := h
  refine ⟨by simp, ?_⟩
  unfold G_made_Picks_Root
  simp only [vP.down, vS.down, vE.down, qA, qB, qC, qD, qE, qF, qG, reduceIte, reduceCtorEq, qH, qI, qJ, ↓avp_condG, ↓tf_arrow, ↓ft_arrow, k_made_Picks_Root_made_Picks_Num.down, m_made_Picks_Num]
  intro g2 hg2
  have hne := H0.ne hg2
  generalize hZ : (Entry.box _ false : Entry) = Z
  have H1 : PkI s (s.set g2 (some Z)) g l := H0.box hg2 hne
  have f1 : (s.set g2 (some Z)).f g2 = some Z := Store.set_same _ _ _
  have keep : ∀ {S S' : Store}, PkI S S' g l → S.f g2 = some Z → S'.f g2 = some Z := fun I h => I.keep h hne
  have fin : ∀ (S : Store) (e : Entry), PkI s S g l → PkI s (S.set g2 (some e)) g l := fun S e I => I.box hg2 hne
  refine num_any H1.refl' (by omega) fun v0 S1 a0 b0 I1 => ?_
  have H2 := H1.trans I1
  have w0 : IntKind.i64.wrap (1 + v0) = 1 + v0 := IntWalk.i64_in _ (by omega)
  simp only [vP.down, vS.down, vE.down, qA, qB, qC, qD, qE, qF, qG, reduceIte, reduceCtorEq, qH, qI, qJ, ↓avp_condG, ↓tf_arrow, ↓ft_arrow, w0, k_made_Picks_Root_made_Picks_Num.down, m_made_Picks_Num]
  refine num_any H2.refl' (by omega) fun v1 S2 a1 b1 I2 => ?_
  have H3 := H2.trans I2
  try simp only [vP.down, vS.down, vE.down, qA, qB, qC, qD, qE, qF, qG, reduceIte, reduceCtorEq, qH, qI, qJ, ↓avp_condG, ↓tf_arrow, ↓ft_arrow, k_made_Picks_Root_made_Picks_Num.down, m_made_Picks_Num]
  refine num_any H3.refl' (by omega) fun v2 S3 a2 b2 I3 => ?_
  have H4 := H3.trans I3
  try simp only [vP.down, vS.down, vE.down, qA, qB, qC, qD, qE, qF, qG, reduceIte, reduceCtorEq, qH, qI, qJ, ↓avp_condG, ↓tf_arrow, ↓ft_arrow, ptC, k_made_Picks_Root_made_Picks_Num.down, m_made_Picks_Num, k_made_Picks_Root_made_Picks_Ptr.down, m_made_Picks_Ptr]
  refine ptr_any H4.refl' fun p1 S4 m1 I4 => ?_
  have H5 := H4.trans I4
  try simp only [vP.down, vS.down, vE.down, qA, qB, qC, qD, qE, qF, qG, reduceIte, reduceCtorEq, qH, qI, qJ, ↓avp_condG, ↓tf_arrow, ↓ft_arrow, ptC, k_made_Picks_Root_made_Picks_Num.down, m_made_Picks_Num, k_made_Picks_Root_made_Picks_Ptr.down, m_made_Picks_Ptr]
  refine ptr_any H5.refl' fun p2 S5 m2 I5 => ?_
  have H6 := H5.trans I5
  try simp only [vP.down, vS.down, vE.down, qA, qB, qC, qD, qE, qF, qG, reduceIte, reduceCtorEq, qH, qI, qJ, ↓avp_condG, ↓tf_arrow, ↓ft_arrow, ptC, k_made_Picks_Root_made_Picks_Num.down, m_made_Picks_Num, k_made_Picks_Root_made_Picks_Ptr.down, m_made_Picks_Ptr]
  refine ptr_any H6.refl' fun p3 S6 m3 I6 => ?_
  have H7 := H6.trans I6
  try simp only [vP.down, vS.down, vE.down, qA, qB, qC, qD, qE, qF, qG, reduceIte, reduceCtorEq, qH, qI, qJ, ↓avp_condG, ↓tf_arrow, ↓ft_arrow, k_made_Picks_Root_made_Picks_Num.down, m_made_Picks_Num]
  refine num_any H7.refl' (by omega) fun v3 S7 a3 b3 I7 => ?_
  have H8 := H7.trans I7
  have f8 := keep I7 (keep I6 (keep I5 (keep I4 (keep I3 (keep I2 (keep I1 f1))))))
  rw [← hZ] at f8
  simp only [vP.down, vS.down, vE.down, qA, qB, qC, qD, qE, qF, qG, reduceIte, reduceCtorEq, qH, qI, qJ, ↓avp_condG, ↓tf_arrow, ↓ft_arrow, f8, ptC]
  have hr : rtOk ⟨1 + v0, v1, v2, p1, p2, p3, v3⟩ = true := by
    have u : ∀ n : Int, 0 ≤ n → n < 1000 → upTo n 1073741824 = true := fun n h1 h2 => by
      rw [upTo, decide_eq_true h1, decide_eq_true (by omega)]; rfl
    show (decide (1 ≤ 1 + v0) && (upTo (1 + v0) 1073741824 && (upTo v1 1073741824 && (upTo v2 1073741824 && (upTo v3 1073741824 && (mayP p1 && (mayP p2 && (mayP p3 && true)))))))) = true
    rw [decide_eq_true (by omega), u _ (by omega) (by omega), u _ a1 (by omega), u _ a2 (by omega), u _ a3 (by omega), m1, m2, m3]; rfl
  simp only [vP.down, vS.down, vE.down, qA, qB, qC, qD, qE, qF, qG, reduceIte, reduceCtorEq, qH, qI, qJ, ↓avp_condG, ↓tf_arrow, ↓ft_arrow, vT.down, Store.set_same]
  exact ⟨_, fun _ _ h => h, hq ⟨1 + v0, v1, v2, p1, p2, p3, v3⟩ _ hr (fin S7 _ H8)⟩
noncomputable def c_made_Picks_Root : Con := .gen m_made_Picks_Root F_made_Picks_Root
theorem ok_made_Picks_Root : COk Try.prog 15 c_made_Picks_Root := fn_gok sys_made_Picks_Root mixed Try.func15 (by kernel_rfl) geq_made_Picks_Root Try.ntmps15 (by rw [Try.results15]) mono_made_Picks_Root ex_made_Picks_Root body_made_Picks_Root
end Go.Proofs.Ytofcmdkmhbbbjaa
namespace Go.Proofs.Ytofcmdkmhbbbjaa
open Go Go.Eng
set_option maxRecDepth 100000
def idH (l : List Byt) : Nat → Int
  | 0 => 0
  | i + 1 => idH l i + 1 + (((l.getD (3 * i) default).v.toNat % 50 : Nat) : Int)
def hd0 (l : List Byt) (i : Nat) : TD0 := ⟨idH l (i + 1), 1 + (((l.getD (3 * i + 1) default).v.toNat % 2 : Nat) : Int), ((l.getD (3 * i + 1) default).v.toNat : Int), ((l.getD (3 * i + 2) default).v.toNat : Int)⟩
def hdI (l : List Byt) (i : Nat) : TDset := ⟨idH l (i + 1), 1 + (((l.getD (3 * i + 1) default).v.toNat % 2 : Nat) : Int), ((l.getD (3 * i + 1) default).v.toNat : Int), ((l.getD (3 * i + 2) default).v.toNat : Int), []⟩
def hdK (l : List Byt) : Nat := min 8 (l.length / 3)
def headL (l : List Byt) : List TDset := (List.range (hdK l)).map (hdI l)
def h0T (l : List Byt) (k : Nat) : List TD0 := (List.range k).map (hd0 l)
theorem h0T_next {l : List Byt} {i : Nat} : h0T l (i + 1) = h0T l i ++ [hd0 l i] := by simp [h0T, List.range_succ]
theorem h0T_len {l : List Byt} {i : Nat} : (h0T l i).length = i := by simp [h0T]
theorem idH_bd {l : List Byt} : ∀ i, 0 ≤ idH l i ∧ idH l i ≤ 50 * (i : Int)
  | 0 => ⟨Int.le_refl _, Int.le_refl _⟩
  | i + 1 => by
    have h := idH_bd (l := l) i
    have e : idH l (i + 1) = idH l i + 1 + (((l.getD (3 * i) default).v.toNat % 50 : Nat) : Int) := rfl
    rw [e]; omega
theorem w2_h0 {S s' : Store} {v : AV} {l : List Byt} {k : Nat} (h : LV S v (h0T l k)) (hn : ∀ g, ¬ Not v g → s'.f g = none) : W2 S s' v (.t (sl ((List.range k).map (hdI l)))) := by
  rcases h with ⟨h0, rfl⟩ | ⟨g, rfl, ro, hf⟩
  · have : k = 0 := by rw [← h0T_len (l := l) (i := k), h0]; rfl
    subst this
    exact w2_nil
  · refine w2_rows hf (by rw [List.length_map]) ?_ (hn g fun h => h _ _ _ rfl)
    show (if (5 : Nat) = Cell.width TDset then decAll ((h0T l k).map Cell.enc) else none) = _
    have hw5 : (5 : Nat) = Cell.width TDset := rfl
    rw [if_pos hw5, h0T, List.map_map]
    exact decAll_map (fun i => rfl) _
theorem lv_okc17 {α : Type} [Cell α] {s : Store} {v : AV} {l : List α} (h : LV s v l) : v.okc = True := by
  rcases h with ⟨_, rfl⟩ | ⟨g, rfl, _⟩ <;> rfl
def G_law17_heads : GCode := .seq (.region [⟨(some 2), none, .assign (.const (.slice none 0 0))⟩]) (.seq (.seq .weak (.region [⟨(some 3), none, .assign (.const (.slice none 0 0))⟩])) (.seq (.seq .weak (.region [⟨(some 4), none, .assign (.const (.int .i64 0))⟩])) (.seq (.seq (.seq .weak (.region [⟨(some 5), none, .assign (.const (.int .i64 0))⟩])) (.block 0 (.loop (.seq .weak (.seq (.seq (.region [⟨(some 6), none, .move (.tmp 5)⟩, ⟨(some 7), none, .binOp .add 3 (.tmp 6) (.const (.int .i64 2)) 3⟩, ⟨(some 8), none, .move (.tmp 0)⟩, ⟨(some 9), none, .call ⟨.builtin .len, #[.tmp 8], #[22]⟩⟩, ⟨(some 10), none, .binOp .lss 3 (.tmp 7) (.tmp 9) 3⟩, ⟨(some 11), none, .move (.tmp 10)⟩, ⟨(some 12), (some (11, true)), .move (.tmp 3)⟩, ⟨(some 13), (some (11, true)), .call ⟨.builtin .len, #[.tmp 12], #[23]⟩⟩, ⟨(some 14), (some (11, true)), .binOp .lss 3 (.tmp 13) (.const (.int .i64 8)) 3⟩, ⟨(some 15), none, .pick (.tmp 11) (.tmp 14) (.const (.bool false))⟩]) (.cond (.tmp 15) (.skip) (.exit 0))) (.seq (.block 1 (.seq (.seq .weak (.region [⟨(some 18), none, .move (.tmp 4)⟩, ⟨(some 19), none, .binOp .add 3 (.tmp 18) (.const (.int .i64 1)) 3⟩, ⟨(some 20), none, .move (.tmp 0)⟩, ⟨(some 21), none, .move (.tmp 5)⟩, ⟨(some 22), none, .indexAddr 22 (.tmp 20) (.tmp 21)⟩, ⟨(some 23), none, .load 5 (.tmp 22)⟩, ⟨(some 24), none, .binOp .rem 5 (.tmp 23) (.const (.int .u8 50)) 5⟩, ⟨(some 25), none, .convert 5 3 (.tmp 24)⟩, ⟨(some 26), none, .binOp .add 3 (.tmp 19) (.tmp 25) 3⟩, ⟨(some 4), none, .assign (.tmp 26)⟩])) (.seq .weak (.region [⟨(some 27), none, .move (.tmp 3)⟩, ⟨(some 28), none, .move (.tmp 4)⟩, ⟨(some 29), none, .move (.tmp 0)⟩, ⟨(some 30), none, .move (.tmp 5)⟩, ⟨(some 31), none, .binOp .add 3 (.tmp 30) (.const (.int .i64 1)) 3⟩, ⟨(some 32), none, .indexAddr 22 (.tmp 29) (.tmp 31)⟩, ⟨(some 33), none, .load 5 (.tmp 32)⟩, ⟨(some 34), none, .binOp .rem 5 (.tmp 33) (.const (.int .u8 2)) 5⟩, ⟨(some 35), none, .convert 5 3 (.tmp 34)⟩, ⟨(some 36), none, .binOp .add 3 (.const (.int .i64 1)) (.tmp 35) 3⟩, ⟨(some 37), none, .move (.tmp 0)⟩, ⟨(some 38), none, .move (.tmp 5)⟩, ⟨(some 39), none, .binOp .add 3 (.tmp 38) (.const (.int .i64 1)) 3⟩, ⟨(some 40), none, .indexAddr 22 (.tmp 37) (.tmp 39)⟩, ⟨(some 41), none, .load 5 (.tmp 40)⟩, ⟨(some 42), none, .convert 5 3 (.tmp 41)⟩, ⟨(some 43), none, .move (.tmp 0)⟩, ⟨(some 44), none, .move (.tmp 5)⟩, ⟨(some 45), none, .binOp .add 3 (.tmp 44) (.const (.int .i64 2)) 3⟩, ⟨(some 46), none, .indexAddr 22 (.tmp 43) (.tmp 45)⟩, ⟨(some 47), none, .load 5 (.tmp 46)⟩, ⟨(some 48), none, .convert 5 3 (.tmp 47)⟩, ⟨(some 49), none, .build 36 #[(0, .tmp 28), (1, .tmp 36), (2, .tmp 42), (3, .tmp 48)]⟩, ⟨(some 50), none, .buildSlice 23 1 #[(0, .tmp 49)]⟩, ⟨(some 51), none, .call ⟨.builtin .append, #[.tmp 27, .tmp 50], #[23, 23]⟩⟩, ⟨(some 3), none, .assign (.tmp 51)⟩])))) (.region [⟨(some 16), none, .move (.tmp 5)⟩, ⟨(some 17), none, .binOp .add 3 (.tmp 16) (.const (.int .i64 3)) 3⟩, ⟨(some 5), none, .assign (.tmp 17)⟩]))))))) (.seq (.seq .weak (.region [⟨(some 52), none, .move (.tmp 3)⟩, ⟨(some 2), none, .assign (.tmp 52)⟩])) (.ret)))))
noncomputable def l_law17_heads : List (Nat × Con) := []
noncomputable abbrev K_law17_heads : Ctx := ctx (cl l_law17_heads)
theorem geq_law17_heads : gof K_law17_heads Try.f10 = some G_law17_heads.strip := by kernel_rfl
theorem sys_law17_heads : Go.Eng.Sys Try.prog K_law17_heads := sys_of' (l := []) trivial
theorem hm_law17_heads : ConMono K_law17_heads := conMono_of sys_law17_heads.con
def A_law17_heads := Arms.cons (argT (List Byt)) Arms.nil
def p_law17_heads (x : List Byt × Unit) : Prop := x.1.length ≤ 1000
def r_law17_heads (x : List Byt × Unit) : AV := .t (sl (headL x.1))
set_option maxHeartbeats 4000000 in
theorem body_law17_heads (x : List Byt × Unit) (hp : p_law17_heads x) : avp K_law17_heads G_law17_heads (Ret K_law17_heads [.tmp 2] fun v s' => Frz s' v (r_law17_heads x)) (entry (A_law17_heads.enc x) .empty) := by
  obtain ⟨l, ⟨⟩⟩ := x
  change l.length ≤ 1000 at hp
  change avp _ _ (Ret _ _ fun v s' => Frz1 s' v (sl (headL l))) (entry [.t (sl l)] .empty)
  unfold G_law17_heads
  simp only [vP.down, vS.down, vE.down, qA, qB, qC, qD, qE, qF, qG, reduceIte, reduceCtorEq, qH, qI, qJ, ↓avp_condG, ↓tf_arrow, ↓ft_arrow]
  refine weak_at [(0, .t (sl l))] .empty fewer_refl (by simp only [vP.down, vS.down, vE.down, qA, qB, qC, qD, qE, qF, qG, reduceIte, reduceCtorEq, qH, qI, qJ, ↓avp_condG, ↓tf_arrow, ↓ft_arrow, wP.down]) ?_
  simp only [vP.down, vS.down, vE.down, qA, qB, qC, qD, qE, qF, qG, reduceIte, reduceCtorEq, qH, qI, qJ, ↓avp_condG, ↓tf_arrow, ↓ft_arrow]
  refine weak_at [(0, .t (sl l)), (3, .t .nilS)] .empty fewer_refl (by simp only [vP.down, vS.down, vE.down, qA, qB, qC, qD, qE, qF, qG, reduceIte, reduceCtorEq, qH, qI, qJ, ↓avp_condG, ↓tf_arrow, ↓ft_arrow, wP.down]) ?_
  simp only [vP.down, vS.down, vE.down, qA, qB, qC, qD, qE, qF, qG, reduceIte, reduceCtorEq, qH, qI, qJ, ↓avp_condG, ↓tf_arrow, ↓ft_arrow]
  refine weak_at [(0, .t (sl l)), (3, .t .nilS), (4, .t (.int .i64 (idH l 0)))] .empty fewer_refl (by simp only [vP.down, vS.down, vE.down, qA, qB, qC, qD, qE, qF, qG, reduceIte, reduceCtorEq, qH, qI, qJ, ↓avp_condG, ↓tf_arrow, ↓ft_arrow, wP.down, idH]) ?_
  simp only [vP.down, vS.down, vE.down, qA, qB, qC, qD, qE, qF, qG, reduceIte, reduceCtorEq, qH, qI, qJ, ↓avp_condG, ↓tf_arrow, ↓ft_arrow]
  refine loop_weak hm_law17_heads (fun k σ => ∃ (i : Nat) (v : AV) (S : Store), k = hdK l - i ∧ i ≤ hdK l ∧ LV S v (h0T l i) ∧ σ = mkS [(0, .t (sl l)), (3, v), (4, .t (.int .i64 (idH l i))), (5, .t (.int .i64 (3 * i : Nat)))] S)
    ⟨0, .t .nilS, .empty, rfl, by omega, lv_nil, rfl⟩ (wk_to fewer_refl (by simp only [vP.down, vS.down, vE.down, qA, qB, qC, qD, qE, qF, qG, reduceIte, reduceCtorEq, qH, qI, qJ, ↓avp_condG, ↓tf_arrow, ↓ft_arrow, wP.down, Nat.mul_zero, Int.natCast_zero])) ?_
  rintro k _ ⟨i, v, S, rfl, hi, hv, rfl⟩
  have hk : hdK l ≤ 8 ∧ hdK l ≤ l.length / 3 ∧ (hdK l = 8 ∨ hdK l = l.length / 3) := by unfold hdK; omega
  have hlen := hv.len (C := K_law17_heads) ty_Lapi_Dset
  rw [h0T_len] at hlen
  have hstr := hv.strip
  have hokc := lv_okc17 hv
  have w2 : IntKind.i64.wrap (((3 * i : Nat) : Int) + 2) = ((3 * i + 2 : Nat) : Int) := by rw [IntWalk.i64_in _ (by omega)]; rfl
  by_cases hlt : i < hdK l
  case neg =>
    obtain rfl : i = hdK l := by omega
    have hx : headL l = (List.range (hdK l)).map (hdI l) := rfl
    by_cases c1 : 3 * hdK l + 2 < l.length
    · have c1' : ((3 * hdK l + 2 : Nat) : Int) < (l.length : Int) := by omega
      have c2 : ¬ ((hdK l : Nat) : Int) < 8 := by omega
      simp only [vP.down, vS.down, vE.down, qA, qB, qC, qD, qE, qF, qG, reduceIte, reduceCtorEq, qH, qI, qJ, ↓avp_condG, ↓tf_arrow, ↓ft_arrow, w2, c1', hlen, hstr, hokc, c2, pick_of, pick_ot]
      refine weak_at [(3, .t (sl (headL l)))] .empty fewer_empty (by
        simp only [vP.down, vS.down, vE.down, qA, qB, qC, qD, qE, qF, qG, reduceIte, reduceCtorEq, qH, qI, qJ, ↓avp_condG, ↓tf_arrow, ↓ft_arrow, wP.down]
        exact hx ▸ w2_h0 hv fun _ _ => rfl) ?_
      simp only [vP.down, vS.down, vE.down, qA, qB, qC, qD, qE, qF, qG, reduceIte, reduceCtorEq, qH, qI, qJ, ↓avp_condG, ↓tf_arrow, ↓ft_arrow]
      simp only [vP.down, vS.down, vE.down, qA, qB, qC, qD, qE, qF, qG, reduceIte, reduceCtorEq, qH, qI, qJ, ↓avp_condG, ↓tf_arrow, ↓ft_arrow, vT.down]
    · have c1' : ¬ ((3 * hdK l + 2 : Nat) : Int) < (l.length : Int) := by omega
      simp only [vP.down, vS.down, vE.down, qA, qB, qC, qD, qE, qF, qG, reduceIte, reduceCtorEq, qH, qI, qJ, ↓avp_condG, ↓tf_arrow, ↓ft_arrow, w2, c1', hlen, hstr, hokc, pick_of, pick_ot]
      refine weak_at [(3, .t (sl (headL l)))] .empty fewer_empty (by
        simp only [vP.down, vS.down, vE.down, qA, qB, qC, qD, qE, qF, qG, reduceIte, reduceCtorEq, qH, qI, qJ, ↓avp_condG, ↓tf_arrow, ↓ft_arrow, wP.down]
        exact hx ▸ w2_h0 hv fun _ _ => rfl) ?_
      simp only [vP.down, vS.down, vE.down, qA, qB, qC, qD, qE, qF, qG, reduceIte, reduceCtorEq, qH, qI, qJ, ↓avp_condG, ↓tf_arrow, ↓ft_arrow]
      simp only [vP.down, vS.down, vE.down, qA, qB, qC, qD, qE, qF, qG, reduceIte, reduceCtorEq, qH, qI, qJ, ↓avp_condG, ↓tf_arrow, ↓ft_arrow, vT.down]
  have c1 : ((3 * i + 2 : Nat) : Int) < (l.length : Int) := by omega
  have c2 : ((i : Nat) : Int) < 8 := by omega
  obtain ⟨d1, d2⟩ := idH_bd (l := l) i
  have x0 := idx_at (C := K_law17_heads) (l := l) (i := 3 * i) ty_Luint8 ty_uint8 rfl (by omega) .i64
  have x1 := idx_at (C := K_law17_heads) (l := l) (i := 3 * i + 1) ty_Luint8 ty_uint8 rfl (by omega) .i64
  have x2 := idx_at (C := K_law17_heads) (l := l) (i := 3 * i + 2) ty_Luint8 ty_uint8 rfl (by omega) .i64
  have e1 : idH l (i + 1) = idH l i + 1 + (((l.getD (3 * i) default).v.toNat % 50 : Nat) : Int) := rfl
  have e2 : hd0 l i = ⟨idH l (i + 1), 1 + (((l.getD (3 * i + 1) default).v.toNat % 2 : Nat) : Int), ((l.getD (3 * i + 1) default).v.toNat : Int), ((l.getD (3 * i + 2) default).v.toNat : Int)⟩ := rfl
  have hnx := h0T_next (l := l) (i := i)
  obtain ⟨b0, hb0⟩ : ∃ b, b = (l.getD (3 * i) default).v := ⟨_, rfl⟩
  obtain ⟨b1, hb1⟩ : ∃ b, b = (l.getD (3 * i + 1) default).v := ⟨_, rfl⟩
  obtain ⟨b2, hb2⟩ : ∃ b, b = (l.getD (3 * i + 2) default).v := ⟨_, rfl⟩
  rw [← hb0] at e1
  rw [← hb1, ← hb2] at e2
  have k0 := b0.toNat_lt
  have k1 := b1.toNat_lt
  have k2 := b2.toNat_lt
  have m0 : (b0.toNat : Int).tmod 50 = ((b0.toNat % 50 : Nat) : Int) := by
    rw [Int.tmod_eq_emod_of_nonneg (by omega)]; exact (Int.natCast_emod _ _).symm
  have m1 : (b1.toNat : Int).tmod 2 = ((b1.toNat % 2 : Nat) : Int) := by
    rw [Int.tmod_eq_emod_of_nonneg (by omega)]; exact (Int.natCast_emod _ _).symm
  have y0 : IntKind.i64.wrap ((b0.toNat % 50 : Nat) : Int) = ((b0.toNat % 50 : Nat) : Int) := IntWalk.i64_in _ (by omega)
  have y1 : IntKind.i64.wrap ((b1.toNat % 2 : Nat) : Int) = ((b1.toNat % 2 : Nat) : Int) := IntWalk.i64_in _ (by omega)
  have y2 : IntKind.i64.wrap (b1.toNat : Int) = (b1.toNat : Int) := IntWalk.i64_in _ (by omega)
  have y3 : IntKind.i64.wrap (b2.toNat : Int) = (b2.toNat : Int) := IntWalk.i64_in _ (by omega)
  have y4 : IntKind.i64.wrap (idH l i + 1) = idH l i + 1 := IntWalk.i64_in _ (by omega)
  have y5 : IntKind.i64.wrap (idH l i + 1 + ((b0.toNat % 50 : Nat) : Int)) = idH l (i + 1) := by rw [e1, IntWalk.i64_in _ (by omega)]
  have y6 : IntKind.i64.wrap (1 + ((b1.toNat % 2 : Nat) : Int)) = 1 + ((b1.toNat % 2 : Nat) : Int) := IntWalk.i64_in _ (by omega)
  have z1 : IntKind.i64.wrap (((3 * i : Nat) : Int) + 1) = ((3 * i + 1 : Nat) : Int) := by rw [IntWalk.i64_in _ (by omega)]; rfl
  have z3 : IntKind.i64.wrap (((3 * i : Nat) : Int) + 3) = ((3 * (i + 1) : Nat) : Int) := by rw [IntWalk.i64_in _ (by omega)]; omega
  simp only [vP.down, vS.down, vE.down, qA, qB, qC, qD, qE, qF, qG, reduceIte, reduceCtorEq, qH, qI, qJ, ↓avp_condG, ↓tf_arrow, ↓ft_arrow, w2, c1, hlen, hstr, hokc, c2, pick_of, pick_ot]
  refine weak_at [(0, .t (sl l)), (3, v), (4, .t (.int .i64 (idH l i))), (5, .t (.int .i64 (3 * i : Nat)))] S fewer_refl (by simp only [vP.down, vS.down, vE.down, qA, qB, qC, qD, qE, qF, qG, reduceIte, reduceCtorEq, qH, qI, qJ, ↓avp_condG, ↓tf_arrow, ↓ft_arrow, wP.down]) ?_
  simp only [vP.down, vS.down, vE.down, qA, qB, qC, qD, qE, qF, qG, reduceIte, reduceCtorEq, qH, qI, qJ, ↓avp_condG, ↓tf_arrow, ↓ft_arrow, x0, ← hb0, m0, y0, y4, y5]
  refine weak_at [(0, .t (sl l)), (3, v), (4, .t (.int .i64 (idH l (i + 1)))), (5, .t (.int .i64 (3 * i : Nat)))] S fewer_refl (by simp only [vP.down, vS.down, vE.down, qA, qB, qC, qD, qE, qF, qG, reduceIte, reduceCtorEq, qH, qI, qJ, ↓avp_condG, ↓tf_arrow, ↓ft_arrow, wP.down]) ?_
  simp only [vP.down, vS.down, vE.down, qA, qB, qC, qD, qE, qF, qG, reduceIte, reduceCtorEq, qH, qI, qJ, ↓avp_condG, ↓tf_arrow, ↓ft_arrow, z1, w2, x1, x2, ← hb1, ← hb2, m1, y1, y2, y3, y6]
  intro g hg
  refine append_lv (α := TD0) ty_Lapi_Dset ty_api_Dset rfl (by decide) (hv.fresh hg) (shows_one (x := (⟨idH l (i + 1), 1 + ((b1.toNat % 2 : Nat) : Int), (b1.toNat : Int), (b2.toNat : Int)⟩ : TD0)) rfl rfl rfl) (by rw [h0T_len]; simp; omega) (by rw [h0T_len]; simp; omega) fun v' S' hv' _ _ => ?_
  rw [← e2, ← hnx] at hv'
  exact round_to (hdK l - (i + 1)) [(0, .t (sl l)), (3, v'), (4, .t (.int .i64 (idH l (i + 1)))), (5, .t (.int .i64 (3 * (i + 1) : Nat)))] S' (by omega) fewer_refl (by simp only [vP.down, vS.down, vE.down, qA, qB, qC, qD, qE, qF, qG, reduceIte, reduceCtorEq, qH, qI, qJ, ↓avp_condG, ↓tf_arrow, ↓ft_arrow, wP.down, z3]) ⟨i + 1, v', S', rfl, by omega, hv', rfl⟩
noncomputable def c_law17_heads : Con := fnCon A_law17_heads p_law17_heads r_law17_heads
theorem ok_law17_heads : COk Try.prog 10 c_law17_heads := fn_ok sys_law17_heads mixed Try.func10 (by kernel_rfl) geq_law17_heads Try.ntmps10 (by rw [Try.results10]) fun x hx => ⟨Nat.le_of_ble_eq_true rfl, body_law17_heads x hx⟩
end Go.Proofs.Ytofcmdkmhbbbjaa
