/-
  Roots as loads.
-/
import Derived.Test.YtofcmdkmhbbbjaaFnsG
set_option linter.unusedSimpArgs false
set_option linter.unusedVariables false
open Nat renaming reduceEqDiff → qA, reduceAdd → qB, reduceSub → qC, reduceMul → qD, reduceLeDiff → qE, reduceLT → qF
open Int renaming reduceToNat → qG, reduceEq → qH, reduceLT → qI, reduceLE → qJ
namespace Go.Proofs.Ytofcmdkmhbbbjaa
open Go Go.Eng
set_option maxRecDepth 100000
def H3 : List UInt8 := [52, 52, 52]
def T1 : List UInt8 := [52]
def rtOk (r : TRoot) : Bool := decide (1 ≤ r.Txg) && (upTo r.Txg 1073741824 && (upTo r.Next 1073741824 && (upTo r.Guid 1073741824 && (upTo r.KeptTxg 1073741824 && [r.Table, r.Space, r.Kept].all mayP))))
def rootB (r : TRoot) : List UInt8 := if rtOk r = true then (putF H3 [r.Txg, r.Next, r.Guid] ++ ptrsF [r.Table, r.Space, r.Kept]) ++ putF T1 [r.KeptTxg] else []
def rtC (r : TRoot) : List TV := [.int .i64 r.Txg, .int .i64 r.Next, .int .i64 r.Guid] ++ (ptC r.Table ++ (ptC r.Space ++ (ptC r.Kept ++ [.int .i64 r.KeptTxg])))
theorem decP3 {p q u : TPtr} : (argT (List TPtr)).dec (.t (.seq 6 [[.int .i64 p.Addr, .int .i64 p.Birth, .int .u32 (p.Sum.1.toNat : Int), .int .u32 (p.Sum.2.1.toNat : Int), .int .u32 (p.Sum.2.2.1.toNat : Int), .int .u32 (p.Sum.2.2.2.toNat : Int)], [.int .i64 q.Addr, .int .i64 q.Birth, .int .u32 (q.Sum.1.toNat : Int), .int .u32 (q.Sum.2.1.toNat : Int), .int .u32 (q.Sum.2.2.1.toNat : Int), .int .u32 (q.Sum.2.2.2.toNat : Int)], [.int .i64 u.Addr, .int .i64 u.Birth, .int .u32 (u.Sum.1.toNat : Int), .int .u32 (u.Sum.2.1.toNat : Int), .int .u32 (u.Sum.2.2.1.toNat : Int), .int .u32 (u.Sum.2.2.2.toNat : Int)]])) = some [p, q, u] := argT_sl (l := [p, q, u])
theorem ptrs3_ne {l : List TPtr} (h : l.all mayP = true) (hl : l.length = 3) : ptrsF l ≠ [] := fun e => by
  have h1 := ptrsB_len l
  rw [ptrsF, if_pos h] at e
  rw [e, hl] at h1
  cases h1
def G_table_Root : GCode := .seq (.region [⟨(some 1), none, .box 31 (.tmp 0)⟩, ⟨(some 2), none, .assign (.const (.string ⟨#[]⟩))⟩]) (.seq (.seq (.seq .weak (.region [⟨(some 4), none, .fieldAddr 31 (.tmp 1) 0⟩, ⟨(some 5), none, .load 3 (.tmp 4)⟩, ⟨(some 6), none, .binOp .lss 3 (.tmp 5) (.const (.int .i64 1)) 3⟩, ⟨(some 7), none, .move (.tmp 6)⟩, ⟨(some 8), (some (7, false)), .fieldAddr 31 (.tmp 1) 0⟩, ⟨(some 9), (some (7, false)), .load 3 (.tmp 8)⟩, ⟨(some 10), (some (7, false)), .call ⟨.value (.func 42), #[.tmp 9, .const (.int .i64 1073741824)], #[3, 3]⟩⟩, ⟨(some 11), (some (7, false)), .unOp .not 4 (.tmp 10)⟩, ⟨(some 12), none, .pick (.tmp 7) (.const (.bool true)) (.tmp 11)⟩, ⟨(some 13), none, .move (.tmp 12)⟩, ⟨(some 14), (some (13, false)), .fieldAddr 31 (.tmp 1) 1⟩, ⟨(some 15), (some (13, false)), .load 3 (.tmp 14)⟩, ⟨(some 16), (some (13, false)), .call ⟨.value (.func 42), #[.tmp 15, .const (.int .i64 1073741824)], #[3, 3]⟩⟩, ⟨(some 17), (some (13, false)), .unOp .not 4 (.tmp 16)⟩, ⟨(some 18), none, .pick (.tmp 13) (.const (.bool true)) (.tmp 17)⟩, ⟨(some 19), none, .move (.tmp 18)⟩, ⟨(some 20), (some (19, false)), .fieldAddr 31 (.tmp 1) 2⟩, ⟨(some 21), (some (19, false)), .load 3 (.tmp 20)⟩, ⟨(some 22), (some (19, false)), .call ⟨.value (.func 42), #[.tmp 21, .const (.int .i64 1073741824)], #[3, 3]⟩⟩, ⟨(some 23), (some (19, false)), .unOp .not 4 (.tmp 22)⟩, ⟨(some 24), none, .pick (.tmp 19) (.const (.bool true)) (.tmp 23)⟩, ⟨(some 25), none, .move (.tmp 24)⟩, ⟨(some 26), (some (25, false)), .fieldAddr 31 (.tmp 1) 6⟩, ⟨(some 27), (some (25, false)), .load 3 (.tmp 26)⟩, ⟨(some 28), (some (25, false)), .call ⟨.value (.func 42), #[.tmp 27, .const (.int .i64 1073741824)], #[3, 3]⟩⟩, ⟨(some 29), (some (25, false)), .unOp .not 4 (.tmp 28)⟩, ⟨(some 30), none, .pick (.tmp 25) (.const (.bool true)) (.tmp 29)⟩])) (.cond (.tmp 30) (.seq (.region [⟨(some 2), none, .assign (.const (.string ⟨#[]⟩))⟩]) (.ret)) (.skip))) (.seq (.seq .weak (.region [⟨(some 31), none, .fieldAddr 31 (.tmp 1) 3⟩, ⟨(some 32), none, .load 29 (.tmp 31)⟩, ⟨(some 33), none, .fieldAddr 31 (.tmp 1) 4⟩, ⟨(some 34), none, .load 29 (.tmp 33)⟩, ⟨(some 35), none, .fieldAddr 31 (.tmp 1) 5⟩, ⟨(some 36), none, .load 29 (.tmp 35)⟩, ⟨(some 37), none, .buildSlice 24 3 #[(0, .tmp 32), (1, .tmp 34), (2, .tmp 36)]⟩, ⟨(some 38), none, .call ⟨.value (.func 43), #[.tmp 37], #[24]⟩⟩, ⟨(some 3), none, .assign (.tmp 38)⟩])) (.seq (.seq (.seq .weak (.region [⟨(some 39), none, .move (.tmp 3)⟩, ⟨(some 40), none, .binOp .eql 9 (.tmp 39) (.const (.string ⟨#[]⟩)) 9⟩])) (.cond (.tmp 40) (.seq (.region [⟨(some 2), none, .assign (.const (.string ⟨#[]⟩))⟩]) (.ret)) (.skip))) (.seq (.seq .weak (.region [⟨(some 41), none, .fieldAddr 31 (.tmp 1) 0⟩, ⟨(some 42), none, .load 3 (.tmp 41)⟩, ⟨(some 43), none, .fieldAddr 31 (.tmp 1) 1⟩, ⟨(some 44), none, .load 3 (.tmp 43)⟩, ⟨(some 45), none, .fieldAddr 31 (.tmp 1) 2⟩, ⟨(some 46), none, .load 3 (.tmp 45)⟩, ⟨(some 47), none, .buildSlice 58 3 #[(0, .tmp 42), (1, .tmp 44), (2, .tmp 46)]⟩, ⟨(some 48), none, .call ⟨.value (.func 34), #[.const (.string ⟨#[52, 52, 52]⟩), .tmp 47], #[9, 58]⟩⟩, ⟨(some 49), none, .move (.tmp 3)⟩, ⟨(some 50), none, .binOp .add 9 (.tmp 48) (.tmp 49) 9⟩, ⟨(some 51), none, .fieldAddr 31 (.tmp 1) 6⟩, ⟨(some 52), none, .load 3 (.tmp 51)⟩, ⟨(some 53), none, .buildSlice 58 1 #[(0, .tmp 52)]⟩, ⟨(some 54), none, .call ⟨.value (.func 34), #[.const (.string ⟨#[52]⟩), .tmp 53], #[9, 58]⟩⟩, ⟨(some 55), none, .binOp .add 9 (.tmp 50) (.tmp 54) 9⟩, ⟨(some 2), none, .assign (.tmp 55)⟩])) (.ret)))))
noncomputable def l_table_Root : List (Nat × Con) := [(42, c_table_within), (43, c_ptr_Put), (34, c_pack_Put)]
noncomputable abbrev K_table_Root : Ctx := ctx (cl l_table_Root)
theorem geq_table_Root : gof K_table_Root Try.f16 = some G_table_Root.strip := by kernel_rfl
theorem sys_table_Root : Go.Eng.Sys Try.prog K_table_Root := sys_of' ⟨ok_table_within, ok_ptr_Put, ok_pack_Put, trivial⟩
noncomputable def k_table_Root_table_within := PLift.up (call_scal (C := K_table_Root) (f := 42) (A := A_table_within) (p := p_table_within) (r := r_table_within) rfl)
noncomputable def k_table_Root_ptr_Put := PLift.up (call_scal (C := K_table_Root) (f := 43) (A := A_ptr_Put) (p := p_ptr_Put) (r := r_ptr_Put) rfl)
noncomputable def k_table_Root_pack_Put := PLift.up (call_scal (C := K_table_Root) (f := 34) (A := A_pack_Put) (p := p_pack_Put) (r := r_pack_Put) rfl)
def A_table_Root := Arms.cons (argA TRoot) Arms.nil
def p_table_Root (_ : TRoot × Unit) : Prop := True
def r_table_Root (x : TRoot × Unit) : AV := .t (.str (rootB x.1))
set_option maxHeartbeats 4000000 in
theorem body_table_Root (x : TRoot × Unit) (_ : p_table_Root x) : avp K_table_Root G_table_Root (Ret K_table_Root [.tmp 2] fun v _ => v = r_table_Root x) (entry (A_table_Root.enc x) .empty) := by
  obtain ⟨r, ⟨⟩⟩ := x
  change avp _ _ (Ret _ _ fun v _ => v = .t (.str (rootB r))) (entry [.agg ((rtC r).map .t)] .empty)
  unfold G_table_Root
  simp only [vP.down, vS.down, vE.down, qA, qB, qC, qD, qE, qF, qG, reduceIte, reduceCtorEq, qH, qI, qJ, ↓avp_condG, ↓tf_arrow, ↓ft_arrow, rtC, ptC, List.cons_append, List.nil_append]
  intro g hg
  refine weak_at [(1, .imm (rtC r))] .empty fewer_empty (by
    simp only [vP.down, vS.down, vE.down, qA, qB, qC, qD, qE, qF, qG, reduceIte, reduceCtorEq, qH, qI, qJ, ↓avp_condG, ↓tf_arrow, ↓ft_arrow, wP.down]
    exact w2_imm (l := rtC r) (ro := false) (Store.set_same _ _ _) rfl) ?_
  simp only [vP.down, vS.down, vE.down, qA, qB, qC, qD, qE, qF, qG, reduceIte, reduceCtorEq, qH, qI, qJ, ↓avp_condG, ↓tf_arrow, ↓ft_arrow, rtC, ptC, List.cons_append, List.nil_append, pick_of, pick_ot, k_table_Root_table_within.down, A_table_within, p_table_within, r_table_within]
  refine ⟨fun hb => ?_, fun hg => ?_⟩
  · have e : rtOk r = false := by
      unfold rtOk
      rcases hb with (((hb | hb) | hb) | hb) | hb
      · rw [decide_eq_false (by omega)]; rfl
      all_goals rw [hb]; simp
    simp only [vP.down, vS.down, vE.down, qA, qB, qC, qD, qE, qF, qG, reduceIte, reduceCtorEq, qH, qI, qJ, ↓avp_condG, ↓tf_arrow, ↓ft_arrow, vT.down]
    rw [rootB, e]; rfl
  obtain ⟨⟨⟨⟨g1, g2⟩, g3⟩, g4⟩, g5⟩ := hg
  have ek : rtOk r = [r.Table, r.Space, r.Kept].all mayP := by
    rw [rtOk, decide_eq_true (by omega), g2, g3, g4, g5]; rfl
  refine weak_at [(1, .imm (rtC r))] .empty fewer_refl (by simp only [vP.down, vS.down, vE.down, qA, qB, qC, qD, qE, qF, qG, reduceIte, reduceCtorEq, qH, qI, qJ, ↓avp_condG, ↓tf_arrow, ↓ft_arrow, wP.down, rtC, ptC, List.cons_append, List.nil_append]) ?_
  have p3 : [r.Table, r.Space, r.Kept].length ≤ 1099511627776 := by show (3 : Nat) ≤ _; omega
  obtain ⟨P, hP⟩ : ∃ P, P = ptrsF [r.Table, r.Space, r.Kept] := ⟨_, rfl⟩
  simp only [vP.down, vS.down, vE.down, qA, qB, qC, qD, qE, qF, qG, reduceIte, reduceCtorEq, qH, qI, qJ, ↓avp_condG, ↓tf_arrow, ↓ft_arrow, rtC, ptC, List.cons_append, List.nil_append, decP3, p3, ← hP, k_table_Root_ptr_Put.down, A_ptr_Put, p_ptr_Put, r_ptr_Put]
  intro g7 hg7
  refine weak_at [(1, .imm (rtC r)), (3, .t (.str P))] .empty fewer_empty (by simp only [vP.down, vS.down, vE.down, qA, qB, qC, qD, qE, qF, qG, reduceIte, reduceCtorEq, qH, qI, qJ, ↓avp_condG, ↓tf_arrow, ↓ft_arrow, wP.down, rtC, ptC, List.cons_append, List.nil_append]) ?_
  clear hg7
  cases hm : [r.Table, r.Space, r.Kept].all mayP with
  | false =>
    have e : rootB r = [] := by rw [rootB, ek, hm]; rfl
    have eP : P = [] := by rw [hP, ptrsF, if_neg (by rw [hm]; simp)]
    have c1 : (P = []) = True := eq_true eP
    simp only [vP.down, vS.down, vE.down, qA, qB, qC, qD, qE, qF, qG, reduceIte, reduceCtorEq, qH, qI, qJ, ↓avp_condG, ↓tf_arrow, ↓ft_arrow, c1]
    simp only [vP.down, vS.down, vE.down, qA, qB, qC, qD, qE, qF, qG, reduceIte, reduceCtorEq, qH, qI, qJ, ↓avp_condG, ↓tf_arrow, ↓ft_arrow, vT.down, e]
  | true =>
  have e : rootB r = (putF [52, 52, 52] [r.Txg, r.Next, r.Guid] ++ P) ++ putF [52] [r.KeptTxg] := by rw [rootB, ek, hm, hP]; rfl
  have c1 : (P = []) = False := eq_false (hP ▸ ptrs3_ne hm rfl)
  have l1 := putF_len [52, 52, 52] [r.Txg, r.Next, r.Guid]
  have l2 := putF_len [52] [r.KeptTxg]
  have l3 : P.length ≤ 66 := hP ▸ ptrsF_len [r.Table, r.Space, r.Kept]
  have l4 : ([52, 52, 52] : List UInt8).length = 3 := rfl
  have l5 : ([52] : List UInt8).length = 1 := rfl
  simp only [vP.down, vS.down, vE.down, qA, qB, qC, qD, qE, qF, qG, reduceIte, reduceCtorEq, qH, qI, qJ, ↓avp_condG, ↓tf_arrow, ↓ft_arrow, c1]
  refine weak_at [(1, .imm (rtC r)), (3, .t (.str P))] .empty fewer_refl (by simp only [vP.down, vS.down, vE.down, qA, qB, qC, qD, qE, qF, qG, reduceIte, reduceCtorEq, qH, qI, qJ, ↓avp_condG, ↓tf_arrow, ↓ft_arrow, wP.down]) ?_
  simp only [vP.down, vS.down, vE.down, qA, qB, qC, qD, qE, qF, qG, reduceIte, reduceCtorEq, qH, qI, qJ, ↓avp_condG, ↓tf_arrow, ↓ft_arrow, rtC, ptC, List.cons_append, List.nil_append, decI3, decI1, k_table_Root_pack_Put.down, A_pack_Put, p_pack_Put, r_pack_Put]
  intro g8 hg8
  refine ⟨by omega, fun g9 hg9 => ⟨by rw [List.length_append]; omega, ?_⟩⟩
  simp only [vP.down, vS.down, vE.down, qA, qB, qC, qD, qE, qF, qG, reduceIte, reduceCtorEq, qH, qI, qJ, ↓avp_condG, ↓tf_arrow, ↓ft_arrow, vT.down, e]
noncomputable def c_table_Root : Con := fnScal A_table_Root p_table_Root r_table_Root
theorem ok_table_Root : COk Try.prog 16 c_table_Root := fn_sok sys_table_Root mixed Try.func16 (by kernel_rfl) geq_table_Root Try.ntmps16 (by rw [Try.results16]) (fun x => by unfold r_table_Root; simp [AV.scal]) fun x hx => ⟨Nat.le_of_ble_eq_true rfl, body_table_Root x hx⟩
end Go.Proofs.Ytofcmdkmhbbbjaa
namespace Go.Proofs.Ytofcmdkmhbbbjaa
open Go Go.Eng
set_option maxRecDepth 100000
def rtOf (s : List UInt8) : TRoot :=
  let v := takeL H3 s
  let q := takePL 3 (takeR H3 s)
  let w := takeL T1 (takePR 3 (takeR H3 s))
  ⟨v.getD 0 default, v.getD 1 default, v.getD 2 default, q.getD 0 default, q.getD 1 default, q.getD 2 default, w.getD 0 default⟩
def rt1 (s : List UInt8) : Bool := takeOk H3 s
def rt2 (s : List UInt8) : Bool := takePOk 3 (takeR H3 s)
def rt3 (s : List UInt8) : Bool := takeOk T1 (takePR 3 (takeR H3 s))
def zeroR : TRoot := ⟨0, 0, 0, zeroP, zeroP, zeroP, 0⟩
def rtTok (s : List UInt8) : Bool := rt1 s && (rt2 s && (rt3 s && decide (rootB (rtOf s) = s)))
def takeRt (s : List UInt8) : TRoot × Bool := if rtTok s = true then (rtOf s, true) else (zeroR, false)
theorem rt_no {s : List UInt8} (h : rtTok s = false) : takeRt s = (zeroR, false) := by rw [takeRt, h]; rfl
theorem only_box17 {S : Store} {g : Nat} {e : Entry} (h : S.f g = some e) : Fewer S (Store.empty.set g (some e)) := fewer_sub fun k e' hk => by
  by_cases hkg : k = g
  · subst hkg; rw [Store.set_same] at hk; rw [← hk]; exact h
  · rw [Store.set_other _ _ hkg] at hk; cases hk
theorem idx3 {C : Ctx} {T e : TypeId} {n m : Nat} {z : List TV} {α : Type} [Cell α] [Inhabited α] {l : List α} {de : TyD} (h : C.ty T = some ⟨.slice e, n, m, z⟩) (he : C.ty e = some de) (hw : de.size = Cell.width α) (hl : l.length = 3) :
    idxB C T (.t (sl l)) (.t (.int .i64 0)) = .val True (.imm (Cell.enc (l.getD 0 default))) ∧ idxB C T (.t (sl l)) (.t (.int .i64 1)) = .val True (.imm (Cell.enc (l.getD 1 default))) ∧ idxB C T (.t (sl l)) (.t (.int .i64 2)) = .val True (.imm (Cell.enc (l.getD 2 default))) :=
  ⟨idx_at (i := 0) h he hw (by omega) .i64, idx_at (i := 1) h he hw (by omega) .i64, idx_at (i := 2) h he hw (by omega) .i64⟩
abbrev zR : List AV := [.t (.int .i64 0), .t (.int .i64 0), .t (.int .i64 0), .t (.int .i64 0), .t (.int .i64 0), .t (.int .u32 0), .t (.int .u32 0), .t (.int .u32 0), .t (.int .u32 0), .t (.int .i64 0), .t (.int .i64 0), .t (.int .u32 0), .t (.int .u32 0), .t (.int .u32 0), .t (.int .u32 0), .t (.int .i64 0), .t (.int .i64 0), .t (.int .u32 0), .t (.int .u32 0), .t (.int .u32 0), .t (.int .u32 0), .t (.int .i64 0)]
def G_table_TakeRoot : GCode := .seq (.region [⟨(some 2), none, .alloc 31⟩, ⟨(some 3), none, .assign (.const (.bool false))⟩]) (.seq (.seq .weak (.region [⟨(some 12), none, .move (.tmp 0)⟩, ⟨(some 13), none, .call ⟨.value (.func 45), #[.const (.string ⟨#[52, 52, 52]⟩), .tmp 12], #[9, 9]⟩⟩, ⟨(some 11), none, .move (.tmp 13)⟩, ⟨(some 14), none, .extract (.tmp 11) 0⟩, ⟨(some 15), none, .extract (.tmp 11) 1⟩, ⟨(some 16), none, .extract (.tmp 11) 2⟩, ⟨(some 4), none, .assign (.tmp 14)⟩, ⟨(some 5), none, .assign (.tmp 15)⟩, ⟨(some 6), none, .assign (.tmp 16)⟩])) (.seq (.seq (.seq .weak (.region [⟨(some 17), none, .move (.tmp 6)⟩, ⟨(some 18), none, .unOp .not 4 (.tmp 17)⟩])) (.cond (.tmp 18) (.seq (.region [⟨(some 19), none, .build 31 #[]⟩, ⟨none, none, .store 31 (.tmp 2) (.tmp 19)⟩, ⟨(some 3), none, .assign (.const (.bool false))⟩]) (.ret)) (.skip))) (.seq (.seq .weak (.region [⟨(some 21), none, .move (.tmp 5)⟩, ⟨(some 22), none, .call ⟨.value (.func 46), #[.tmp 21, .const (.int .i64 3)], #[9, 3]⟩⟩, ⟨(some 20), none, .move (.tmp 22)⟩, ⟨(some 23), none, .extract (.tmp 20) 0⟩, ⟨(some 24), none, .extract (.tmp 20) 1⟩, ⟨(some 25), none, .extract (.tmp 20) 2⟩, ⟨(some 7), none, .assign (.tmp 23)⟩, ⟨(some 5), none, .assign (.tmp 24)⟩, ⟨(some 6), none, .assign (.tmp 25)⟩])) (.seq (.seq (.seq .weak (.region [⟨(some 26), none, .move (.tmp 6)⟩, ⟨(some 27), none, .unOp .not 4 (.tmp 26)⟩])) (.cond (.tmp 27) (.seq (.region [⟨(some 28), none, .build 31 #[]⟩, ⟨none, none, .store 31 (.tmp 2) (.tmp 28)⟩, ⟨(some 3), none, .assign (.const (.bool false))⟩]) (.ret)) (.skip))) (.seq (.seq .weak (.region [⟨(some 30), none, .move (.tmp 5)⟩, ⟨(some 31), none, .call ⟨.value (.func 45), #[.const (.string ⟨#[52]⟩), .tmp 30], #[9, 9]⟩⟩, ⟨(some 29), none, .move (.tmp 31)⟩, ⟨(some 32), none, .extract (.tmp 29) 0⟩, ⟨(some 33), none, .extract (.tmp 29) 1⟩, ⟨(some 34), none, .extract (.tmp 29) 2⟩, ⟨(some 8), none, .assign (.tmp 32)⟩, ⟨(some 9), none, .assign (.tmp 33)⟩, ⟨(some 6), none, .assign (.tmp 34)⟩])) (.seq (.seq (.seq .weak (.region [⟨(some 35), none, .move (.tmp 6)⟩, ⟨(some 36), none, .unOp .not 4 (.tmp 35)⟩])) (.cond (.tmp 36) (.seq (.region [⟨(some 37), none, .build 31 #[]⟩, ⟨none, none, .store 31 (.tmp 2) (.tmp 37)⟩, ⟨(some 3), none, .assign (.const (.bool false))⟩]) (.ret)) (.skip))) (.seq (.seq .weak (.region [⟨(some 38), none, .move (.tmp 4)⟩, ⟨(some 39), none, .indexAddr 58 (.tmp 38) (.const (.int .i64 0))⟩, ⟨(some 40), none, .load 3 (.tmp 39)⟩, ⟨(some 41), none, .move (.tmp 4)⟩, ⟨(some 42), none, .indexAddr 58 (.tmp 41) (.const (.int .i64 1))⟩, ⟨(some 43), none, .load 3 (.tmp 42)⟩, ⟨(some 44), none, .move (.tmp 4)⟩, ⟨(some 45), none, .indexAddr 58 (.tmp 44) (.const (.int .i64 2))⟩, ⟨(some 46), none, .load 3 (.tmp 45)⟩, ⟨(some 47), none, .move (.tmp 7)⟩, ⟨(some 48), none, .indexAddr 24 (.tmp 47) (.const (.int .i64 0))⟩, ⟨(some 49), none, .load 29 (.tmp 48)⟩, ⟨(some 50), none, .move (.tmp 7)⟩, ⟨(some 51), none, .indexAddr 24 (.tmp 50) (.const (.int .i64 1))⟩, ⟨(some 52), none, .load 29 (.tmp 51)⟩, ⟨(some 53), none, .move (.tmp 7)⟩, ⟨(some 54), none, .indexAddr 24 (.tmp 53) (.const (.int .i64 2))⟩, ⟨(some 55), none, .load 29 (.tmp 54)⟩, ⟨(some 56), none, .move (.tmp 8)⟩, ⟨(some 57), none, .indexAddr 58 (.tmp 56) (.const (.int .i64 0))⟩, ⟨(some 58), none, .load 3 (.tmp 57)⟩, ⟨(some 59), none, .build 31 #[(0, .tmp 40), (1, .tmp 43), (2, .tmp 46), (3, .tmp 49), (4, .tmp 52), (5, .tmp 55), (6, .tmp 58)]⟩, ⟨(some 10), none, .alloc 31⟩, ⟨none, none, .store 31 (.tmp 10) (.tmp 59)⟩])) (.seq (.seq (.seq .weak (.region [⟨(some 60), none, .load 31 (.tmp 10)⟩, ⟨(some 61), none, .call ⟨.value (.func 16), #[.tmp 60], #[31]⟩⟩, ⟨(some 62), none, .move (.tmp 0)⟩, ⟨(some 63), none, .binOp .neq 9 (.tmp 61) (.tmp 62) 9⟩])) (.cond (.tmp 63) (.seq (.region [⟨(some 64), none, .build 31 #[]⟩, ⟨none, none, .store 31 (.tmp 2) (.tmp 64)⟩, ⟨(some 3), none, .assign (.const (.bool false))⟩]) (.ret)) (.skip))) (.seq (.seq .weak (.region [⟨(some 65), none, .load 31 (.tmp 10)⟩, ⟨none, none, .store 31 (.tmp 2) (.tmp 65)⟩, ⟨(some 3), none, .assign (.const (.bool true))⟩])) (.ret))))))))))
noncomputable def l_table_TakeRoot : List (Nat × Con) := [(45, c_pack_Take), (46, c_ptr_Take), (16, c_table_Root)]
noncomputable abbrev K_table_TakeRoot : Ctx := ctx (cl l_table_TakeRoot)
theorem geq_table_TakeRoot : gof K_table_TakeRoot Try.f20 = some G_table_TakeRoot.strip := by kernel_rfl
theorem sys_table_TakeRoot : Go.Eng.Sys Try.prog K_table_TakeRoot := sys_of' ⟨ok_pack_Take, ok_ptr_Take, ok_table_Root, trivial⟩
noncomputable def k_table_TakeRoot_pack_Take := PLift.up (call_fn (C := K_table_TakeRoot) (f := 45) (A := A_pack_Take) (p := p_pack_Take) (r := r_pack_Take) rfl)
noncomputable def k_table_TakeRoot_ptr_Take := PLift.up (call_fn (C := K_table_TakeRoot) (f := 46) (A := A_ptr_Take) (p := p_ptr_Take) (r := r_ptr_Take) rfl)
noncomputable def k_table_TakeRoot_table_Root := PLift.up (call_scal (C := K_table_TakeRoot) (f := 16) (A := A_table_Root) (p := p_table_Root) (r := r_table_Root) rfl)
def A_table_TakeRoot := Arms.cons (argT (List UInt8)) Arms.nil
def p_table_TakeRoot (x : List UInt8 × Unit) : Prop := x.1.length ≤ 1000000
def r_table_TakeRoot (x : List UInt8 × Unit) : AV := .tup [.agg ((rtC (takeRt x.1).1).map .t), .t (.bool (takeRt x.1).2)]
set_option maxHeartbeats 4000000 in
theorem body_table_TakeRoot (x : List UInt8 × Unit) (hp : p_table_TakeRoot x) : avp K_table_TakeRoot G_table_TakeRoot (Ret K_table_TakeRoot [.cell 2 31, .tmp 3] fun v s' => Frz s' v (r_table_TakeRoot x)) (entry (A_table_TakeRoot.enc x) .empty) := by
  obtain ⟨s, ⟨⟩⟩ := x
  change s.length ≤ 1000000 at hp
  change avp _ _ (Ret _ _ fun v s' => Frz s' v (.tup [.agg ((rtC (takeRt s).1).map .t), .t (.bool (takeRt s).2)])) (entry [.t (.str s)] .empty)
  have hH : ([52, 52, 52] : List UInt8) = H3 := rfl
  have hT : ([52] : List UInt8) = T1 := rfl
  have ph : H3.length ≤ 1099511627776 := by decide
  have pt : T1.length ≤ 1099511627776 := by decide
  have p1 : s.length ≤ 1099511627776 := by omega
  have p2 : (takeR H3 s).length ≤ 1099511627776 := by have := takeR_len (f := H3) (s := s); omega
  have p3 : (takePR 3 (takeR H3 s)).length ≤ 1099511627776 := by have := takePR_len (n := 3) (s := takeR H3 s); omega
  have pn : (3 : Int) ≤ 1048576 := by omega
  have ek : rtTok s = (rt1 s && (rt2 s && (rt3 s && decide (rootB (rtOf s) = s)))) := rfl
  have u0 : ((UInt32.toNat 0 : Nat) : Int) = 0 := rfl
  unfold G_table_TakeRoot
  simp only [vP.down, vS.down, vE.down, qA, qB, qC, qD, qE, qF, qG, reduceIte, reduceCtorEq, qH, qI, qJ, ↓avp_condG, ↓tf_arrow, ↓ft_arrow, ↓hH]
  intro g2 hg2
  have hz : ((([.int .i64 0, .int .i64 0, .int .i64 0, .int .i64 0, .int .i64 0, .int .u32 0, .int .u32 0, .int .u32 0, .int .u32 0, .int .i64 0, .int .i64 0, .int .u32 0, .int .u32 0, .int .u32 0, .int .u32 0, .int .i64 0, .int .i64 0, .int .u32 0, .int .u32 0, .int .u32 0, .int .u32 0, .int .i64 0] : List TV).map AV.t)) = zR := rfl
  refine weak_at [(0, .t (.str s)), (2, .ptr g2 0)] (Store.empty.set g2 (some (.box zR false))) fewer_refl (by simp only [vP.down, vS.down, vE.down, qA, qB, qC, qD, qE, qF, qG, reduceIte, reduceCtorEq, qH, qI, qJ, ↓avp_condG, ↓tf_arrow, ↓ft_arrow, wP.down]) ?_
  simp only [vP.down, vS.down, vE.down, qA, qB, qC, qD, qE, qF, qG, reduceIte, reduceCtorEq, qH, qI, qJ, ↓avp_condG, ↓tf_arrow, ↓ft_arrow, p1, ph, ↓hH, hT, k_table_TakeRoot_pack_Take.down, A_pack_Take, p_pack_Take, r_pack_Take]
  refine weak_at [(0, .t (.str s)), (2, .ptr g2 0), (4, .t (sl (takeL H3 s))), (5, .t (.str (takeR H3 s))), (6, .t (.bool (takeOk H3 s)))] (Store.empty.set g2 (some (.box zR false))) fewer_refl (by simp only [vP.down, vS.down, vE.down, qA, qB, qC, qD, qE, qF, qG, reduceIte, reduceCtorEq, qH, qI, qJ, ↓avp_condG, ↓tf_arrow, ↓ft_arrow, wP.down]) ?_
  cases h1 : takeOk H3 s with
  | false =>
    have e := rt_no (ek.trans (by rw [rt1, h1]; rfl))
    simp only [vP.down, vS.down, vE.down, qA, qB, qC, qD, qE, qF, qG, reduceIte, reduceCtorEq, qH, qI, qJ, ↓avp_condG, ↓tf_arrow, ↓ft_arrow, Store.set_same]
    simp only [vP.down, vS.down, vE.down, qA, qB, qC, qD, qE, qF, qG, reduceIte, reduceCtorEq, qH, qI, qJ, ↓avp_condG, ↓tf_arrow, ↓ft_arrow, vT.down, Store.set_same, e, u0, rtC, ptC, zeroR, zeroP, List.cons_append, List.nil_append]
  | true =>
  simp only [vP.down, vS.down, vE.down, qA, qB, qC, qD, qE, qF, qG, reduceIte, reduceCtorEq, qH, qI, qJ, ↓avp_condG, ↓tf_arrow, ↓ft_arrow]
  refine weak_at [(0, .t (.str s)), (2, .ptr g2 0), (4, .t (sl (takeL H3 s))), (5, .t (.str (takeR H3 s)))] (Store.empty.set g2 (some (.box zR false))) fewer_refl (by simp only [vP.down, vS.down, vE.down, qA, qB, qC, qD, qE, qF, qG, reduceIte, reduceCtorEq, qH, qI, qJ, ↓avp_condG, ↓tf_arrow, ↓ft_arrow, wP.down]) ?_
  simp only [vP.down, vS.down, vE.down, qA, qB, qC, qD, qE, qF, qG, reduceIte, reduceCtorEq, qH, qI, qJ, ↓avp_condG, ↓tf_arrow, ↓ft_arrow, p2, pn, show ((3 : Int)).toNat = 3 from rfl, k_table_TakeRoot_ptr_Take.down, A_ptr_Take, p_ptr_Take, r_ptr_Take]
  refine weak_at [(0, .t (.str s)), (2, .ptr g2 0), (4, .t (sl (takeL H3 s))), (5, .t (.str (takePR 3 (takeR H3 s)))), (6, .t (.bool (takePOk 3 (takeR H3 s)))), (7, .t (sl (takePL 3 (takeR H3 s))))] (Store.empty.set g2 (some (.box zR false))) fewer_refl (by simp only [vP.down, vS.down, vE.down, qA, qB, qC, qD, qE, qF, qG, reduceIte, reduceCtorEq, qH, qI, qJ, ↓avp_condG, ↓tf_arrow, ↓ft_arrow, wP.down]) ?_
  cases h2 : takePOk 3 (takeR H3 s) with
  | false =>
    have e := rt_no (ek.trans (by rw [rt2, h2, Bool.false_and, Bool.and_false]))
    simp only [vP.down, vS.down, vE.down, qA, qB, qC, qD, qE, qF, qG, reduceIte, reduceCtorEq, qH, qI, qJ, ↓avp_condG, ↓tf_arrow, ↓ft_arrow, Store.set_same]
    simp only [vP.down, vS.down, vE.down, qA, qB, qC, qD, qE, qF, qG, reduceIte, reduceCtorEq, qH, qI, qJ, ↓avp_condG, ↓tf_arrow, ↓ft_arrow, vT.down, Store.set_same, e, u0, rtC, ptC, zeroR, zeroP, List.cons_append, List.nil_append]
  | true =>
  simp only [vP.down, vS.down, vE.down, qA, qB, qC, qD, qE, qF, qG, reduceIte, reduceCtorEq, qH, qI, qJ, ↓avp_condG, ↓tf_arrow, ↓ft_arrow]
  refine weak_at [(0, .t (.str s)), (2, .ptr g2 0), (4, .t (sl (takeL H3 s))), (5, .t (.str (takePR 3 (takeR H3 s)))), (7, .t (sl (takePL 3 (takeR H3 s))))] (Store.empty.set g2 (some (.box zR false))) fewer_refl (by simp only [vP.down, vS.down, vE.down, qA, qB, qC, qD, qE, qF, qG, reduceIte, reduceCtorEq, qH, qI, qJ, ↓avp_condG, ↓tf_arrow, ↓ft_arrow, wP.down]) ?_
  simp only [vP.down, vS.down, vE.down, qA, qB, qC, qD, qE, qF, qG, reduceIte, reduceCtorEq, qH, qI, qJ, ↓avp_condG, ↓tf_arrow, ↓ft_arrow, p3, pt, k_table_TakeRoot_pack_Take.down, A_pack_Take, p_pack_Take, r_pack_Take]
  refine weak_at [(0, .t (.str s)), (2, .ptr g2 0), (4, .t (sl (takeL H3 s))), (6, .t (.bool (takeOk T1 (takePR 3 (takeR H3 s))))), (7, .t (sl (takePL 3 (takeR H3 s)))), (8, .t (sl (takeL T1 (takePR 3 (takeR H3 s)))))] (Store.empty.set g2 (some (.box zR false))) fewer_refl (by simp only [vP.down, vS.down, vE.down, qA, qB, qC, qD, qE, qF, qG, reduceIte, reduceCtorEq, qH, qI, qJ, ↓avp_condG, ↓tf_arrow, ↓ft_arrow, wP.down]) ?_
  cases h3 : takeOk T1 (takePR 3 (takeR H3 s)) with
  | false =>
    have e := rt_no (ek.trans (by rw [rt3, h3, Bool.false_and, Bool.and_false, Bool.and_false]))
    simp only [vP.down, vS.down, vE.down, qA, qB, qC, qD, qE, qF, qG, reduceIte, reduceCtorEq, qH, qI, qJ, ↓avp_condG, ↓tf_arrow, ↓ft_arrow, Store.set_same]
    simp only [vP.down, vS.down, vE.down, qA, qB, qC, qD, qE, qF, qG, reduceIte, reduceCtorEq, qH, qI, qJ, ↓avp_condG, ↓tf_arrow, ↓ft_arrow, vT.down, Store.set_same, e, u0, rtC, ptC, zeroR, zeroP, List.cons_append, List.nil_append]
  | true =>
  simp only [vP.down, vS.down, vE.down, qA, qB, qC, qD, qE, qF, qG, reduceIte, reduceCtorEq, qH, qI, qJ, ↓avp_condG, ↓tf_arrow, ↓ft_arrow]
  refine weak_at [(0, .t (.str s)), (2, .ptr g2 0), (4, .t (sl (takeL H3 s))), (7, .t (sl (takePL 3 (takeR H3 s)))), (8, .t (sl (takeL T1 (takePR 3 (takeR H3 s)))))] (Store.empty.set g2 (some (.box zR false))) fewer_refl (by simp only [vP.down, vS.down, vE.down, qA, qB, qC, qD, qE, qF, qG, reduceIte, reduceCtorEq, qH, qI, qJ, ↓avp_condG, ↓tf_arrow, ↓ft_arrow, wP.down]) ?_
  have ek2 : rtTok s = decide (rootB (rtOf s) = s) := by rw [ek, rt1, rt2, rt3, h1, h2, h3]; rfl
  have er : rtOf s = ⟨(takeL H3 s).getD 0 default, (takeL H3 s).getD 1 default, (takeL H3 s).getD 2 default, (takePL 3 (takeR H3 s)).getD 0 default, (takePL 3 (takeR H3 s)).getD 1 default, (takePL 3 (takeR H3 s)).getD 2 default, (takeL T1 (takePR 3 (takeR H3 s))).getD 0 default⟩ := rfl
  have b1 : (takeL H3 s).length = 3 := takeL_len' h1
  have b2 : (takePL 3 (takeR H3 s)).length = 3 := takePL_len h2
  have b3 : (takeL T1 (takePR 3 (takeR H3 s))).length = 1 := takeL_len' h3
  obtain ⟨v, hv⟩ : ∃ v, v = takeL H3 s := ⟨_, rfl⟩
  obtain ⟨q, hq⟩ : ∃ v, v = takePL 3 (takeR H3 s) := ⟨_, rfl⟩
  obtain ⟨w, hw⟩ : ∃ v, v = takeL T1 (takePR 3 (takeR H3 s)) := ⟨_, rfl⟩
  rw [← hv, ← hq, ← hw] at er
  rw [← hv] at b1
  rw [← hq] at b2
  rw [← hw] at b3
  rw [← hv, ← hq, ← hw]
  obtain ⟨y0, y1, y2⟩ := idx3 (C := K_table_TakeRoot) (l := v) ty_Lint ty_int rfl b1
  obtain ⟨z0, z1, z2⟩ := idx3 (C := K_table_TakeRoot) (l := q) ty_Lapi_Ptr ty_api_Ptr rfl b2
  have w0 : idxB K_table_TakeRoot 58 (.t (sl w)) (.t (.int .i64 0)) = .val True (.imm (Cell.enc (w.getD 0 default))) := idx_at (i := 0) ty_Lint ty_int rfl (by omega) .i64
  obtain ⟨q0, e0⟩ : ∃ x, x = q.getD 0 default := ⟨_, rfl⟩
  obtain ⟨q1, e1⟩ : ∃ x, x = q.getD 1 default := ⟨_, rfl⟩
  obtain ⟨q2, e2⟩ : ∃ x, x = q.getD 2 default := ⟨_, rfl⟩
  rw [← e0] at z0 er
  rw [← e1] at z1 er
  rw [← e2] at z2 er
  obtain ⟨v0, f0⟩ : ∃ x, x = v.getD 0 default := ⟨_, rfl⟩
  obtain ⟨v1, f1⟩ : ∃ x, x = v.getD 1 default := ⟨_, rfl⟩
  obtain ⟨v2, f2⟩ : ∃ x, x = v.getD 2 default := ⟨_, rfl⟩
  obtain ⟨v3, f3⟩ : ∃ x, x = w.getD 0 default := ⟨_, rfl⟩
  rw [← f0] at y0 er
  rw [← f1] at y1 er
  rw [← f2] at y2 er
  rw [← f3] at w0 er
  simp only [vP.down, vS.down, vE.down, qA, qB, qC, qD, qE, qF, qG, reduceIte, reduceCtorEq, qH, qI, qJ, ↓avp_condG, ↓tf_arrow, ↓ft_arrow, y0, y1, y2, z0, z1, z2, w0]
  intro g10 hg10
  have n1 := Store.ne_new hg10
  obtain ⟨R, hR⟩ : ∃ R, R = rtOf s := ⟨_, rfl⟩
  have hRe : R = ⟨v0, v1, v2, q0, q1, q2, v3⟩ := hR.trans er
  refine weak_at [(0, .t (.str s)), (2, .ptr g2 0), (10, .imm (rtC ⟨v0, v1, v2, q0, q1, q2, v3⟩))] (Store.empty.set g2 (some (.box zR false))) (only_box17 ((Store.set_other _ _ n1.symm).trans (Store.set_same _ _ _))) (by
    simp only [vP.down, vS.down, vE.down, qA, qB, qC, qD, qE, qF, qG, reduceIte, reduceCtorEq, qH, qI, qJ, ↓avp_condG, ↓tf_arrow, ↓ft_arrow, wP.down]
    exact w2_imm (l := rtC ⟨v0, v1, v2, q0, q1, q2, v3⟩) (ro := false) (Store.set_same _ _ _) (Store.set_other _ _ n1)) ?_
  rw [← hRe]
  rw [← hR] at ek2
  clear er hRe y0 y1 y2 z0 z1 z2 w0 hg10 n1
  cases hk : rtTok s with
  | false =>
    have e4 := of_decide_eq_false (ek2.symm.trans hk)
    have e := rt_no hk
    simp only [vP.down, vS.down, vE.down, qA, qB, qC, qD, qE, qF, qG, reduceIte, reduceCtorEq, qH, qI, qJ, ↓avp_condG, ↓tf_arrow, ↓ft_arrow, rtC, ptC, List.cons_append, List.nil_append, e4, not_false_eq_true, true_implies, false_implies, Store.set_same, k_table_TakeRoot_table_Root.down, A_table_Root, p_table_Root, r_table_Root]
    simp only [vP.down, vS.down, vE.down, qA, qB, qC, qD, qE, qF, qG, reduceIte, reduceCtorEq, qH, qI, qJ, ↓avp_condG, ↓tf_arrow, ↓ft_arrow, vT.down, Store.set_same, e, u0, rtC, ptC, zeroR, zeroP, List.cons_append, List.nil_append]
  | true =>
    have e4 := of_decide_eq_true (ek2.symm.trans hk)
    have e : takeRt s = (R, true) := by rw [takeRt, hk, hR]; rfl
    simp only [vP.down, vS.down, vE.down, qA, qB, qC, qD, qE, qF, qG, reduceIte, reduceCtorEq, qH, qI, qJ, ↓avp_condG, ↓tf_arrow, ↓ft_arrow, rtC, ptC, List.cons_append, List.nil_append, e4, bne_self_eq_false, k_table_TakeRoot_table_Root.down, A_table_Root, p_table_Root, r_table_Root]
    refine weak_at [(2, .ptr g2 0), (10, .imm (rtC R))] (Store.empty.set g2 (some (.box zR false))) fewer_refl (by simp only [vP.down, vS.down, vE.down, qA, qB, qC, qD, qE, qF, qG, reduceIte, reduceCtorEq, qH, qI, qJ, ↓avp_condG, ↓tf_arrow, ↓ft_arrow, wP.down, rtC, ptC, List.cons_append, List.nil_append]) ?_
    simp only [vP.down, vS.down, vE.down, qA, qB, qC, qD, qE, qF, qG, reduceIte, reduceCtorEq, qH, qI, qJ, ↓avp_condG, ↓tf_arrow, ↓ft_arrow, rtC, ptC, List.cons_append, List.nil_append, Store.set_same]
    simp only [vP.down, vS.down, vE.down, qA, qB, qC, qD, qE, qF, qG, reduceIte, reduceCtorEq, qH, qI, qJ, ↓avp_condG, ↓tf_arrow, ↓ft_arrow, vT.down, Store.set_same, e, u0, rtC, ptC, zeroR, zeroP, List.cons_append, List.nil_append]
noncomputable def c_table_TakeRoot : Con := fnCon A_table_TakeRoot p_table_TakeRoot r_table_TakeRoot
theorem ok_table_TakeRoot : COk Try.prog 20 c_table_TakeRoot := fn_ok sys_table_TakeRoot mixed Try.func20 (by kernel_rfl) geq_table_TakeRoot Try.ntmps20 (by rw [Try.results20]) fun x hx => ⟨Nat.le_of_ble_eq_true rfl, body_table_TakeRoot x hx⟩
end Go.Proofs.Ytofcmdkmhbbbjaa
namespace Go.Proofs.Ytofcmdkmhbbbjaa
open Go Go.Eng
set_option maxRecDepth 100000
end Go.Proofs.Ytofcmdkmhbbbjaa
namespace Go.Proofs.Ytofcmdkmhbbbjaa
open Go Go.Eng
set_option maxRecDepth 100000
end Go.Proofs.Ytofcmdkmhbbbjaa
namespace Go.Proofs.Ytofcmdkmhbbbjaa
open Go Go.Eng
set_option maxRecDepth 100000
theorem PkI.same {s S : Store} {g : Nat} {l : List Byt} (h : PkI s s g l) (hf : ∀ k e, s.f k = some e → S.f k = some e) : PkI s S g l := by
  obtain ⟨n, a, b, c, _⟩ := h
  exact ⟨n, hf _ _ a, b, c, fun k e _ hs => hf k e hs⟩
end Go.Proofs.Ytofcmdkmhbbbjaa
namespace Go.Proofs.Ytofcmdkmhbbbjaa
open Go Go.Eng
set_option maxRecDepth 100000
def idH (l : List Byt) : Nat → Int
  | 0 => 0
  | i + 1 => idH l i + 1 + (((l.getD (3 * i) default).v.toNat % 50 : Nat) : Int)
def hd0 (l : List Byt) (i : Nat) : TD0 := ⟨idH l (i + 1), 1 + (((l.getD (3 * i + 1) default).v.toNat % 2 : Nat) : Int), ((l.getD (3 * i + 1) default).v.toNat : Int), ((l.getD (3 * i + 2) default).v.toNat : Int)⟩
end Go.Proofs.Ytofcmdkmhbbbjaa
