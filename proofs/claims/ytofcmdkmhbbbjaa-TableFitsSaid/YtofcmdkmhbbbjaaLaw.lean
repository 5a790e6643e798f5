/-
  TableFits.
-/
import Derived.Test.YtofcmdkmhbbbjaaFnsI
set_option linter.unusedSimpArgs false
set_option linter.unusedVariables false
set_option maxRecDepth 100000
open Nat renaming reduceEqDiff → qA, reduceAdd → qB, reduceSub → qC, reduceMul → qD, reduceLeDiff → qE, reduceLT → qF
open Int renaming reduceToNat → qG, reduceEq → qH, reduceLT → qI, reduceLE → qJ
namespace Go.Proofs.Ytofcmdkmhbbbjaa
open Go Go.Eng
set_option maxRecDepth 100000
def G_ref1_noughts : GCode := .seq (.region [⟨(some 2), none, .assign (.const (.string ⟨#[]⟩))⟩]) (.seq (.region [⟨(some 3), none, .move (.tmp 0)⟩, ⟨(some 4), none, .call ⟨.builtin .max, #[.tmp 3, .const (.int .i64 0)], #[3, 3]⟩⟩, ⟨(some 5), none, .makeSlice 22 (.tmp 4) (.tmp 4)⟩, ⟨(some 6), none, .convert 22 9 (.tmp 5)⟩, ⟨(some 2), none, .assign (.tmp 6)⟩]) (.ret))
noncomputable def l_ref1_noughts : List (Nat × Con) := []
noncomputable abbrev K_ref1_noughts : Ctx := ctx (cl l_ref1_noughts)
theorem geq_ref1_noughts : gof K_ref1_noughts Try.f59 = some G_ref1_noughts.strip := by kernel_rfl
theorem sys_ref1_noughts : Go.Eng.Sys Try.prog K_ref1_noughts := sys_of' (l := []) trivial
def A_ref1_noughts := Arms.cons (argT Int) Arms.nil
def p_ref1_noughts (x : Int × Unit) : Prop := x.1 ≤ 1099511627776
def r_ref1_noughts (x : Int × Unit) : AV := .t (.str (List.replicate x.1.toNat 0))
theorem body_ref1_noughts (x : Int × Unit) (hp : p_ref1_noughts x) : avp K_ref1_noughts G_ref1_noughts (Ret K_ref1_noughts [.tmp 2] fun v _ => v = r_ref1_noughts x) (entry (A_ref1_noughts.enc x) .empty) := by
  obtain ⟨n, ⟨⟩⟩ := x
  change n ≤ 1099511627776 at hp
  change avp _ _ (Ret _ _ fun v _ => v = .t (.str (List.replicate n.toNat 0))) (entry [.t (.int .i64 n)] .empty)
  unfold G_ref1_noughts
  have e : (max n 0).toNat = n.toNat := by omega
  simp only [vP.down, vS.down, vE.down, qA, qB, qC, qD, qE, qF, qG, reduceIte, reduceCtorEq, qH, qI, qJ, ↓avp_condG, ↓tf_arrow, ↓ft_arrow, max_int, e]
  refine ⟨by omega, fun g hg => ?_⟩
  simp only [vP.down, vS.down, vE.down, qA, qB, qC, qD, qE, qF, qG, reduceIte, reduceCtorEq, qH, qI, qJ, ↓avp_condG, ↓tf_arrow, ↓ft_arrow, vT.down]
noncomputable def c_ref1_noughts : Con := fnScal A_ref1_noughts p_ref1_noughts r_ref1_noughts
theorem ok_ref1_noughts : COk Try.prog 59 c_ref1_noughts := fn_sok sys_ref1_noughts mixed Try.func59 (by kernel_rfl) geq_ref1_noughts Try.ntmps59 (by rw [Try.results59]) (fun x => by unfold r_ref1_noughts; simp [AV.scal]) fun x hx => ⟨Nat.le_of_ble_eq_true rfl, body_ref1_noughts x hx⟩
def mayB (b : TBlock) : Bool := (((decide (1 ≤ b.Kind) && decide (b.Kind ≤ 6)) && decide (1 ≤ b.Birth)) && numB b.Birth) && decide ((b.Load.length : Int) ≤ 249)
def blC (b : TBlock) : List TV := [.int .i64 b.Kind, .int .i64 b.Birth, .str b.Load]
def G_ref1_MayBlock : GCode := .seq (.region [⟨(some 1), none, .box 71 (.tmp 0)⟩, ⟨(some 2), none, .assign (.const (.bool false))⟩]) (.seq (.region [⟨(some 3), none, .fieldAddr 71 (.tmp 1) 0⟩, ⟨(some 4), none, .load 3 (.tmp 3)⟩, ⟨(some 5), none, .binOp .geq 3 (.tmp 4) (.const (.int .i64 1)) 3⟩, ⟨(some 6), none, .move (.tmp 5)⟩, ⟨(some 7), (some (6, true)), .fieldAddr 71 (.tmp 1) 0⟩, ⟨(some 8), (some (6, true)), .load 3 (.tmp 7)⟩, ⟨(some 9), (some (6, true)), .binOp .leq 3 (.tmp 8) (.const (.int .i64 6)) 3⟩, ⟨(some 10), none, .pick (.tmp 6) (.tmp 9) (.const (.bool false))⟩, ⟨(some 11), none, .move (.tmp 10)⟩, ⟨(some 12), (some (11, true)), .fieldAddr 71 (.tmp 1) 1⟩, ⟨(some 13), (some (11, true)), .load 3 (.tmp 12)⟩, ⟨(some 14), (some (11, true)), .binOp .geq 3 (.tmp 13) (.const (.int .i64 1)) 3⟩, ⟨(some 15), none, .pick (.tmp 11) (.tmp 14) (.const (.bool false))⟩, ⟨(some 16), none, .move (.tmp 15)⟩, ⟨(some 17), (some (16, true)), .fieldAddr 71 (.tmp 1) 1⟩, ⟨(some 18), (some (16, true)), .load 3 (.tmp 17)⟩, ⟨(some 19), (some (16, true)), .call ⟨.value (.func 79), #[.tmp 18], #[3]⟩⟩, ⟨(some 20), none, .pick (.tmp 16) (.tmp 19) (.const (.bool false))⟩, ⟨(some 21), none, .move (.tmp 20)⟩, ⟨(some 22), (some (21, true)), .fieldAddr 71 (.tmp 1) 2⟩, ⟨(some 23), (some (21, true)), .load 9 (.tmp 22)⟩, ⟨(some 24), (some (21, true)), .call ⟨.builtin .len, #[.tmp 23], #[9]⟩⟩, ⟨(some 25), (some (21, true)), .binOp .leq 3 (.tmp 24) (.const (.int .i64 249)) 3⟩, ⟨(some 26), none, .pick (.tmp 21) (.tmp 25) (.const (.bool false))⟩, ⟨(some 2), none, .assign (.tmp 26)⟩]) (.ret))
noncomputable def l_ref1_MayBlock : List (Nat × Con) := [(79, c_ref1_num)]
noncomputable abbrev K_ref1_MayBlock : Ctx := ctx (cl l_ref1_MayBlock)
theorem geq_ref1_MayBlock : gof K_ref1_MayBlock Try.f58 = some G_ref1_MayBlock.strip := by kernel_rfl
theorem sys_ref1_MayBlock : Go.Eng.Sys Try.prog K_ref1_MayBlock := sys_of' ⟨ok_ref1_num, trivial⟩
noncomputable def k_ref1_MayBlock_ref1_num := PLift.up (call_scal (C := K_ref1_MayBlock) (f := 79) (A := A_ref1_num) (p := p_ref1_num) (r := r_ref1_num) rfl)
def A_ref1_MayBlock := Arms.cons (argA TBlock) Arms.nil
def p_ref1_MayBlock (_ : TBlock × Unit) : Prop := True
def r_ref1_MayBlock (x : TBlock × Unit) : AV := .t (.bool (mayB x.1))
theorem body_ref1_MayBlock (x : TBlock × Unit) (_ : p_ref1_MayBlock x) : avp K_ref1_MayBlock G_ref1_MayBlock (Ret K_ref1_MayBlock [.tmp 2] fun v _ => v = r_ref1_MayBlock x) (entry (A_ref1_MayBlock.enc x) .empty) := by
  obtain ⟨b, ⟨⟩⟩ := x
  change avp _ _ (Ret _ _ fun v _ => v = .t (.bool (mayB b))) (entry [.agg ((blC b).map .t)] .empty)
  unfold G_ref1_MayBlock
  simp only [vP.down, vS.down, vE.down, qA, qB, qC, qD, qE, qF, qG, reduceIte, reduceCtorEq, qH, qI, qJ, ↓avp_condG, ↓tf_arrow, ↓ft_arrow, blC, List.map_cons, List.map_nil, ge_iff_le, k_ref1_MayBlock_ref1_num.down, A_ref1_num, p_ref1_num, r_ref1_num]
  intro g hg
  simp only [vP.down, vS.down, vE.down, qA, qB, qC, qD, qE, qF, qG, reduceIte, reduceCtorEq, qH, qI, qJ, ↓avp_condG, ↓tf_arrow, ↓ft_arrow, vT.down]
  rfl
noncomputable def c_ref1_MayBlock : Con := fnScal A_ref1_MayBlock p_ref1_MayBlock r_ref1_MayBlock
theorem ok_ref1_MayBlock : COk Try.prog 58 c_ref1_MayBlock := fn_sok sys_ref1_MayBlock mixed Try.func58 (by kernel_rfl) geq_ref1_MayBlock Try.ntmps58 (by rw [Try.results58]) (fun x => by unfold r_ref1_MayBlock; simp [AV.scal]) fun x hx => ⟨Nat.le_of_ble_eq_true rfl, body_ref1_MayBlock x hx⟩
def FB : List UInt8 := [49, 52, 50]
def blkT (b : TBlock) : List UInt8 := putF FB [b.Kind, b.Birth, (b.Load.length : Int)] ++ b.Load
def blkB (b : TBlock) : List UInt8 := if mayB b = true then blkT b ++ List.replicate (256 - (blkT b).length) 0 else []
def G_ref1_PutBlock : GCode := .seq (.region [⟨(some 1), none, .box 71 (.tmp 0)⟩, ⟨(some 2), none, .assign (.const (.string ⟨#[]⟩))⟩]) (.seq (.seq (.seq .weak (.region [⟨(some 4), none, .load 71 (.tmp 1)⟩, ⟨(some 5), none, .call ⟨.value (.func 58), #[.tmp 4], #[71]⟩⟩, ⟨(some 6), none, .unOp .not 4 (.tmp 5)⟩])) (.cond (.tmp 6) (.seq (.region [⟨(some 2), none, .assign (.const (.string ⟨#[]⟩))⟩]) (.ret)) (.skip))) (.seq (.seq .weak (.region [⟨(some 7), none, .fieldAddr 71 (.tmp 1) 0⟩, ⟨(some 8), none, .load 3 (.tmp 7)⟩, ⟨(some 9), none, .fieldAddr 71 (.tmp 1) 1⟩, ⟨(some 10), none, .load 3 (.tmp 9)⟩, ⟨(some 11), none, .fieldAddr 71 (.tmp 1) 2⟩, ⟨(some 12), none, .load 9 (.tmp 11)⟩, ⟨(some 13), none, .call ⟨.builtin .len, #[.tmp 12], #[9]⟩⟩, ⟨(some 14), none, .buildSlice 58 3 #[(0, .tmp 8), (1, .tmp 10), (2, .tmp 13)]⟩, ⟨(some 15), none, .call ⟨.value (.func 38), #[.const (.string ⟨#[49, 52, 50]⟩), .tmp 14], #[9, 58]⟩⟩, ⟨(some 16), none, .fieldAddr 71 (.tmp 1) 2⟩, ⟨(some 17), none, .load 9 (.tmp 16)⟩, ⟨(some 18), none, .binOp .add 9 (.tmp 15) (.tmp 17) 9⟩, ⟨(some 3), none, .assign (.tmp 18)⟩])) (.seq (.seq .weak (.region [⟨(some 19), none, .move (.tmp 3)⟩, ⟨(some 20), none, .move (.tmp 3)⟩, ⟨(some 21), none, .call ⟨.builtin .len, #[.tmp 20], #[9]⟩⟩, ⟨(some 22), none, .binOp .sub 3 (.const (.int .i64 256)) (.tmp 21) 3⟩, ⟨(some 23), none, .call ⟨.value (.func 59), #[.tmp 22], #[3]⟩⟩, ⟨(some 24), none, .binOp .add 9 (.tmp 19) (.tmp 23) 9⟩, ⟨(some 2), none, .assign (.tmp 24)⟩])) (.ret))))
noncomputable def l_ref1_PutBlock : List (Nat × Con) := [(58, c_ref1_MayBlock), (38, c_ref1_Put), (59, c_ref1_noughts)]
noncomputable abbrev K_ref1_PutBlock : Ctx := ctx (cl l_ref1_PutBlock)
theorem geq_ref1_PutBlock : gof K_ref1_PutBlock Try.f32 = some G_ref1_PutBlock.strip := by kernel_rfl
theorem sys_ref1_PutBlock : Go.Eng.Sys Try.prog K_ref1_PutBlock := sys_of' ⟨ok_ref1_MayBlock, ok_ref1_Put, ok_ref1_noughts, trivial⟩
noncomputable def k_ref1_PutBlock_ref1_MayBlock := PLift.up (call_scal (C := K_ref1_PutBlock) (f := 58) (A := A_ref1_MayBlock) (p := p_ref1_MayBlock) (r := r_ref1_MayBlock) rfl)
noncomputable def k_ref1_PutBlock_ref1_Put := PLift.up (call_scal (C := K_ref1_PutBlock) (f := 38) (A := A_ref1_Put) (p := p_ref1_Put) (r := r_ref1_Put) rfl)
noncomputable def k_ref1_PutBlock_ref1_noughts := PLift.up (call_scal (C := K_ref1_PutBlock) (f := 59) (A := A_ref1_noughts) (p := p_ref1_noughts) (r := r_ref1_noughts) rfl)
def A_ref1_PutBlock := Arms.cons (argA TBlock) Arms.nil
def p_ref1_PutBlock (_ : TBlock × Unit) : Prop := True
def r_ref1_PutBlock (x : TBlock × Unit) : AV := .t (.str (blkB x.1))
theorem body_ref1_PutBlock (x : TBlock × Unit) (_ : p_ref1_PutBlock x) : avp K_ref1_PutBlock G_ref1_PutBlock (Ret K_ref1_PutBlock [.tmp 2] fun v _ => v = r_ref1_PutBlock x) (entry (A_ref1_PutBlock.enc x) .empty) := by
  obtain ⟨b, ⟨⟩⟩ := x
  change avp _ _ (Ret _ _ fun v _ => v = .t (.str (blkB b))) (entry [.agg ((blC b).map .t)] .empty)
  unfold G_ref1_PutBlock
  simp only [vP.down, vS.down, vE.down, qA, qB, qC, qD, qE, qF, qG, reduceIte, reduceCtorEq, qH, qI, qJ, ↓avp_condG, ↓tf_arrow, ↓ft_arrow, blC, List.map_cons, List.map_nil]
  intro g hg
  refine weak_at [(1, .imm (blC b))] .empty fewer_empty (by
    simp only [vP.down, vS.down, vE.down, qA, qB, qC, qD, qE, qF, qG, reduceIte, reduceCtorEq, qH, qI, qJ, ↓avp_condG, ↓tf_arrow, ↓ft_arrow, wP.down]
    exact w2_imm (l := blC b) (ro := false) (Store.set_same _ _ _) rfl) ?_
  have hdec : (⟨b.Kind, b.Birth, b.Load⟩ : TBlock) = b := rfl
  cases hk : mayB b with
  | false =>
    have e : blkB b = [] := by rw [blkB, hk]; rfl
    simp only [vP.down, vS.down, vE.down, qA, qB, qC, qD, qE, qF, qG, reduceIte, reduceCtorEq, qH, qI, qJ, ↓avp_condG, ↓tf_arrow, ↓ft_arrow, blC, hdec, hk, k_ref1_PutBlock_ref1_MayBlock.down, A_ref1_MayBlock, p_ref1_MayBlock, r_ref1_MayBlock]
    simp only [vP.down, vS.down, vE.down, qA, qB, qC, qD, qE, qF, qG, reduceIte, reduceCtorEq, qH, qI, qJ, ↓avp_condG, ↓tf_arrow, ↓ft_arrow, vT.down, e]
  | true =>
    have hl : (b.Load.length : Int) ≤ 249 := by
      have := hk
      simp only [mayB, Bool.and_eq_true, decide_eq_true_eq] at this
      exact this.2
    have e : blkB b = blkT b ++ List.replicate (256 - (blkT b).length) 0 := by rw [blkB, hk]; rfl
    simp only [vP.down, vS.down, vE.down, qA, qB, qC, qD, qE, qF, qG, reduceIte, reduceCtorEq, qH, qI, qJ, ↓avp_condG, ↓tf_arrow, ↓ft_arrow, blC, hdec, hk, k_ref1_PutBlock_ref1_MayBlock.down, A_ref1_MayBlock, p_ref1_MayBlock, r_ref1_MayBlock]
    refine weak_at [(1, .imm (blC b))] .empty fewer_refl (by simp only [vP.down, vS.down, vE.down, qA, qB, qC, qD, qE, qF, qG, reduceIte, reduceCtorEq, qH, qI, qJ, ↓avp_condG, ↓tf_arrow, ↓ft_arrow, wP.down, blC]) ?_
    have pf : FB.length ≤ 1099511627776 := by decide
    have hFB : ([49, 52, 50] : List UInt8) = FB := rfl
    have hT : putF FB [b.Kind, b.Birth, (b.Load.length : Int)] ++ b.Load = blkT b := rfl
    simp only [vP.down, vS.down, vE.down, qA, qB, qC, qD, qE, qF, qG, reduceIte, reduceCtorEq, qH, qI, qJ, ↓avp_condG, ↓tf_arrow, ↓ft_arrow, blC, hFB, pf, decI3, hT, k_ref1_PutBlock_ref1_Put.down, A_ref1_Put, p_ref1_Put, r_ref1_Put]
    intro g3 hg3
    have hp3 : (putF FB [b.Kind, b.Birth, (b.Load.length : Int)]).length = 7 := by
      obtain ⟨_, h4, _⟩ := take_put (f := FB) (l := [b.Kind, b.Birth, (b.Load.length : Int)]) [] (by decide) rfl
      have d1 : (digs FB).sum = 7 := by decide
      rw [d1] at h4; omega
    have hlt : (blkT b).length = 7 + b.Load.length := by rw [← hT, List.length_append, hp3]
    refine ⟨by omega, ?_⟩
    refine weak_at [(3, .t (.str (blkT b)))] .empty fewer_empty (by simp only [vP.down, vS.down, vE.down, qA, qB, qC, qD, qE, qF, qG, reduceIte, reduceCtorEq, qH, qI, qJ, ↓avp_condG, ↓tf_arrow, ↓ft_arrow, wP.down, hT]) ?_
    clear hg3
    have hw : IntKind.i64.wrap (256 - ((blkT b).length : Int)) = ((256 - (blkT b).length : Nat) : Int) := by rw [IntWalk.i64_in _ (by omega)]; omega
    have hn : ((256 - (blkT b).length : Nat) : Int) ≤ 1099511627776 := by omega
    have hz : (blkT b).length + (List.replicate (256 - (blkT b).length) (0 : UInt8)).length ≤ 9223372036854775807 := by rw [List.length_replicate]; omega
    simp only [vP.down, vS.down, vE.down, qA, qB, qC, qD, qE, qF, qG, reduceIte, reduceCtorEq, qH, qI, qJ, ↓avp_condG, ↓tf_arrow, ↓ft_arrow, hw, hn, Int.toNat_natCast, k_ref1_PutBlock_ref1_noughts.down, A_ref1_noughts, p_ref1_noughts, r_ref1_noughts]
    refine ⟨hz, ?_⟩
    simp only [vP.down, vS.down, vE.down, qA, qB, qC, qD, qE, qF, qG, reduceIte, reduceCtorEq, qH, qI, qJ, ↓avp_condG, ↓tf_arrow, ↓ft_arrow, vT.down, e]
noncomputable def c_ref1_PutBlock : Con := fnScal A_ref1_PutBlock p_ref1_PutBlock r_ref1_PutBlock
theorem ok_ref1_PutBlock : COk Try.prog 32 c_ref1_PutBlock := fn_sok sys_ref1_PutBlock mixed Try.func32 (by kernel_rfl) geq_ref1_PutBlock Try.ntmps32 (by rw [Try.results32]) (fun x => by unfold r_ref1_PutBlock; simp [AV.scal]) fun x hx => ⟨Nat.le_of_ble_eq_true rfl, body_ref1_PutBlock x hx⟩
end Go.Proofs.Ytofcmdkmhbbbjaa
namespace Go.Proofs.Ytofcmdkmhbbbjaa
open Go Go.Eng
set_option maxRecDepth 100000
def zeroB : TBlock := ⟨0, 0, []⟩
theorem num_pos (b : List UInt8) : 0 ≤ num b := (num_bd b.length b rfl).1
def tkN (s : List UInt8) : Nat := (num (((s.drop 1).drop 4).take 2)).toNat
def tkBl (s : List UInt8) : TBlock := ⟨(takeL FB s).getD 0 default, (takeL FB s).getD 1 default, (takeR FB s).take (tkN s)⟩
def tkBOk (s : List UInt8) : Bool := (takeOk FB s && decide (tkN s ≤ (takeR FB s).length)) && (decide (s.length = 256) && decide (blkB (tkBl s) = s))
def takeBk (s : List UInt8) : TBlock × Bool := if tkBOk s = true then (tkBl s, true) else (zeroB, false)
theorem tkN_at {s : List UInt8} (h : takeOk FB s = true) : (takeL FB s).getD 2 default = (tkN s : Int) := by
  have e : takeL FB s = [num (s.take 1), num ((s.drop 1).take 4), num (((s.drop 1).drop 4).take 2)] := by rw [takeL, if_pos h]; rfl
  rw [e]
  have := num_pos (((s.drop 1).drop 4).take 2)
  show num _ = _
  rw [tkN]; omega
def G_ref1_TakeBlock : GCode := .seq (.region [⟨(some 2), none, .alloc 71⟩, ⟨(some 3), none, .assign (.const (.bool false))⟩]) (.seq (.seq .weak (.region [⟨(some 9), none, .move (.tmp 0)⟩, ⟨(some 10), none, .call ⟨.value (.func 47), #[.const (.string ⟨#[49, 52, 50]⟩), .tmp 9], #[9, 9]⟩⟩, ⟨(some 8), none, .move (.tmp 10)⟩, ⟨(some 11), none, .extract (.tmp 8) 0⟩, ⟨(some 12), none, .extract (.tmp 8) 1⟩, ⟨(some 13), none, .extract (.tmp 8) 2⟩, ⟨(some 4), none, .assign (.tmp 11)⟩, ⟨(some 5), none, .assign (.tmp 12)⟩, ⟨(some 6), none, .assign (.tmp 13)⟩])) (.seq (.seq (.seq .weak (.region [⟨(some 14), none, .move (.tmp 6)⟩, ⟨(some 15), none, .unOp .not 4 (.tmp 14)⟩, ⟨(some 16), none, .move (.tmp 15)⟩, ⟨(some 17), (some (16, false)), .move (.tmp 4)⟩, ⟨(some 18), (some (16, false)), .indexAddr 58 (.tmp 17) (.const (.int .i64 2))⟩, ⟨(some 19), (some (16, false)), .load 3 (.tmp 18)⟩, ⟨(some 20), (some (16, false)), .move (.tmp 5)⟩, ⟨(some 21), (some (16, false)), .call ⟨.builtin .len, #[.tmp 20], #[9]⟩⟩, ⟨(some 22), (some (16, false)), .binOp .gtr 3 (.tmp 19) (.tmp 21) 3⟩, ⟨(some 23), none, .pick (.tmp 16) (.const (.bool true)) (.tmp 22)⟩])) (.cond (.tmp 23) (.seq (.region [⟨(some 24), none, .build 71 #[]⟩, ⟨none, none, .store 71 (.tmp 2) (.tmp 24)⟩, ⟨(some 3), none, .assign (.const (.bool false))⟩]) (.ret)) (.skip))) (.seq (.seq .weak (.region [⟨(some 25), none, .move (.tmp 4)⟩, ⟨(some 26), none, .indexAddr 58 (.tmp 25) (.const (.int .i64 0))⟩, ⟨(some 27), none, .load 3 (.tmp 26)⟩, ⟨(some 28), none, .move (.tmp 4)⟩, ⟨(some 29), none, .indexAddr 58 (.tmp 28) (.const (.int .i64 1))⟩, ⟨(some 30), none, .load 3 (.tmp 29)⟩, ⟨(some 31), none, .move (.tmp 5)⟩, ⟨(some 32), none, .move (.tmp 4)⟩, ⟨(some 33), none, .indexAddr 58 (.tmp 32) (.const (.int .i64 2))⟩, ⟨(some 34), none, .load 3 (.tmp 33)⟩, ⟨(some 35), none, .slice 9 (.tmp 31) none (some (.tmp 34)) none⟩, ⟨(some 36), none, .build 71 #[(0, .tmp 27), (1, .tmp 30), (2, .tmp 35)]⟩, ⟨(some 7), none, .alloc 71⟩, ⟨none, none, .store 71 (.tmp 7) (.tmp 36)⟩])) (.seq (.seq (.seq .weak (.region [⟨(some 37), none, .move (.tmp 0)⟩, ⟨(some 38), none, .call ⟨.builtin .len, #[.tmp 37], #[9]⟩⟩, ⟨(some 39), none, .binOp .neq 3 (.tmp 38) (.const (.int .i64 256)) 3⟩, ⟨(some 40), none, .move (.tmp 39)⟩, ⟨(some 41), (some (40, false)), .load 71 (.tmp 7)⟩, ⟨(some 42), (some (40, false)), .call ⟨.value (.func 32), #[.tmp 41], #[71]⟩⟩, ⟨(some 43), (some (40, false)), .move (.tmp 0)⟩, ⟨(some 44), (some (40, false)), .binOp .neq 9 (.tmp 42) (.tmp 43) 9⟩, ⟨(some 45), none, .pick (.tmp 40) (.const (.bool true)) (.tmp 44)⟩])) (.cond (.tmp 45) (.seq (.region [⟨(some 46), none, .build 71 #[]⟩, ⟨none, none, .store 71 (.tmp 2) (.tmp 46)⟩, ⟨(some 3), none, .assign (.const (.bool false))⟩]) (.ret)) (.skip))) (.seq (.seq .weak (.region [⟨(some 47), none, .load 71 (.tmp 7)⟩, ⟨none, none, .store 71 (.tmp 2) (.tmp 47)⟩, ⟨(some 3), none, .assign (.const (.bool true))⟩])) (.ret))))))
noncomputable def l_ref1_TakeBlock : List (Nat × Con) := [(47, c_ref1_Take), (32, c_ref1_PutBlock)]
noncomputable abbrev K_ref1_TakeBlock : Ctx := ctx (cl l_ref1_TakeBlock)
theorem geq_ref1_TakeBlock : gof K_ref1_TakeBlock Try.f31 = some G_ref1_TakeBlock.strip := by kernel_rfl
theorem sys_ref1_TakeBlock : Go.Eng.Sys Try.prog K_ref1_TakeBlock := sys_of' ⟨ok_ref1_Take, ok_ref1_PutBlock, trivial⟩
noncomputable def k_ref1_TakeBlock_ref1_Take := PLift.up (call_fn (C := K_ref1_TakeBlock) (f := 47) (A := A_ref1_Take) (p := p_ref1_Take) (r := r_ref1_Take) rfl)
noncomputable def k_ref1_TakeBlock_ref1_PutBlock := PLift.up (call_scal (C := K_ref1_TakeBlock) (f := 32) (A := A_ref1_PutBlock) (p := p_ref1_PutBlock) (r := r_ref1_PutBlock) rfl)
def A_ref1_TakeBlock := Arms.cons (argT (List UInt8)) Arms.nil
def p_ref1_TakeBlock (x : List UInt8 × Unit) : Prop := x.1.length ≤ 1000000
def r_ref1_TakeBlock (x : List UInt8 × Unit) : AV := .tup [.agg ((blC (takeBk x.1).1).map .t), .t (.bool (takeBk x.1).2)]
set_option maxHeartbeats 4000000 in
theorem body_ref1_TakeBlock (x : List UInt8 × Unit) (hp : p_ref1_TakeBlock x) : avp K_ref1_TakeBlock G_ref1_TakeBlock (Ret K_ref1_TakeBlock [.cell 2 71, .tmp 3] fun v s' => Frz s' v (r_ref1_TakeBlock x)) (entry (A_ref1_TakeBlock.enc x) .empty) := by
  obtain ⟨s, ⟨⟩⟩ := x
  change s.length ≤ 1000000 at hp
  change avp _ _ (Ret _ _ fun v s' => Frz s' v (.tup [.agg ((blC (takeBk s).1).map .t), .t (.bool (takeBk s).2)])) (entry [.t (.str s)] .empty)
  unfold G_ref1_TakeBlock
  have pf : FB.length ≤ 1099511627776 := by decide
  have ps : s.length ≤ 1099511627776 := by omega
  have hFB : ([49, 52, 50] : List UInt8) = FB := rfl
  simp only [vP.down, vS.down, vE.down, qA, qB, qC, qD, qE, qF, qG, reduceIte, reduceCtorEq, qH, qI, qJ, ↓avp_condG, ↓tf_arrow, ↓ft_arrow]
  intro g2 hg2
  refine weak_at [(0, .t (.str s)), (2, .ptr g2 0)] (Store.empty.set g2 (some (.box [.t (.int .i64 0), .t (.int .i64 0), .t (.str [])] false))) fewer_refl (by simp only [vP.down, vS.down, vE.down, qA, qB, qC, qD, qE, qF, qG, reduceIte, reduceCtorEq, qH, qI, qJ, ↓avp_condG, ↓tf_arrow, ↓ft_arrow, wP.down]) ?_
  simp only [vP.down, vS.down, vE.down, qA, qB, qC, qD, qE, qF, qG, reduceIte, reduceCtorEq, qH, qI, qJ, ↓avp_condG, ↓tf_arrow, ↓ft_arrow, hFB, pf, ps, k_ref1_TakeBlock_ref1_Take.down, A_ref1_Take, p_ref1_Take, r_ref1_Take]
  refine weak_at [(0, .t (.str s)), (2, .ptr g2 0), (4, .t (sl (takeL FB s))), (5, .t (.str (takeR FB s))), (6, .t (.bool (takeOk FB s)))] (Store.empty.set g2 (some (.box [.t (.int .i64 0), .t (.int .i64 0), .t (.str [])] false))) fewer_refl (by simp only [vP.down, vS.down, vE.down, qA, qB, qC, qD, qE, qF, qG, reduceIte, reduceCtorEq, qH, qI, qJ, ↓avp_condG, ↓tf_arrow, ↓ft_arrow, wP.down]) ?_
  cases hk : takeOk FB s with
  | false =>
    have e : takeBk s = (zeroB, false) := by rw [takeBk, tkBOk, hk]; rfl
    have eL : takeL FB s = [] := by rw [takeL, hk]; rfl
    simp only [vP.down, vS.down, vE.down, qA, qB, qC, qD, qE, qF, qG, reduceIte, reduceCtorEq, qH, qI, qJ, ↓avp_condG, ↓tf_arrow, ↓ft_arrow, Store.set_same, pick_of, pick_ot, e, eL]
    refine ⟨?_, ?_⟩
    · exact trivial
    · simp only [vP.down, vS.down, vE.down, qA, qB, qC, qD, qE, qF, qG, reduceIte, reduceCtorEq, qH, qI, qJ, ↓avp_condG, ↓tf_arrow, ↓ft_arrow, vT.down, Store.set_same, blC, zeroB]
  | true =>
    have h2 := tkN_at hk
    have b1 : (takeL FB s).length = 3 := takeL_len' hk
    have hrl : (takeR FB s).length ≤ s.length := takeR_len
    have eB : tkBl s = ⟨(takeL FB s).getD 0 default, (takeL FB s).getD 1 default, (takeR FB s).take (tkN s)⟩ := rfl
    have eK : tkBOk s = (decide (tkN s ≤ (takeR FB s).length) && (decide (s.length = 256) && decide (blkB (tkBl s) = s))) := by rw [tkBOk, hk, Bool.true_and]
    obtain ⟨v, hv⟩ : ∃ v, v = takeL FB s := ⟨_, rfl⟩
    obtain ⟨r, hr⟩ : ∃ r, r = takeR FB s := ⟨_, rfl⟩
    obtain ⟨m, hm⟩ : ∃ m, m = tkN s := ⟨_, rfl⟩
    rw [← hv, ← hm] at h2
    rw [← hv] at b1
    rw [← hr] at hrl
    rw [← hv, ← hr, ← hm] at eB
    rw [← hr, ← hm] at eK
    rw [← hv, ← hr]
    obtain ⟨y0, y1, y2⟩ := idx3 (C := K_ref1_TakeBlock) (l := v) ty_Lint ty_int rfl b1
    rw [h2] at y2
    by_cases hle : m ≤ r.length
    · have hle' : ¬ (r.length : Int) < (m : Int) := by omega
      simp only [vP.down, vS.down, vE.down, qA, qB, qC, qD, qE, qF, qG, reduceIte, reduceCtorEq, qH, qI, qJ, ↓avp_condG, ↓tf_arrow, ↓ft_arrow, y0, y1, y2, hle', not_true_eq_false, not_false_eq_true, true_implies, false_implies]
      refine weak_at [(0, .t (.str s)), (2, .ptr g2 0), (4, .t (sl v)), (5, .t (.str r))] (Store.empty.set g2 (some (.box [.t (.int .i64 0), .t (.int .i64 0), .t (.str [])] false))) fewer_refl (by simp only [vP.down, vS.down, vE.down, qA, qB, qC, qD, qE, qF, qG, reduceIte, reduceCtorEq, qH, qI, qJ, ↓avp_condG, ↓tf_arrow, ↓ft_arrow, wP.down]) ?_
      simp only [vP.down, vS.down, vE.down, qA, qB, qC, qD, qE, qF, qG, reduceIte, reduceCtorEq, qH, qI, qJ, ↓avp_condG, ↓tf_arrow, ↓ft_arrow, y0, y1, y2]
      refine ⟨⟨by omega, by omega⟩, fun g7 hg7 => ?_⟩
      have n1 := Store.ne_new hg7
      obtain ⟨B, hB⟩ : ∃ B, B = tkBl s := ⟨_, rfl⟩
      have hBe : B = ⟨v.getD 0 default, v.getD 1 default, r.take m⟩ := hB.trans eB
      refine weak_at [(0, .t (.str s)), (2, .ptr g2 0), (7, .imm (blC ⟨v.getD 0 default, v.getD 1 default, r.take m⟩))] (Store.empty.set g2 (some (.box [.t (.int .i64 0), .t (.int .i64 0), .t (.str [])] false))) (only_box17 ((Store.set_other _ _ n1.symm).trans (Store.set_same _ _ _))) (by
        simp only [vP.down, vS.down, vE.down, qA, qB, qC, qD, qE, qF, qG, reduceIte, reduceCtorEq, qH, qI, qJ, ↓avp_condG, ↓tf_arrow, ↓ft_arrow, wP.down]
        exact w2_imm (l := blC ⟨v.getD 0 default, v.getD 1 default, r.take m⟩) (ro := false) (Store.set_same _ _ _) (Store.set_other _ _ n1)) ?_
      rw [← hBe]
      rw [← hB] at eK
      rw [decide_eq_true hle, Bool.true_and] at eK
      clear eB hBe y0 y1 y2 hg7 n1
      have hdec : (⟨B.Kind, B.Birth, B.Load⟩ : TBlock) = B := rfl
      by_cases h6 : s.length = 256
      · have h6' : ¬ ((s.length : Int) ≠ 256) := by omega
        by_cases hbs : blkB B = s
        · have e : takeBk s = (B, true) := by rw [takeBk, eK, decide_eq_true h6, decide_eq_true hbs, ← hB]; rfl
          simp only [vP.down, vS.down, vE.down, qA, qB, qC, qD, qE, qF, qG, reduceIte, reduceCtorEq, qH, qI, qJ, ↓avp_condG, ↓tf_arrow, ↓ft_arrow, blC, hdec, h6, hbs, k_ref1_TakeBlock_ref1_PutBlock.down, A_ref1_PutBlock, p_ref1_PutBlock, r_ref1_PutBlock]
          refine weak_at [(2, .ptr g2 0), (7, .imm [.int .i64 B.Kind, .int .i64 B.Birth, .str B.Load])] (Store.empty.set g2 (some (.box [.t (.int .i64 0), .t (.int .i64 0), .t (.str [])] false))) fewer_refl (by simp only [vP.down, vS.down, vE.down, qA, qB, qC, qD, qE, qF, qG, reduceIte, reduceCtorEq, qH, qI, qJ, ↓avp_condG, ↓tf_arrow, ↓ft_arrow, wP.down]) ?_
          simp only [vP.down, vS.down, vE.down, qA, qB, qC, qD, qE, qF, qG, reduceIte, reduceCtorEq, qH, qI, qJ, ↓avp_condG, ↓tf_arrow, ↓ft_arrow]
          simp only [vP.down, vS.down, vE.down, qA, qB, qC, qD, qE, qF, qG, reduceIte, reduceCtorEq, qH, qI, qJ, ↓avp_condG, ↓tf_arrow, ↓ft_arrow, vT.down, Store.set_same, e, blC]
        · have e : takeBk s = (zeroB, false) := by rw [takeBk, eK, decide_eq_false hbs, Bool.and_false]; rfl
          simp only [vP.down, vS.down, vE.down, qA, qB, qC, qD, qE, qF, qG, reduceIte, reduceCtorEq, qH, qI, qJ, ↓avp_condG, ↓tf_arrow, ↓ft_arrow, blC, hdec, h6, hbs, k_ref1_TakeBlock_ref1_PutBlock.down, A_ref1_PutBlock, p_ref1_PutBlock, r_ref1_PutBlock]
          simp only [vP.down, vS.down, vE.down, qA, qB, qC, qD, qE, qF, qG, reduceIte, reduceCtorEq, qH, qI, qJ, ↓avp_condG, ↓tf_arrow, ↓ft_arrow, vT.down, Store.set_same, e, blC, zeroB]
      · have e : takeBk s = (zeroB, false) := by rw [takeBk, eK, decide_eq_false h6, Bool.false_and]; rfl
        simp only [vP.down, vS.down, vE.down, qA, qB, qC, qD, qE, qF, qG, reduceIte, reduceCtorEq, qH, qI, qJ, ↓avp_condG, ↓tf_arrow, ↓ft_arrow, blC, hdec, h6, Store.set_same, k_ref1_TakeBlock_ref1_PutBlock.down, A_ref1_PutBlock, p_ref1_PutBlock, r_ref1_PutBlock]
        simp only [vP.down, vS.down, vE.down, qA, qB, qC, qD, qE, qF, qG, reduceIte, reduceCtorEq, qH, qI, qJ, ↓avp_condG, ↓tf_arrow, ↓ft_arrow, vT.down, Store.set_same, e, blC, zeroB]
        exact fun h => absurd h.1 (by omega)
    · have e : takeBk s = (zeroB, false) := by rw [takeBk, eK, decide_eq_false hle]; rfl
      have hle' : (r.length : Int) < (m : Int) := by omega
      simp only [vP.down, vS.down, vE.down, qA, qB, qC, qD, qE, qF, qG, reduceIte, reduceCtorEq, qH, qI, qJ, ↓avp_condG, ↓tf_arrow, ↓ft_arrow, y0, y1, y2, Store.set_same, hle', not_true_eq_false, not_false_eq_true, true_implies, false_implies]
      simp only [vP.down, vS.down, vE.down, qA, qB, qC, qD, qE, qF, qG, reduceIte, reduceCtorEq, qH, qI, qJ, ↓avp_condG, ↓tf_arrow, ↓ft_arrow, vT.down, Store.set_same, e, blC, zeroB]
noncomputable def c_ref1_TakeBlock : Con := fnCon A_ref1_TakeBlock p_ref1_TakeBlock r_ref1_TakeBlock
theorem ok_ref1_TakeBlock : COk Try.prog 31 c_ref1_TakeBlock := fn_ok sys_ref1_TakeBlock mixed Try.func31 (by kernel_rfl) geq_ref1_TakeBlock Try.ntmps31 (by rw [Try.results31]) fun x hx => ⟨Nat.le_of_ble_eq_true rfl, body_ref1_TakeBlock x hx⟩
end Go.Proofs.Ytofcmdkmhbbbjaa
namespace Go.Proofs.Ytofcmdkmhbbbjaa
open Go Go.Eng
set_option maxRecDepth 100000
abbrev T24 := Byt × Byt × Byt × Byt × Byt × Byt × Byt × Byt × Byt × Byt × Byt × Byt × Byt × Byt × Byt × Byt × Byt × Byt × Byt × Byt × Byt × Byt × Byt × Byt
theorem arr24 (t : T24) : ∃ B : List Byt, B.length = 24 ∧ (Cell.enc t : List TV) = B.map Go.Eng.one := by
  obtain ⟨b0, b1, b2, b3, b4, b5, b6, b7, b8, b9, b10, b11, b12, b13, b14, b15, b16, b17, b18, b19, b20, b21, b22, b23⟩ := t
  exact ⟨[b0, b1, b2, b3, b4, b5, b6, b7, b8, b9, b10, b11, b12, b13, b14, b15, b16, b17, b18, b19, b20, b21, b22, b23], rfl, rfl⟩
theorem row28e {last : Int} {d : TDset} {p : TPtr} (h : rowOk last d p = true) : (rowB d p).length = 28 := by
  have hp : mayP p = true := by
    simp only [rowOk, Bool.and_eq_true] at h
    exact h.1.2
  obtain ⟨_, h4, _⟩ := take_put (f := F4) (l := numsD d) [] (by decide) rfl
  have d1 : (digs F4).sum = 6 := by decide
  rw [d1] at h4
  have h5 := ptrsB_len [p]
  have h6 : [p].length = 1 := rfl
  rw [h6] at h5
  have h7 : ptrsF [p] = ptrsB [p] := by rw [ptrsF, if_pos (by rw [List.all_cons, hp]; rfl)]
  rw [rowB, List.length_append, h7]; omega
theorem rows28e {l : List TDset} {p : List TPtr} (h : ∀ i, i < l.length → rowI l p i = true) : ∀ i, i ≤ l.length → (rowsB l p i).length = 28 * i
  | 0, _ => rfl
  | i + 1, hi => by
    have h1 := rows28e h i (by omega)
    have h2 := row28e (h i (by omega))
    rw [rowsB, List.length_append]; omega
theorem tab_exact {h : List TDset} {P : List TPtr} (hto : tabOk h P = true) : (tabB h P).length = 1 + 28 * h.length := by
  have hto' := hto
  simp only [tabOk, Bool.and_eq_true, decide_eq_true_eq] at hto'
  have h1 := rows28e hto'.2.2 h.length (Nat.le_refl _)
  obtain ⟨_, h4, _⟩ := take_put (f := F1) (l := [(h.length : Int)]) [] (by decide) rfl
  have d1 : (digs F1).sum = 1 := by decide
  rw [d1] at h4
  have h5 : (headB h).length = (putF F1 [(h.length : Int)]).length := rfl
  rw [tabB, if_pos hto, List.length_append]; omega
def mF : Nat → List TPtr
  | 0 => List.replicate 8 zeroP
  | i + 1 => (mF i).set i ⟨14 + (i : Int), 1, (0, 0, 0, 0)⟩
theorem mF_len : ∀ i, (mF i).length = 8
  | 0 => rfl
  | i + 1 => by rw [mF, List.length_set, mF_len i]
theorem mF_ok : ∀ q ∈ mF 8, mayP q = true ∧ q ≠ zeroP := by decide +kernel
def spF (n : Nat) : TSpace := ⟨[⟨14, 14 + (n : Int)⟩], [], [], []⟩
theorem spF_len {n : Nat} (hd : dataOk n = true) : (spaceB n (spF n)).length = 4 * ((n + 7) / 8) := by
  have hb := dataOk_iff.1 hd
  have hn : 40 ≤ n ∧ n ≤ 240 := by omega
  have w1 : Wn 14 n [(⟨14, 14 + (n : Int)⟩ : TRun)] := fun i hi => by
    obtain ⟨r, hr, h1, h2⟩ := hasR_iff.1 hi
    obtain rfl := List.mem_singleton.1 hr
    exact ⟨h1, h2⟩
  have f1 : Nf [(⟨14, 14 + (n : Int)⟩ : TRun)] := .one (by show (14 : Int) < 14 + (n : Int); omega)
  have o1 : Ok9 n [(⟨14, 14 + (n : Int)⟩ : TRun)] := ⟨hd, f1, w1⟩
  have o2 : Ok9 n [] := ⟨hd, .nil, wn_nil⟩
  have hok : okSp n (spF n) = true := by
    have a1 : wit n (spF n).Held = true := wit_of f1 w1 (by omega)
    have a2 : wit n ([] : List TRun) = true := wit_of .nil wn_nil (by omega)
    have z1 : ∀ l : List TRun, whereL .both l [] = [] := fun l => (where_nil (h := .both)).2 fun i => Bool.and_false _
    have e1 : whereL .both (spF n).Held (spF n).One = [] := z1 _
    have e2 : whereL .both (spF n).Held (spF n).Two = [] := z1 _
    have e3 : whereL .both (spF n).One (spF n).Two = [] := z1 _
    have b1 : wit n (spF n).One = true := a2
    have b2 : wit n (spF n).Two = true := a2
    have b3 : wit n (spF n).Kept = true := a2
    rw [okSp, hd, a1, b1, b2, b3, e1, e2, e3]; rfl
  have c1 := o1.len
  have c2 := o2.len
  rw [spaceB, if_pos hok]
  show (((putM n [(⟨14, 14 + (n : Int)⟩ : TRun)] ++ putM n []) ++ putM n []) ++ putM n []).length = _
  simp only [List.length_append, c1, c2]
  omega
theorem blk_back {b : TBlock} (h : mayB b = true) : (blkB b).length = 256 ∧ takeBk (blkB b) = (b, true) := by
  have h' := h
  simp only [mayB, numB, Bool.and_eq_true, decide_eq_true_eq] at h'
  obtain ⟨⟨⟨⟨k1, k2⟩, b1⟩, _, b2⟩, hl⟩ := h'
  have d1 : digs FB = [1, 4, 2] := by decide
  obtain ⟨_, h4, t1, t2, t3⟩ := take_put (f := FB) (l := [b.Kind, b.Birth, (b.Load.length : Int)]) (b.Load ++ List.replicate (256 - (blkT b).length) 0) (by decide) rfl
  have d2 : (digs FB).sum = 7 := by decide
  rw [d2] at h4
  have hlt : (blkT b).length = 7 + b.Load.length := by rw [blkT, List.length_append]; omega
  have e : blkB b = putF FB [b.Kind, b.Birth, (b.Load.length : Int)] ++ (b.Load ++ List.replicate (256 - (blkT b).length) 0) := by rw [blkB, if_pos h, blkT, List.append_assoc]
  have hlen : (blkB b).length = 256 := by
    rw [blkB, if_pos h, List.length_append, List.length_replicate]; omega
  obtain ⟨s, hs⟩ : ∃ s, s = blkB b := ⟨_, rfl⟩
  rw [← e, ← hs] at t1 t2 t3
  rw [← hs] at hlen ⊢
  have m1 : b.Kind % 256 = b.Kind := Int.emod_eq_of_lt (by omega) (by omega)
  have m2 : b.Birth % 4294967296 = b.Birth := Int.emod_eq_of_lt (by omega) (by omega)
  have m3 : (b.Load.length : Int) % 65536 = (b.Load.length : Int) := Int.emod_eq_of_lt (by omega) (by omega)
  have t2' : takeL FB s = [b.Kind, b.Birth, (b.Load.length : Int)] := by
    rw [t2, d1]
    show [b.Kind % 256, b.Birth % 4294967296, (b.Load.length : Int) % 65536] = _
    rw [m1, m2, m3]
  have hN := tkN_at t1
  rw [t2'] at hN
  have hN' : tkN s = b.Load.length := by
    have : ((b.Load.length : Nat) : Int) = (tkN s : Int) := hN
    omega
  have hb : tkBl s = b := by
    rw [tkBl, t2', t3, hN', List.take_left']
    · rfl
    · rfl
  have hrl : b.Load.length ≤ (takeR FB s).length := by rw [t3, List.length_append]; omega
  have hk : tkBOk s = true := by
    rw [tkBOk, t1, hN', hb, decide_eq_true hrl, decide_eq_true hlen, decide_eq_true hs.symm]; rfl
  exact ⟨hlen, by rw [takeBk, if_pos hk, hb]⟩
def G_law17_TableFits_12 : GCode := .seq (.seq .weak (.region [⟨(some 42), none, .move (.tmp 8)⟩, ⟨(some 43), none, .move (.tmp 9)⟩, ⟨(some 44), none, .call ⟨.value (.func 13), #[.tmp 42, .tmp 43], #[23, 24]⟩⟩, ⟨(some 45), none, .move (.tmp 2)⟩, ⟨(some 46), none, .call ⟨.value (.func 11), #[.tmp 45], #[22]⟩⟩, ⟨(some 47), none, .call ⟨.value (.func 15), #[.tmp 46], #[38]⟩⟩, ⟨(some 48), none, .call ⟨.value (.func 16), #[.tmp 47], #[31]⟩⟩, ⟨(some 49), none, .move (.tmp 7)⟩, ⟨(some 50), none, .move (.tmp 7)⟩, ⟨(some 51), none, .binOp .add 3 (.const (.int .i64 14)) (.tmp 50) 3⟩, ⟨(some 52), none, .build 69 #[(0, .const (.int .i64 14)), (1, .tmp 51)]⟩, ⟨(some 53), none, .buildSlice 52 1 #[(0, .tmp 52)]⟩, ⟨(some 54), none, .build 56 #[(0, .tmp 53)]⟩, ⟨(some 55), none, .call ⟨.value (.func 26), #[.tmp 49, .tmp 54], #[3, 56]⟩⟩, ⟨(some 11), none, .assign (.tmp 44)⟩, ⟨(some 12), none, .assign (.tmp 48)⟩, ⟨(some 13), none, .assign (.tmp 55)⟩])) (.seq (.seq .weak (.region [⟨(some 57), none, .move (.tmp 11)⟩, ⟨(some 58), none, .build 71 #[(0, .const (.int .i64 4)), (1, .const (.int .i64 1)), (2, .tmp 57)]⟩, ⟨(some 59), none, .call ⟨.value (.func 32), #[.tmp 58], #[71]⟩⟩, ⟨(some 60), none, .call ⟨.value (.func 31), #[.tmp 59], #[9]⟩⟩, ⟨(some 56), none, .move (.tmp 60)⟩, ⟨(some 61), none, .extract (.tmp 56) 0⟩, ⟨(some 62), none, .extract (.tmp 56) 1⟩, ⟨(some 14), none, .alloc 71⟩, ⟨none, none, .store 71 (.tmp 14) (.tmp 61)⟩, ⟨(some 15), none, .assign (.tmp 62)⟩])) (.seq (.seq .weak (.region [⟨(some 63), none, .move (.tmp 8)⟩, ⟨(some 64), none, .call ⟨.builtin .len, #[.tmp 63], #[23]⟩⟩, ⟨(some 65), none, .binOp .eql 3 (.tmp 64) (.const (.int .i64 8)) 3⟩, ⟨(some 66), none, .move (.tmp 65)⟩, ⟨(some 67), (some (66, true)), .move (.tmp 11)⟩, ⟨(some 68), (some (66, true)), .call ⟨.builtin .len, #[.tmp 67], #[9]⟩⟩, ⟨(some 69), (some (66, true)), .binOp .eql 3 (.tmp 68) (.const (.int .i64 225)) 3⟩, ⟨(some 70), none, .pick (.tmp 66) (.tmp 69) (.const (.bool false))⟩, ⟨(some 71), none, .move (.tmp 70)⟩, ⟨(some 72), (some (71, true)), .move (.tmp 12)⟩, ⟨(some 73), (some (71, true)), .call ⟨.builtin .len, #[.tmp 72], #[9]⟩⟩, ⟨(some 74), (some (71, true)), .binOp .eql 3 (.tmp 73) (.const (.int .i64 82)) 3⟩, ⟨(some 75), none, .pick (.tmp 71) (.tmp 74) (.const (.bool false))⟩, ⟨(some 76), none, .move (.tmp 75)⟩, ⟨(some 77), (some (76, true)), .move (.tmp 13)⟩, ⟨(some 78), (some (76, true)), .call ⟨.builtin .len, #[.tmp 77], #[9]⟩⟩, ⟨(some 79), (some (76, true)), .move (.tmp 7)⟩, ⟨(some 80), (some (76, true)), .binOp .add 3 (.tmp 79) (.const (.int .i64 7)) 3⟩, ⟨(some 81), (some (76, true)), .binOp .quo 3 (.tmp 80) (.const (.int .i64 8)) 3⟩, ⟨(some 82), (some (76, true)), .binOp .mul 3 (.const (.int .i64 4)) (.tmp 81) 3⟩, ⟨(some 83), (some (76, true)), .binOp .eql 3 (.tmp 78) (.tmp 82) 3⟩, ⟨(some 84), none, .pick (.tmp 76) (.tmp 83) (.const (.bool false))⟩, ⟨(some 85), none, .move (.tmp 84)⟩, ⟨(some 86), (some (85, true)), .move (.tmp 13)⟩, ⟨(some 87), (some (85, true)), .call ⟨.builtin .len, #[.tmp 86], #[9]⟩⟩, ⟨(some 88), (some (85, true)), .binOp .leq 3 (.tmp 87) (.const (.int .i64 249)) 3⟩, ⟨(some 89), none, .pick (.tmp 85) (.tmp 88) (.const (.bool false))⟩, ⟨(some 90), none, .move (.tmp 89)⟩, ⟨(some 91), (some (90, true)), .move (.tmp 15)⟩, ⟨(some 92), none, .pick (.tmp 90) (.tmp 91) (.const (.bool false))⟩, ⟨(some 93), none, .move (.tmp 92)⟩, ⟨(some 94), (some (93, true)), .fieldAddr 71 (.tmp 14) 2⟩, ⟨(some 95), (some (93, true)), .load 9 (.tmp 94)⟩, ⟨(some 96), (some (93, true)), .move (.tmp 11)⟩, ⟨(some 97), (some (93, true)), .binOp .eql 9 (.tmp 95) (.tmp 96) 9⟩, ⟨(some 98), none, .pick (.tmp 93) (.tmp 97) (.const (.bool false))⟩, ⟨(some 6), none, .assign (.tmp 98)⟩])) (.ret)))
def G_law17_TableFits_8 : GCode := .seq (.seq (.seq .weak (.region [⟨(some 10), none, .assign (.const (.int .i64 0))⟩])) (.block 0 (.loop (.seq .weak (.seq (.seq (.region [⟨(some 30), none, .move (.tmp 10)⟩, ⟨(some 31), none, .move (.tmp 9)⟩, ⟨(some 32), none, .call ⟨.builtin .len, #[.tmp 31], #[24]⟩⟩, ⟨(some 33), none, .binOp .lss 3 (.tmp 30) (.tmp 32) 3⟩]) (.cond (.tmp 33) (.skip) (.exit 0))) (.seq (.block 1 (.seq .weak (.region [⟨(some 36), none, .move (.tmp 9)⟩, ⟨(some 37), none, .move (.tmp 10)⟩, ⟨(some 38), none, .move (.tmp 10)⟩, ⟨(some 39), none, .binOp .add 3 (.const (.int .i64 14)) (.tmp 38) 3⟩, ⟨(some 40), none, .build 29 #[(0, .tmp 39), (1, .const (.int .i64 1))]⟩, ⟨(some 41), none, .indexAddr 24 (.tmp 36) (.tmp 37)⟩, ⟨none, none, .store 29 (.tmp 41) (.tmp 40)⟩]))) (.region [⟨(some 34), none, .move (.tmp 10)⟩, ⟨(some 35), none, .binOp .add 3 (.tmp 34) (.const (.int .i64 1)) 3⟩, ⟨(some 10), none, .assign (.tmp 35)⟩]))))))) (G_law17_TableFits_12)
def G_law17_TableFits : GCode := .seq (.region [⟨(some 3), none, .box 67 (.tmp 0)⟩, ⟨(some 6), none, .assign (.const (.bool false))⟩]) (.seq (.seq (.seq .weak (.region [⟨(some 16), none, .call ⟨.value (.func 9), #[], #[]⟩⟩, ⟨(some 17), none, .unOp .not 4 (.tmp 16)⟩])) (.cond (.tmp 17) (.seq (.region [⟨(some 6), none, .assign (.const (.bool false))⟩]) (.ret)) (.skip))) (.seq (.seq (.region [⟨(some 18), none, .move (.tmp 2)⟩, ⟨(some 19), none, .call ⟨.builtin .len, #[.tmp 18], #[22]⟩⟩, ⟨(some 20), none, .binOp .gtr 3 (.tmp 19) (.const (.int .i64 20)) 3⟩]) (.cond (.tmp 20) (.seq (.region [⟨(some 6), none, .assign (.const (.bool true))⟩]) (.ret)) (.skip))) (.seq (.seq .weak (.region [⟨(some 21), none, .move (.tmp 1)⟩, ⟨(some 22), none, .convert 5 3 (.tmp 21)⟩, ⟨(some 23), none, .binOp .rem 3 (.tmp 22) (.const (.int .i64 201)) 3⟩, ⟨(some 24), none, .binOp .add 3 (.const (.int .i64 40)) (.tmp 23) 3⟩, ⟨(some 7), none, .assign (.tmp 24)⟩])) (.seq (.seq .weak (.region [⟨(some 25), none, .slice 67 (.tmp 3) none none none⟩, ⟨(some 26), none, .call ⟨.value (.func 10), #[.tmp 25], #[22]⟩⟩, ⟨(some 8), none, .assign (.tmp 26)⟩])) (.seq (.seq .weak (.region [⟨(some 27), none, .move (.tmp 8)⟩, ⟨(some 28), none, .call ⟨.builtin .len, #[.tmp 27], #[23]⟩⟩, ⟨(some 29), none, .makeSlice 24 (.tmp 28) (.tmp 28)⟩, ⟨(some 9), none, .assign (.tmp 29)⟩])) (G_law17_TableFits_8))))))
noncomputable def l_law17_TableFits : List (Nat × Con) := [(9, c_law17_begun), (10, c_law17_heads), (13, c_table_Table), (11, c_made_Made), (15, c_made_Picks_Root), (16, c_table_Root), (26, c_table_Space), (32, c_ref1_PutBlock), (31, c_ref1_TakeBlock)]
noncomputable abbrev K_law17_TableFits : Ctx := ctx (cl l_law17_TableFits)
theorem geq_law17_TableFits : gof K_law17_TableFits Try.f8 = some G_law17_TableFits.strip := by kernel_rfl
theorem sys_law17_TableFits : Go.Eng.Sys Try.prog K_law17_TableFits := sys_of' ⟨ok_law17_begun, ok_law17_heads, ok_table_Table, ok_made_Made, ok_made_Picks_Root, ok_table_Root, ok_table_Space, ok_ref1_PutBlock, ok_ref1_TakeBlock, trivial⟩
theorem hm_law17_TableFits : ConMono K_law17_TableFits := conMono_of sys_law17_TableFits.con
noncomputable def k_law17_TableFits_law17_begun := PLift.up (call_scal (C := K_law17_TableFits) (f := 9) (A := A_law17_begun) (p := p_law17_begun) (r := r_law17_begun) rfl)
noncomputable def k_law17_TableFits_law17_heads := PLift.up (call_fn (C := K_law17_TableFits) (f := 10) (A := A_law17_heads) (p := p_law17_heads) (r := r_law17_heads) rfl)
noncomputable def k_law17_TableFits_table_Table := PLift.up (call_scal (C := K_law17_TableFits) (f := 13) (A := A_table_Table) (p := p_table_Table) (r := r_table_Table) rfl)
noncomputable def k_law17_TableFits_made_Made := PLift.up (call_new (C := K_law17_TableFits) (f := 11) (c := q_made_Made) (e := e_made_Made) (mk := mk_made_Made) rfl)
noncomputable def k_law17_TableFits_made_Picks_Root := PLift.up (call_gen (C := K_law17_TableFits) (f := 15) (modes := m_made_Picks_Root) (F := F_made_Picks_Root) rfl)
noncomputable def k_law17_TableFits_table_Root := PLift.up (call_scal (C := K_law17_TableFits) (f := 16) (A := A_table_Root) (p := p_table_Root) (r := r_table_Root) rfl)
noncomputable def k_law17_TableFits_table_Space := PLift.up (call_scal (C := K_law17_TableFits) (f := 26) (A := A_table_Space) (p := p_table_Space) (r := r_table_Space) rfl)
noncomputable def k_law17_TableFits_ref1_PutBlock := PLift.up (call_scal (C := K_law17_TableFits) (f := 32) (A := A_ref1_PutBlock) (p := p_ref1_PutBlock) (r := r_ref1_PutBlock) rfl)
noncomputable def k_law17_TableFits_ref1_TakeBlock := PLift.up (call_fn (C := K_law17_TableFits) (f := 31) (A := A_ref1_TakeBlock) (p := p_ref1_TakeBlock) (r := r_ref1_TakeBlock) rfl)
set_option maxHeartbeats 4000000 in
theorem fits_12 {n : Nat} (hn1 : 40 ≤ n ∧ n ≤ 240) {m : List Byt} (hm : m.length ≤ 20) {h : List TDset} (hN : NoF h) (hlen : h.length = 8) (hto : tabOk h (mF 8) = true) {σ : St} (hσ : Wk σ (mkS [(2, .t (sl m)), (7, .t (.int .i64 (n : Nat))), (8, .t (sl h)), (9, .t (sl (mF 8)))] .empty)) :
    avp K_law17_TableFits G_law17_TableFits_12 (Ret K_law17_TableFits [.tmp 6] fun v _ => v = .t (.bool true)) σ := by
  unfold G_law17_TableFits_12
  simp only [avp_seq]
  refine ⟨_, hσ, ?_⟩
  have w14 : IntKind.i64.wrap (14 + (n : Int)) = 14 + (n : Int) := IntWalk.i64_in _ (by omega)
  simp only [vP.down, vS.down, vE.down, qA, qB, qC, qD, qE, qF, qG, reduceIte, reduceCtorEq, qH, qI, qJ, ↓avp_condG, ↓tf_arrow, ↓ft_arrow, w14, k_law17_TableFits_table_Table.down, A_table_Table, p_table_Table, r_table_Table, k_law17_TableFits_made_Made.down, q_made_Made, e_made_Made, mk_made_Made, k_law17_TableFits_made_Picks_Root.down, m_made_Picks_Root]
  refine ⟨⟨m, rfl⟩, fun g1 hg1 => ⟨g1, m, rfl, pk_new hg1 (by omega), fun r S1 hr H1 => ?_⟩⟩
  simp only [vP.down, vS.down, vE.down, qA, qB, qC, qD, qE, qF, qG, reduceIte, reduceCtorEq, qH, qI, qJ, ↓avp_condG, ↓tf_arrow, ↓ft_arrow, w14, rtC, ptC, List.cons_append, List.nil_append, dec_TRoot, k_law17_TableFits_table_Root.down, A_table_Root, p_table_Root, r_table_Root]
  intro g3 hg3
  have hd : dataOk n = true := dataOk_iff.2 (by omega)
  have rd : (Cell.dec [TV.seq 2 [[.int .i64 14, .int .i64 (14 + (n : Int))]]] : Option (List TRun)) = some [⟨14, 14 + (n : Int)⟩] := rfl
  have se : (⟨[⟨14, 14 + (n : Int)⟩], [], [], []⟩ : TSpace) = spF n := rfl
  have ls : lenS (spF n) := ⟨by show 1 ≤ 1000; omega, Nat.zero_le _, Nat.zero_le _, Nat.zero_le _⟩
  have hT := tab_exact hto
  rw [hlen] at hT
  have hU := (rt_back hr).2
  have hV := spF_len hd
  obtain ⟨T, eT⟩ : ∃ T, T = tabB h (mF 8) := ⟨_, rfl⟩
  obtain ⟨U, eU⟩ : ∃ T, T = rootB r := ⟨_, rfl⟩
  obtain ⟨V, eV⟩ : ∃ T, T = spaceB n (spF n) := ⟨_, rfl⟩
  rw [← eT] at hT ⊢
  rw [← eU] at hU ⊢
  rw [← eV] at hV
  simp only [vP.down, vS.down, vE.down, qA, qB, qC, qD, qE, qF, qG, reduceIte, reduceCtorEq, qH, qI, qJ, ↓avp_condG, ↓tf_arrow, ↓ft_arrow, rd, Option.bind_some, Option.map_some, se, ls, ← eV, spC, k_law17_TableFits_table_Space.down, A_table_Space, p_table_Space, r_table_Space]
  refine weak_at [(7, .t (.int .i64 (n : Nat))), (8, .t (sl h)), (11, .t (.str T)), (12, .t (.str U)), (13, .t (.str V))] .empty fewer_empty (by simp only [vP.down, vS.down, vE.down, qA, qB, qC, qD, qE, qF, qG, reduceIte, reduceCtorEq, qH, qI, qJ, ↓avp_condG, ↓tf_arrow, ↓ft_arrow, wP.down]) ?_
  clear hg3 H1 hg1
  have hM : mayB ⟨4, 1, T⟩ = true := by
    have c : ((T.length : Nat) : Int) ≤ 249 := by omega
    show (((((decide ((1 : Int) ≤ 4)) && decide ((4 : Int) ≤ 6)) && decide ((1 : Int) ≤ 1)) && numB 1) && decide ((T.length : Int) ≤ 249)) = true
    rw [decide_eq_true c]; rfl
  obtain ⟨kl, kb⟩ := blk_back hM
  obtain ⟨W, eW⟩ : ∃ W, W = blkB ⟨4, 1, T⟩ := ⟨_, rfl⟩
  rw [← eW] at kl kb
  have pW : W.length ≤ 1000000 := by omega
  simp only [vP.down, vS.down, vE.down, qA, qB, qC, qD, qE, qF, qG, reduceIte, reduceCtorEq, qH, qI, qJ, ↓avp_condG, ↓tf_arrow, ↓ft_arrow, ← eW, kb, pW, blC, k_law17_TableFits_ref1_PutBlock.down, A_ref1_PutBlock, p_ref1_PutBlock, r_ref1_PutBlock, k_law17_TableFits_ref1_TakeBlock.down, A_ref1_TakeBlock, p_ref1_TakeBlock, r_ref1_TakeBlock]
  intro g14 hg14
  refine weak_at [(7, .t (.int .i64 (n : Nat))), (8, .t (sl h)), (11, .t (.str T)), (12, .t (.str U)), (13, .t (.str V)), (14, .imm (blC ⟨4, 1, T⟩)), (15, .t (.bool true))] .empty fewer_empty (by
    simp only [vP.down, vS.down, vE.down, qA, qB, qC, qD, qE, qF, qG, reduceIte, reduceCtorEq, qH, qI, qJ, ↓avp_condG, ↓tf_arrow, ↓ft_arrow, wP.down]
    exact w2_imm (l := blC ⟨4, 1, T⟩) (ro := false) (Store.set_same _ _ _) rfl) ?_
  clear hg14
  have i1 : ((h.length : Nat) : Int) = 8 := by omega
  have i2 : ((T.length : Nat) : Int) = 225 := by omega
  have i3 : ((U.length : Nat) : Int) = 82 := by omega
  have u2 : IntKind.i64.wrap ((n : Int) + 7) = ((n + 7 : Nat) : Int) := by rw [IntWalk.i64_in _ (by omega)]; omega
  have u3 := tdiv_nat (n + 7)
  have u4 : IntKind.i64.wrap (((n + 7) / 8 : Nat) : Int) = (((n + 7) / 8 : Nat) : Int) := IntWalk.i64_in _ (by omega)
  have u5 : IntKind.i64.wrap (4 * (((n + 7) / 8 : Nat) : Int)) = ((V.length : Nat) : Int) := by rw [IntWalk.i64_in _ (by omega), hV]; omega
  have i4 : ((V.length : Nat) : Int) ≤ 249 := by omega
  simp only [vP.down, vS.down, vE.down, qA, qB, qC, qD, qE, qF, qG, reduceIte, reduceCtorEq, qH, qI, qJ, ↓avp_condG, ↓tf_arrow, ↓ft_arrow, i1, i2, i3, u2, u3, u4, u5, i4, blC, pick_of, pick_ot]
  trace_state
  simp only [vP.down, vS.down, vE.down, qA, qB, qC, qD, qE, qF, qG, reduceIte, reduceCtorEq, qH, qI, qJ, ↓avp_condG, ↓tf_arrow, ↓ft_arrow, vT.down]
set_option maxHeartbeats 4000000 in
theorem fits_8 {n : Nat} (hn1 : 40 ≤ n ∧ n ≤ 240) {m : List Byt} (hm : m.length ≤ 20) {h : List TDset} (hN : NoF h) (hlen : h.length = 8) (hto : tabOk h (mF 8) = true) {g : Nat} (S0 : Store) (h1 : S0.f g = some (.row 6 ((mF 0).map Cell.enc) false)) {σ : St} (hσ : Wk σ (mkS [(2, .t (sl m)), (7, .t (.int .i64 (n : Nat))), (8, .t (sl h)), (9, .tok g 6 0 8)] S0)) :
    avp K_law17_TableFits G_law17_TableFits_8 (Ret K_law17_TableFits [.tmp 6] fun v _ => v = .t (.bool true)) σ := by
  unfold G_law17_TableFits_8
  simp only [avp_seq]
  refine ⟨_, hσ, ?_⟩
  simp only [vP.down, vS.down, vE.down, qA, qB, qC, qD, qE, qF, qG, reduceIte, reduceCtorEq, qH, qI, qJ, ↓avp_condG, ↓tf_arrow, ↓ft_arrow]
  refine loop_weak hm_law17_TableFits (fun mz σ => ∃ (i : Nat) (S : Store), mz = 8 - i ∧ i ≤ 8 ∧ S.f g = some (.row 6 ((mF i).map Cell.enc) false) ∧ σ = mkS [(2, .t (sl m)), (7, .t (.int .i64 (n : Nat))), (8, .t (sl h)), (9, .tok g 6 0 8), (10, .t (.int .i64 (i : Nat)))] S) ⟨0, S0, rfl, by omega, h1, rfl⟩ (wk_to fewer_refl (by simp only [vP.down, vS.down, vE.down, qA, qB, qC, qD, qE, qF, qG, reduceIte, reduceCtorEq, qH, qI, qJ, ↓avp_condG, ↓tf_arrow, ↓ft_arrow, wP.down, Int.natCast_zero])) ?_
  rintro mz _ ⟨i, S, rfl, hi, f1, rfl⟩
  have hi1 : IntKind.i64.wrap ((i : Int) + 1) = ((i + 1 : Nat) : Int) := by rw [IntWalk.i64_in _ (by omega)]; rfl
  by_cases hlt : i < 8
  case neg =>
    obtain rfl : i = 8 := by omega
    have hge : ¬ ((8 : Int) < 8) := by omega
    simp only [vP.down, vS.down, vE.down, qA, qB, qC, qD, qE, qF, qG, reduceIte, reduceCtorEq, qH, qI, qJ, ↓avp_condG, ↓tf_arrow, ↓ft_arrow, hge, show ((8 : Nat) : Int) = 8 from rfl]
    have d1 : Cell.dec [TV.seq 6 ((mF 8).map Cell.enc)] = some (mF 8) := rfl
    exact fits_12 hn1 hm hN hlen hto (wk_to fewer_empty (by
      simp only [vP.down, vS.down, vE.down, qA, qB, qC, qD, qE, qF, qG, reduceIte, reduceCtorEq, qH, qI, qJ, ↓avp_condG, ↓tf_arrow, ↓ft_arrow, wP.down]
      exact w2_rows f1 rfl d1 rfl))
  have hlt' : (i : Int) < 8 := by omega
  have hi0 : (0 : Int) ≤ (i : Int) := by omega
  have w14 : IntKind.i64.wrap (14 + (i : Int)) = 14 + (i : Int) := IntWalk.i64_in _ (by omega)
  have q1 : putRow ((mF i).map Cell.enc) i 0 [.int .i64 (14 + (i : Int)), .int .i64 1, .int .u32 0, .int .u32 0, .int .u32 0, .int .u32 0] = (mF (i + 1)).map Cell.enc := fix_put (M := mF i) (i := i) (x := ⟨14 + (i : Int), 1, (0, 0, 0, 0)⟩) (by rw [mF_len]; exact hlt)
  have r1 := row_ptr (M := mF i) (i := i) (by rw [mF_len]; exact hlt)
  have l1 : ((mF i).map Cell.enc).length = 8 := by rw [List.length_map, mF_len]
  simp only [vP.down, vS.down, vE.down, qA, qB, qC, qD, qE, qF, qG, reduceIte, reduceCtorEq, qH, qI, qJ, ↓avp_condG, ↓tf_arrow, ↓ft_arrow, hlt']
  refine weak_at [(2, .t (sl m)), (7, .t (.int .i64 (n : Nat))), (8, .t (sl h)), (9, .tok g 6 0 8), (10, .t (.int .i64 (i : Nat)))] S fewer_refl (by simp only [vP.down, vS.down, vE.down, qA, qB, qC, qD, qE, qF, qG, reduceIte, reduceCtorEq, qH, qI, qJ, ↓avp_condG, ↓tf_arrow, ↓ft_arrow, wP.down]) ?_
  simp only [vP.down, vS.down, vE.down, qA, qB, qC, qD, qE, qF, qG, reduceIte, reduceCtorEq, qH, qI, qJ, ↓avp_condG, ↓tf_arrow, ↓ft_arrow, f1, w14, hi1, hlt, hlt', hi0, q1, r1, l1, ptC, set_f]
  refine ⟨by rw [mF_len]; exact hlt, by simp, ?_⟩
  exact round_to (8 - (i + 1)) [(2, .t (sl m)), (7, .t (.int .i64 (n : Nat))), (8, .t (sl h)), (9, .tok g 6 0 8), (10, .t (.int .i64 (i + 1 : Nat)))] (S.set g (some (.row 6 ((mF (i + 1)).map Cell.enc) false))) (by omega) fewer_refl (by simp only [vP.down, vS.down, vE.down, qA, qB, qC, qD, qE, qF, qG, reduceIte, reduceCtorEq, qH, qI, qJ, ↓avp_condG, ↓tf_arrow, ↓ft_arrow, wP.down]) ⟨i + 1, _, rfl, by omega, Store.set_same _ _ _, rfl⟩
noncomputable def A_law17_TableFits : Arms ((Byt × Byt × Byt × Byt × Byt × Byt × Byt × Byt × Byt × Byt × Byt × Byt × Byt × Byt × Byt × Byt × Byt × Byt × Byt × Byt × Byt × Byt × Byt × Byt) × Byt × (List Byt) × Unit) := Arms.cons (argA (Byt × Byt × Byt × Byt × Byt × Byt × Byt × Byt × Byt × Byt × Byt × Byt × Byt × Byt × Byt × Byt × Byt × Byt × Byt × Byt × Byt × Byt × Byt × Byt)) (Arms.cons (argT Byt) (Arms.cons (argT (List Byt)) (Arms.nil)))
def p_law17_TableFits (x : (Byt × Byt × Byt × Byt × Byt × Byt × Byt × Byt × Byt × Byt × Byt × Byt × Byt × Byt × Byt × Byt × Byt × Byt × Byt × Byt × Byt × Byt × Byt × Byt) × Byt × (List Byt) × Unit) : Prop := ((goodAny x.1.1 ∧ (goodAny x.1.2.1 ∧ (goodAny x.1.2.2.1 ∧ (goodAny x.1.2.2.2.1 ∧ (goodAny x.1.2.2.2.2.1 ∧ (goodAny x.1.2.2.2.2.2.1 ∧ (goodAny x.1.2.2.2.2.2.2.1 ∧ (goodAny x.1.2.2.2.2.2.2.2.1 ∧ (goodAny x.1.2.2.2.2.2.2.2.2.1 ∧ (goodAny x.1.2.2.2.2.2.2.2.2.2.1 ∧ (goodAny x.1.2.2.2.2.2.2.2.2.2.2.1 ∧ (goodAny x.1.2.2.2.2.2.2.2.2.2.2.2.1 ∧ (goodAny x.1.2.2.2.2.2.2.2.2.2.2.2.2.1 ∧ (goodAny x.1.2.2.2.2.2.2.2.2.2.2.2.2.2.1 ∧ (goodAny x.1.2.2.2.2.2.2.2.2.2.2.2.2.2.2.1 ∧ (goodAny x.1.2.2.2.2.2.2.2.2.2.2.2.2.2.2.2.1 ∧ (goodAny x.1.2.2.2.2.2.2.2.2.2.2.2.2.2.2.2.2.1 ∧ (goodAny x.1.2.2.2.2.2.2.2.2.2.2.2.2.2.2.2.2.2.1 ∧ (goodAny x.1.2.2.2.2.2.2.2.2.2.2.2.2.2.2.2.2.2.2.1 ∧ (goodAny x.1.2.2.2.2.2.2.2.2.2.2.2.2.2.2.2.2.2.2.2.1 ∧ (goodAny x.1.2.2.2.2.2.2.2.2.2.2.2.2.2.2.2.2.2.2.2.2.1 ∧ (goodAny x.1.2.2.2.2.2.2.2.2.2.2.2.2.2.2.2.2.2.2.2.2.2.1 ∧ (goodAny x.1.2.2.2.2.2.2.2.2.2.2.2.2.2.2.2.2.2.2.2.2.2.2.1 ∧ (goodAny x.1.2.2.2.2.2.2.2.2.2.2.2.2.2.2.2.2.2.2.2.2.2.2.2))))))))))))))))))))))))) ∧ (goodAny x.2.1) ∧ (goodList (fun x : Byt => goodAny x) x.2.2.1) ∧ goodAny (x.2.2.2)
abbrev r_law17_TableFits (x : (Byt × Byt × Byt × Byt × Byt × Byt × Byt × Byt × Byt × Byt × Byt × Byt × Byt × Byt × Byt × Byt × Byt × Byt × Byt × Byt × Byt × Byt × Byt × Byt) × Byt × (List Byt) × Unit) : AV := rTrue x
theorem rd_law17_TableFits : ReadsA Try.prog [67, 5, 22] A_law17_TableFits p_law17_TableFits := (readsA_A (reads_arr Try.underlying67 (by kernel_rfl) (readsL_cons (reads_u8 Try.underlying5) (by kernel_rfl) (readsL_cons (reads_u8 Try.underlying5) (by kernel_rfl) (readsL_cons (reads_u8 Try.underlying5) (by kernel_rfl) (readsL_cons (reads_u8 Try.underlying5) (by kernel_rfl) (readsL_cons (reads_u8 Try.underlying5) (by kernel_rfl) (readsL_cons (reads_u8 Try.underlying5) (by kernel_rfl) (readsL_cons (reads_u8 Try.underlying5) (by kernel_rfl) (readsL_cons (reads_u8 Try.underlying5) (by kernel_rfl) (readsL_cons (reads_u8 Try.underlying5) (by kernel_rfl) (readsL_cons (reads_u8 Try.underlying5) (by kernel_rfl) (readsL_cons (reads_u8 Try.underlying5) (by kernel_rfl) (readsL_cons (reads_u8 Try.underlying5) (by kernel_rfl) (readsL_cons (reads_u8 Try.underlying5) (by kernel_rfl) (readsL_cons (reads_u8 Try.underlying5) (by kernel_rfl) (readsL_cons (reads_u8 Try.underlying5) (by kernel_rfl) (readsL_cons (reads_u8 Try.underlying5) (by kernel_rfl) (readsL_cons (reads_u8 Try.underlying5) (by kernel_rfl) (readsL_cons (reads_u8 Try.underlying5) (by kernel_rfl) (readsL_cons (reads_u8 Try.underlying5) (by kernel_rfl) (readsL_cons (reads_u8 Try.underlying5) (by kernel_rfl) (readsL_cons (reads_u8 Try.underlying5) (by kernel_rfl) (readsL_cons (reads_u8 Try.underlying5) (by kernel_rfl) (readsL_cons (reads_u8 Try.underlying5) (by kernel_rfl) (readsL_one (reads_u8 Try.underlying5) (by kernel_rfl)))))))))))))))))))))))))) (by kernel_rfl) (readsA_T (reads_u8 Try.underlying5) (by kernel_rfl) (readsA_T (reads_list Try.underlying22 (reads_u8 Try.underlying5) (by kernel_rfl) (by decide)) (by kernel_rfl) readsA_nil)))
set_option maxRecDepth 100000 in
set_option maxHeartbeats 4000000 in
theorem body_law17_TableFits (x) (hx : p_law17_TableFits x) : avp K_law17_TableFits G_law17_TableFits (Ret K_law17_TableFits [.tmp 6] fun v _ => v = r_law17_TableFits x) (entry (A_law17_TableFits.enc x) .empty) := by
  obtain ⟨t, ⟨k⟩, m, ⟨⟩⟩ := x
  obtain ⟨B, hB, hE⟩ := arr24 t
  change avp _ _ (Ret _ _ fun v _ => v = .t (.bool true)) (entry [.agg ((Cell.enc t).map .t), .t (.int .u8 (k.toNat : Int)), .t (sl m)] .empty)
  rw [hE]
  have hBl : ((B.map Go.Eng.one).map AV.t).length = 24 := by rw [List.length_map, List.length_map, hB]
  unfold G_law17_TableFits
  simp only [vP.down, vS.down, vE.down, qA, qB, qC, qD, qE, qF, qG, reduceIte, reduceCtorEq, qH, qI, qJ, ↓avp_condG, ↓tf_arrow, ↓ft_arrow, hBl]
  intro g hg
  obtain ⟨X, hX⟩ : ∃ X, X = (B.map Go.Eng.one).map AV.t := ⟨_, rfl⟩
  rw [← hX]
  refine weak_at [(1, .t (.int .u8 (k.toNat : Int))), (2, .t (sl m)), (3, .ptr g 0)] (Store.empty.set g (some (.box X false))) fewer_refl (by simp only [vP.down, vS.down, vE.down, qA, qB, qC, qD, qE, qF, qG, reduceIte, reduceCtorEq, qH, qI, qJ, ↓avp_condG, ↓tf_arrow, ↓ft_arrow, wP.down]) ?_
  by_cases c1 : (20 : Int) < (m.length : Int)
  · simp only [vP.down, vS.down, vE.down, qA, qB, qC, qD, qE, qF, qG, reduceIte, reduceCtorEq, qH, qI, qJ, ↓avp_condG, ↓tf_arrow, ↓ft_arrow, k_law17_TableFits_law17_begun.down, A_law17_begun, p_law17_begun, r_law17_begun, c1, gt_iff_lt, pick_of, pick_ot]
    simp only [vP.down, vS.down, vE.down, qA, qB, qC, qD, qE, qF, qG, reduceIte, reduceCtorEq, qH, qI, qJ, ↓avp_condG, ↓tf_arrow, ↓ft_arrow, vT.down]
  have k8 := k.toNat_lt
  have w1 : IntKind.i64.wrap (k.toNat : Int) = (k.toNat : Int) := IntWalk.i64_in _ (by omega)
  have w2 : (k.toNat : Int).tmod 201 = ((k.toNat % 201 : Nat) : Int) := by
    rw [Int.tmod_eq_emod_of_nonneg (by omega)]; exact (Int.natCast_emod k.toNat 201).symm
  have w3 : IntKind.i64.wrap ((k.toNat % 201 : Nat) : Int) = ((k.toNat % 201 : Nat) : Int) := IntWalk.i64_in _ (by omega)
  obtain ⟨n, hn⟩ : ∃ n, n = 40 + k.toNat % 201 := ⟨_, rfl⟩
  have w4 : IntKind.i64.wrap (40 + ((k.toNat % 201 : Nat) : Int)) = (n : Int) := by rw [IntWalk.i64_in _ (by omega)]; omega
  have hn1 : 40 ≤ n ∧ n ≤ 240 := by omega
  simp only [vP.down, vS.down, vE.down, qA, qB, qC, qD, qE, qF, qG, reduceIte, reduceCtorEq, qH, qI, qJ, ↓avp_condG, ↓tf_arrow, ↓ft_arrow, k_law17_TableFits_law17_begun.down, A_law17_begun, p_law17_begun, r_law17_begun, c1, gt_iff_lt, pick_of, pick_ot]
  refine weak_at [(1, .t (.int .u8 (k.toNat : Int))), (2, .t (sl m)), (3, .ptr g 0)] (Store.empty.set g (some (.box X false))) fewer_refl (by simp only [vP.down, vS.down, vE.down, qA, qB, qC, qD, qE, qF, qG, reduceIte, reduceCtorEq, qH, qI, qJ, ↓avp_condG, ↓tf_arrow, ↓ft_arrow, wP.down]) ?_
  simp only [vP.down, vS.down, vE.down, qA, qB, qC, qD, qE, qF, qG, reduceIte, reduceCtorEq, qH, qI, qJ, ↓avp_condG, ↓tf_arrow, ↓ft_arrow, w1, w2, w3, w4]
  refine weak_at [(2, .t (sl m)), (3, .ptr g 0), (7, .t (.int .i64 (n : Nat)))] (Store.empty.set g (some (.box X false))) fewer_refl (by simp only [vP.down, vS.down, vE.down, qA, qB, qC, qD, qE, qF, qG, reduceIte, reduceCtorEq, qH, qI, qJ, ↓avp_condG, ↓tf_arrow, ↓ft_arrow, wP.down]) ?_
  have hb0 : (Store.empty.set g (some (.box X false))).borrow (.btok g 1 0 24) = some (.t (sl (B.take 24)), [g]) := borrow_btok (β := Byt) (l := B) (ro := false) rfl (by rw [Store.set_same, hX]) (by omega)
  have hb1 : B.take 24 = B := List.take_of_length_le (by omega)
  rw [hb1] at hb0
  have pl : B.length ≤ 1000 := by omega
  simp only [vP.down, vS.down, vE.down, qA, qB, qC, qD, qE, qF, qG, reduceIte, reduceCtorEq, qH, qI, qJ, ↓avp_condG, ↓tf_arrow, ↓ft_arrow, hb0, pl, k_law17_TableFits_law17_heads.down, A_law17_heads, p_law17_heads, r_law17_heads]
  have hN := head_noF (l := B)
  have hlen := head_len (l := B)
  have hk8 : hdK B = 8 := by unfold hdK; omega
  rw [hk8] at hlen
  have hto : tabOk (headL B) (mF 8) = true := head_ok (l := B) (p := mF 8) (by rw [hk8]; exact mF_len 8) mF_ok
  obtain ⟨h, hh⟩ : ∃ h, h = headL B := ⟨_, rfl⟩
  rw [← hh] at hN hlen hto ⊢
  have hm : m.length ≤ 20 := by omega
  refine weak_at [(2, .t (sl m)), (7, .t (.int .i64 (n : Nat))), (8, .t (sl h))] .empty fewer_empty (by simp only [vP.down, vS.down, vE.down, qA, qB, qC, qD, qE, qF, qG, reduceIte, reduceCtorEq, qH, qI, qJ, ↓avp_condG, ↓tf_arrow, ↓ft_arrow, wP.down]) ?_
  have h8 : ((h.length : Nat) : Int) = 8 := by omega
  simp only [vP.down, vS.down, vE.down, qA, qB, qC, qD, qE, qF, qG, reduceIte, reduceCtorEq, qH, qI, qJ, ↓avp_condG, ↓tf_arrow, ↓ft_arrow, h8, show (8 : Int).toNat = 8 from rfl]
  refine ⟨by decide, fun g2 hg2 => ?_⟩
  have hz6 : (List.replicate 8 [TV.int .i64 0, .int .i64 0, .int .u32 0, .int .u32 0, .int .u32 0, .int .u32 0]) = (mF 0).map Cell.enc := rfl
  rw [hz6]
  exact fits_8 hn1 hm hN hlen hto (g := g2) (Store.empty.set g2 (some (.row 6 ((mF 0).map Cell.enc) false))) (Store.set_same _ _ _) (wk_to fewer_refl (by simp only [vP.down, vS.down, vE.down, qA, qB, qC, qD, qE, qF, qG, reduceIte, reduceCtorEq, qH, qI, qJ, ↓avp_condG, ↓tf_arrow, ↓ft_arrow, wP.down]))
noncomputable def c_law17_TableFits : Con := fnScal A_law17_TableFits p_law17_TableFits r_law17_TableFits
theorem ok_law17_TableFits : COk Try.prog 8 c_law17_TableFits := fn_sok sys_law17_TableFits mixed Try.func8 (by kernel_rfl) geq_law17_TableFits Try.ntmps8 (by rw [Try.results8]) (fun x => by simp [rTrue, AV.scal]) fun x hx => ⟨Nat.le_of_ble_eq_true rfl, body_law17_TableFits x hx⟩
theorem says_law17_TableFits : SaysTrue Rows.tableFitsSpec 3 := ⟨rfl, fun H ds h => by
  match ds, h with
  | [d0, d1, d2], _ => exact ⟨rfl, rfl, rfl⟩⟩
set_option maxRecDepth 100000 in
theorem lifted_law17_TableFits (os : Os) (started : os.Started) (H : Type) (enc : TypeId × Value → H) :
    ReturnsInHanded {} Try.checked os 8 .any (Rows.tableFitsSpec.pre6 enc Try.prog Try.f8 Rows.tableFitsRow.domain false) (Rows.tableFitsSpec.post enc Try.prog Try.f8 false true false false) := by
  refine returnsInHanded_of_change (C := Try.checked) own started (by kernel_rfl) Try.func8
    (ChangeSpec.witness6 (enc := enc) (C := Try.checked) false ⟨#[], #[.agg #[.int .u8 0, .int .u8 0, .int .u8 0, .int .u8 0, .int .u8 0, .int .u8 0, .int .u8 0, .int .u8 0, .int .u8 0, .int .u8 0, .int .u8 0, .int .u8 0, .int .u8 0, .int .u8 0, .int .u8 0, .int .u8 0, .int .u8 0, .int .u8 0, .int .u8 0, .int .u8 0, .int .u8 0, .int .u8 0, .int .u8 0, .int .u8 0], .int .u8 0, .slice none 0 0], []⟩ 8 (by kernel_rfl) (by kernel_rfl) (by kernel_rfl) (by kernel_rfl)) ?_
  intro W base args ds gs before hval hW _ _
  exact law_contract (ts := [67, 5, 22]) (tb := 4) ok_law17_TableFits (by rw [Try.params8]) (by kernel_rfl) Try.underlying4 laid (by kernel_rfl) rd_law17_TableFits (fun _ h => h) says_law17_TableFits H enc W base args ds gs before hval hW
theorem over_law17_TableFits : Rows.tableFitsRow.holds Try.pinned (OpenSpec.ofChange Rows.tableFitsSpec) :=
  OpenClaim.holds_of_wide 8 Try.f8 rfl rfl rfl rfl rfl rfl rfl ⟨rfl, rfl, rfl, rfl, rfl⟩ rfl rfl rfl rfl rfl (by kernel_rfl) Try.func8 (by kernel_rfl)
    (of_decide_eq_true (by kernel_rfl)) (by unfold Func.isWrapper; first | (rw [if_pos (by decide +kernel)]; kernel_rfl) | (rw [if_neg (by decide +kernel)]; exact ⟨rfl, rfl⟩))
    (fun os started H enc _ => lifted_law17_TableFits os started H enc)
theorem tableFits_holds : Rows.TableFitsSaid := over_law17_TableFits
end Go.Proofs.Ytofcmdkmhbbbjaa
