/-
  Sets as loads: a row.
-/
import Derived.Test.YtofcmdkmhbbbjaaFnsF
set_option linter.unusedSimpArgs false
set_option linter.unusedVariables false
open Nat renaming reduceEqDiff → qA, reduceAdd → qB, reduceSub → qC, reduceMul → qD, reduceLeDiff → qE, reduceLT → qF
open Int renaming reduceToNat → qG, reduceEq → qH, reduceLT → qI, reduceLE → qJ
namespace Go.Proofs.Ytofcmdkmhbbbjaa
open Go Go.Eng
set_option maxRecDepth 100000
def upTo (n m : Int) : Bool := decide (0 ≤ n) && decide (n ≤ m)
def G_table_within : GCode := .seq (.region [⟨(some 4), none, .assign (.const (.bool false))⟩]) (.seq (.region [⟨(some 5), none, .move (.tmp 0)⟩, ⟨(some 6), none, .binOp .geq 3 (.tmp 5) (.const (.int .i64 0)) 3⟩, ⟨(some 7), none, .move (.tmp 6)⟩, ⟨(some 8), (some (7, true)), .move (.tmp 0)⟩, ⟨(some 9), (some (7, true)), .move (.tmp 1)⟩, ⟨(some 10), (some (7, true)), .binOp .leq 3 (.tmp 8) (.tmp 9) 3⟩, ⟨(some 11), none, .pick (.tmp 7) (.tmp 10) (.const (.bool false))⟩, ⟨(some 4), none, .assign (.tmp 11)⟩]) (.ret))
noncomputable def l_table_within : List (Nat × Con) := []
noncomputable abbrev K_table_within : Ctx := ctx (cl l_table_within)
theorem geq_table_within : gof K_table_within Try.f42 = some G_table_within.strip := by kernel_rfl
theorem sys_table_within : Go.Eng.Sys Try.prog K_table_within := sys_of' (l := []) trivial
def A_table_within := Arms.cons (argT Int) (Arms.cons (argT Int) Arms.nil)
def p_table_within (_ : Int × Int × Unit) : Prop := True
def r_table_within (x : Int × Int × Unit) : AV := .t (.bool (upTo x.1 x.2.1))
theorem body_table_within (x : Int × Int × Unit) (_ : p_table_within x) : avp K_table_within G_table_within (Ret K_table_within [.tmp 4] fun v _ => v = r_table_within x) (entry (A_table_within.enc x) .empty) := by
  obtain ⟨n, m, ⟨⟩⟩ := x
  change avp _ _ (Ret _ _ fun v _ => v = .t (.bool (upTo n m))) (entry [.t (.int .i64 n), .t (.int .i64 m)] .empty)
  unfold G_table_within upTo
  simp only [vP.down, vS.down, vE.down, qA, qB, qC, qD, qE, qF, qG, reduceIte, reduceCtorEq, qH, qI, qJ, ↓avp_condG, ↓tf_arrow, ↓ft_arrow, ge_iff_le, pick_of, pick_ot]
  simp only [vP.down, vS.down, vE.down, qA, qB, qC, qD, qE, qF, qG, reduceIte, reduceCtorEq, qH, qI, qJ, ↓avp_condG, ↓tf_arrow, ↓ft_arrow, vT.down]
noncomputable def c_table_within : Con := fnScal A_table_within p_table_within r_table_within
theorem ok_table_within : COk Try.prog 42 c_table_within := fn_sok sys_table_within mixed Try.func42 (by kernel_rfl) geq_table_within Try.ntmps42 (by rw [Try.results42]) (fun x => by unfold r_table_within; simp [AV.scal]) fun x hx => ⟨Nat.le_of_ble_eq_true rfl, body_table_within x hx⟩
def rowOk (last : Int) (d : TDset) (p : TPtr) : Bool := ((((((decide (last < d.ID) && decide (d.ID ≤ 65535)) && (decide (d.Kind = 1) || decide (d.Kind = 2))) && upTo d.Origin 65535) && upTo d.Quota 255) && mayP p) && !decide (p = zeroP))
def dsC (d : TDset) : List TV := [.int .i64 d.ID, .int .i64 d.Kind, .int .i64 d.Origin, .int .i64 d.Quota, sl d.Files]
def ptC (p : TPtr) : List TV := [.int .i64 p.Addr, .int .i64 p.Birth, .int .u32 (p.Sum.1.toNat : Int), .int .u32 (p.Sum.2.1.toNat : Int), .int .u32 (p.Sum.2.2.1.toNat : Int), .int .u32 (p.Sum.2.2.2.toNat : Int)]
def rwC (d : TDset) (p : TPtr) : List TV := dsC d ++ ptC p
def F4 : List UInt8 := [50, 49, 50, 49]
def numsD (d : TDset) : List Int := [d.ID, d.Kind, d.Origin, d.Quota]
def rowB (d : TDset) (p : TPtr) : List UInt8 := putF F4 (numsD d) ++ ptrsF [p]
def G_table_row_may : GCode := .seq (.region [⟨(some 2), none, .box 81 (.tmp 0)⟩, ⟨(some 4), none, .assign (.const (.bool false))⟩]) (.seq (.seq .weak (.region [⟨(some 5), none, .fieldAddr 81 (.tmp 2) 0⟩, ⟨(some 6), none, .fieldAddr 36 (.tmp 5) 0⟩, ⟨(some 7), none, .load 3 (.tmp 6)⟩, ⟨(some 8), none, .move (.tmp 1)⟩, ⟨(some 9), none, .binOp .gtr 3 (.tmp 7) (.tmp 8) 3⟩, ⟨(some 10), none, .move (.tmp 9)⟩, ⟨(some 11), (some (10, true)), .fieldAddr 81 (.tmp 2) 0⟩, ⟨(some 12), (some (10, true)), .fieldAddr 36 (.tmp 11) 0⟩, ⟨(some 13), (some (10, true)), .load 3 (.tmp 12)⟩, ⟨(some 14), (some (10, true)), .binOp .leq 3 (.tmp 13) (.const (.int .i64 65535)) 3⟩, ⟨(some 15), none, .pick (.tmp 10) (.tmp 14) (.const (.bool false))⟩, ⟨(some 16), none, .move (.tmp 15)⟩, ⟨(some 17), (some (16, true)), .fieldAddr 81 (.tmp 2) 0⟩, ⟨(some 18), (some (16, true)), .fieldAddr 36 (.tmp 17) 1⟩, ⟨(some 19), (some (16, true)), .load 3 (.tmp 18)⟩, ⟨(some 20), (some (16, true)), .binOp .eql 3 (.tmp 19) (.const (.int .i64 1)) 3⟩, ⟨(some 21), (some (16, true)), .move (.tmp 20)⟩, ⟨(some 22), (some (21, false)), .fieldAddr 81 (.tmp 2) 0⟩, ⟨(some 23), (some (21, false)), .fieldAddr 36 (.tmp 22) 1⟩, ⟨(some 24), (some (21, false)), .load 3 (.tmp 23)⟩, ⟨(some 25), (some (21, false)), .binOp .eql 3 (.tmp 24) (.const (.int .i64 2)) 3⟩, ⟨(some 26), (some (16, true)), .pick (.tmp 21) (.const (.bool true)) (.tmp 25)⟩, ⟨(some 27), none, .pick (.tmp 16) (.tmp 26) (.const (.bool false))⟩, ⟨(some 28), none, .move (.tmp 27)⟩, ⟨(some 29), (some (28, true)), .fieldAddr 81 (.tmp 2) 0⟩, ⟨(some 30), (some (28, true)), .fieldAddr 36 (.tmp 29) 2⟩, ⟨(some 31), (some (28, true)), .load 3 (.tmp 30)⟩, ⟨(some 32), (some (28, true)), .call ⟨.value (.func 42), #[.tmp 31, .const (.int .i64 65535)], #[3, 3]⟩⟩, ⟨(some 33), none, .pick (.tmp 28) (.tmp 32) (.const (.bool false))⟩, ⟨(some 34), none, .move (.tmp 33)⟩, ⟨(some 35), (some (34, true)), .fieldAddr 81 (.tmp 2) 0⟩, ⟨(some 36), (some (34, true)), .fieldAddr 36 (.tmp 35) 3⟩, ⟨(some 37), (some (34, true)), .load 3 (.tmp 36)⟩, ⟨(some 38), (some (34, true)), .call ⟨.value (.func 42), #[.tmp 37, .const (.int .i64 255)], #[3, 3]⟩⟩, ⟨(some 39), none, .pick (.tmp 34) (.tmp 38) (.const (.bool false))⟩, ⟨(some 40), none, .move (.tmp 39)⟩, ⟨(some 41), (some (40, true)), .fieldAddr 81 (.tmp 2) 1⟩, ⟨(some 42), (some (40, true)), .load 29 (.tmp 41)⟩, ⟨(some 43), (some (40, true)), .call ⟨.value (.func 61), #[.tmp 42], #[29]⟩⟩, ⟨(some 44), none, .pick (.tmp 40) (.tmp 43) (.const (.bool false))⟩, ⟨(some 45), none, .move (.tmp 44)⟩, ⟨(some 46), (some (45, true)), .fieldAddr 81 (.tmp 2) 1⟩, ⟨(some 47), (some (45, true)), .load 29 (.tmp 46)⟩, ⟨(some 48), (some (45, true)), .build 29 #[]⟩, ⟨(some 49), (some (45, true)), .binOp .neq 29 (.tmp 47) (.tmp 48) 29⟩, ⟨(some 50), none, .pick (.tmp 45) (.tmp 49) (.const (.bool false))⟩, ⟨(some 4), none, .assign (.tmp 50)⟩])) (.ret))
noncomputable def l_table_row_may : List (Nat × Con) := [(42, c_table_within), (61, c_ptr_May)]
noncomputable abbrev K_table_row_may : Ctx := ctx (cl l_table_row_may)
theorem geq_table_row_may : gof K_table_row_may Try.f35 = some G_table_row_may.strip := by kernel_rfl
theorem sys_table_row_may : Go.Eng.Sys Try.prog K_table_row_may := sys_of' ⟨ok_table_within, ok_ptr_May, trivial⟩
noncomputable def k_table_row_may_table_within := PLift.up (call_scal (C := K_table_row_may) (f := 42) (A := A_table_within) (p := p_table_within) (r := r_table_within) rfl)
noncomputable def k_table_row_may_ptr_May := PLift.up (call_scal (C := K_table_row_may) (f := 61) (A := A_ptr_May) (p := p_ptr_May) (r := r_ptr_May) rfl)
def A_table_row_may := Arms.cons (argA Trow) (Arms.cons (argT Int) Arms.nil)
def p_table_row_may (_ : Trow × Int × Unit) : Prop := True
def r_table_row_may (x : Trow × Int × Unit) : AV := .t (.bool (rowOk x.2.1 x.1.Dset x.1.p))
set_option maxHeartbeats 2000000 in
theorem body_table_row_may (x : Trow × Int × Unit) (_ : p_table_row_may x) : avp K_table_row_may G_table_row_may (Ret K_table_row_may [.tmp 4] fun v _ => v = r_table_row_may x) (entry (A_table_row_may.enc x) .empty) := by
  obtain ⟨⟨d, p⟩, last, ⟨⟩⟩ := x
  change avp _ _ (Ret _ _ fun v _ => v = .t (.bool (rowOk last d p))) (entry [.agg ((rwC d p).map .t), .t (.int .i64 last)] .empty)
  unfold G_table_row_may
  simp only [vP.down, vS.down, vE.down, qA, qB, qC, qD, qE, qF, qG, reduceIte, reduceCtorEq, qH, qI, qJ, ↓avp_condG, ↓tf_arrow, ↓ft_arrow, rwC, dsC, ptC, List.cons_append, List.nil_append]
  intro g hg
  refine weak_at [(1, .t (.int .i64 last)), (2, .imm (rwC d p))] .empty fewer_empty (by
    simp only [vP.down, vS.down, vE.down, qA, qB, qC, qD, qE, qF, qG, reduceIte, reduceCtorEq, qH, qI, qJ, ↓avp_condG, ↓tf_arrow, ↓ft_arrow, wP.down]
    exact w2_imm (l := rwC d p) (ro := false) (Store.set_same _ _ _) rfl) ?_
  simp only [vP.down, vS.down, vE.down, qA, qB, qC, qD, qE, qF, qG, reduceIte, reduceCtorEq, qH, qI, qJ, ↓avp_condG, ↓tf_arrow, ↓ft_arrow, rwC, dsC, ptC, List.cons_append, List.nil_append, gt_iff_lt, pick_of, pick_ot, k_table_row_may_table_within.down, A_table_within, p_table_within, r_table_within, k_table_row_may_ptr_May.down, A_ptr_May, p_ptr_May, r_ptr_May, zero_cells]
  refine ⟨fun h => ⟨h, fun h2 => ⟨h, h2⟩⟩, ?_⟩
  simp only [vP.down, vS.down, vE.down, qA, qB, qC, qD, qE, qF, qG, reduceIte, reduceCtorEq, qH, qI, qJ, ↓avp_condG, ↓tf_arrow, ↓ft_arrow, vT.down, rowOk]
noncomputable def c_table_row_may : Con := fnScal A_table_row_may p_table_row_may r_table_row_may
theorem ok_table_row_may : COk Try.prog 35 c_table_row_may := fn_sok sys_table_row_may mixed Try.func35 (by kernel_rfl) geq_table_row_may Try.ntmps35 (by rw [Try.results35]) (fun x => by unfold r_table_row_may; simp [AV.scal]) fun x hx => ⟨Nat.le_of_ble_eq_true rfl, body_table_row_may x hx⟩
def G_table_row_bytes : GCode := .seq (.region [⟨(some 1), none, .box 81 (.tmp 0)⟩, ⟨(some 2), none, .assign (.const (.string ⟨#[]⟩))⟩]) (.seq (.seq .weak (.region [⟨(some 3), none, .fieldAddr 81 (.tmp 1) 0⟩, ⟨(some 4), none, .fieldAddr 36 (.tmp 3) 0⟩, ⟨(some 5), none, .load 3 (.tmp 4)⟩, ⟨(some 6), none, .fieldAddr 81 (.tmp 1) 0⟩, ⟨(some 7), none, .fieldAddr 36 (.tmp 6) 1⟩, ⟨(some 8), none, .load 3 (.tmp 7)⟩, ⟨(some 9), none, .fieldAddr 81 (.tmp 1) 0⟩, ⟨(some 10), none, .fieldAddr 36 (.tmp 9) 2⟩, ⟨(some 11), none, .load 3 (.tmp 10)⟩, ⟨(some 12), none, .fieldAddr 81 (.tmp 1) 0⟩, ⟨(some 13), none, .fieldAddr 36 (.tmp 12) 3⟩, ⟨(some 14), none, .load 3 (.tmp 13)⟩, ⟨(some 15), none, .buildSlice 58 4 #[(0, .tmp 5), (1, .tmp 8), (2, .tmp 11), (3, .tmp 14)]⟩, ⟨(some 16), none, .call ⟨.value (.func 34), #[.const (.string ⟨#[50, 49, 50, 49]⟩), .tmp 15], #[9, 58]⟩⟩, ⟨(some 17), none, .fieldAddr 81 (.tmp 1) 1⟩, ⟨(some 18), none, .load 29 (.tmp 17)⟩, ⟨(some 19), none, .buildSlice 24 1 #[(0, .tmp 18)]⟩, ⟨(some 20), none, .call ⟨.value (.func 43), #[.tmp 19], #[24]⟩⟩, ⟨(some 21), none, .binOp .add 9 (.tmp 16) (.tmp 20) 9⟩, ⟨(some 2), none, .assign (.tmp 21)⟩])) (.ret))
noncomputable def l_table_row_bytes : List (Nat × Con) := [(34, c_pack_Put), (43, c_ptr_Put)]
noncomputable abbrev K_table_row_bytes : Ctx := ctx (cl l_table_row_bytes)
theorem geq_table_row_bytes : gof K_table_row_bytes Try.f36 = some G_table_row_bytes.strip := by kernel_rfl
theorem sys_table_row_bytes : Go.Eng.Sys Try.prog K_table_row_bytes := sys_of' ⟨ok_pack_Put, ok_ptr_Put, trivial⟩
noncomputable def k_table_row_bytes_pack_Put := PLift.up (call_scal (C := K_table_row_bytes) (f := 34) (A := A_pack_Put) (p := p_pack_Put) (r := r_pack_Put) rfl)
noncomputable def k_table_row_bytes_ptr_Put := PLift.up (call_scal (C := K_table_row_bytes) (f := 43) (A := A_ptr_Put) (p := p_ptr_Put) (r := r_ptr_Put) rfl)
def A_table_row_bytes := Arms.cons (argA Trow) Arms.nil
def p_table_row_bytes (_ : Trow × Unit) : Prop := True
def r_table_row_bytes (x : Trow × Unit) : AV := .t (.str (rowB x.1.Dset x.1.p))
theorem putF_len (f : List UInt8) (l : List Int) : (putF f l).length ≤ 4 * f.length := by
  unfold putF
  split
  · next h =>
    have := flat_len h.2 l h.1 f.length (Nat.le_refl _)
    rw [← digs_len f, List.take_length, digs_len, h.1, List.take_length] at this
    rw [h.1]; exact this
  · exact Nat.zero_le _
theorem ptrsF_len (l : List TPtr) : (ptrsF l).length ≤ 22 * l.length := by
  unfold ptrsF
  split
  · rw [ptrsB_len]; exact Nat.le_refl _
  · exact Nat.zero_le _
theorem decI4 {a b c d : Int} : (argT (List Int)).dec (.t (.seq 1 [[.int .i64 a], [.int .i64 b], [.int .i64 c], [.int .i64 d]])) = some [a, b, c, d] := argT_sl (l := [a, b, c, d])
theorem decI3 {a b c : Int} : (argT (List Int)).dec (.t (.seq 1 [[.int .i64 a], [.int .i64 b], [.int .i64 c]])) = some [a, b, c] := argT_sl (l := [a, b, c])
theorem decI1 {a : Int} : (argT (List Int)).dec (.t (.seq 1 [[.int .i64 a]])) = some [a] := argT_sl (l := [a])
theorem decP1 {p : TPtr} : (argT (List TPtr)).dec (.t (.seq 6 [[.int .i64 p.Addr, .int .i64 p.Birth, .int .u32 (p.Sum.1.toNat : Int), .int .u32 (p.Sum.2.1.toNat : Int), .int .u32 (p.Sum.2.2.1.toNat : Int), .int .u32 (p.Sum.2.2.2.toNat : Int)]])) = some [p] := argT_sl (l := [p])
set_option maxHeartbeats 2000000 in
theorem body_table_row_bytes (x : Trow × Unit) (_ : p_table_row_bytes x) : avp K_table_row_bytes G_table_row_bytes (Ret K_table_row_bytes [.tmp 2] fun v _ => v = r_table_row_bytes x) (entry (A_table_row_bytes.enc x) .empty) := by
  obtain ⟨⟨d, p⟩, ⟨⟩⟩ := x
  change avp _ _ (Ret _ _ fun v _ => v = .t (.str (rowB d p))) (entry [.agg ((rwC d p).map .t)] .empty)
  unfold G_table_row_bytes
  simp only [vP.down, vS.down, vE.down, qA, qB, qC, qD, qE, qF, qG, reduceIte, reduceCtorEq, qH, qI, qJ, ↓avp_condG, ↓tf_arrow, ↓ft_arrow, rwC, dsC, ptC, List.cons_append, List.nil_append]
  intro g hg
  refine weak_at [(1, .imm (rwC d p))] .empty fewer_empty (by
    simp only [vP.down, vS.down, vE.down, qA, qB, qC, qD, qE, qF, qG, reduceIte, reduceCtorEq, qH, qI, qJ, ↓avp_condG, ↓tf_arrow, ↓ft_arrow, wP.down]
    exact w2_imm (l := rwC d p) (ro := false) (Store.set_same _ _ _) rfl) ?_
  simp only [vP.down, vS.down, vE.down, qA, qB, qC, qD, qE, qF, qG, reduceIte, reduceCtorEq, qH, qI, qJ, ↓avp_condG, ↓tf_arrow, ↓ft_arrow, rwC, dsC, ptC, List.cons_append, List.nil_append, decI4, decP1, k_table_row_bytes_pack_Put.down, A_pack_Put, p_pack_Put, r_pack_Put, k_table_row_bytes_ptr_Put.down, A_ptr_Put, p_ptr_Put, r_ptr_Put]
  intro g hg g2 hg2
  have l1 := putF_len [50, 49, 50, 49] [d.ID, d.Kind, d.Origin, d.Quota]
  have l2 := ptrsF_len [p]
  have l3 : ([50, 49, 50, 49] : List UInt8).length = 4 := rfl
  have l4 : [p].length = 1 := rfl
  refine ⟨by omega, ?_⟩
  simp only [vP.down, vS.down, vE.down, qA, qB, qC, qD, qE, qF, qG, reduceIte, reduceCtorEq, qH, qI, qJ, ↓avp_condG, ↓tf_arrow, ↓ft_arrow, vT.down, rowB, F4, numsD]
noncomputable def c_table_row_bytes : Con := fnScal A_table_row_bytes p_table_row_bytes r_table_row_bytes
theorem ok_table_row_bytes : COk Try.prog 36 c_table_row_bytes := fn_sok sys_table_row_bytes mixed Try.func36 (by kernel_rfl) geq_table_row_bytes Try.ntmps36 (by rw [Try.results36]) (fun x => by unfold r_table_row_bytes; simp [AV.scal]) fun x hx => ⟨Nat.le_of_ble_eq_true rfl, body_table_row_bytes x hx⟩
end Go.Proofs.Ytofcmdkmhbbbjaa
namespace Go.Proofs.Ytofcmdkmhbbbjaa
open Go Go.Eng
set_option maxRecDepth 100000
def F1 : List UInt8 := [49]
def lastI (l : List TDset) (i : Nat) : Int := if i = 0 then 0 else (l.getD (i - 1) default).ID
def rowI (l : List TDset) (p : List TPtr) (i : Nat) : Bool := rowOk (lastI l i) (l.getD i default) (p.getD i default)
def rowsB (l : List TDset) (p : List TPtr) : Nat → List UInt8
  | 0 => []
  | i + 1 => rowsB l p i ++ rowB (l.getD i default) (p.getD i default)
def tabOk (l : List TDset) (p : List TPtr) : Bool := decide (l.length ≤ 8) && (decide (l.length = p.length) && decide (∀ i, i < l.length → rowI l p i = true))
def headB (l : List TDset) : List UInt8 := putF F1 [(l.length : Int)]
def tabB (l : List TDset) (p : List TPtr) : List UInt8 := if tabOk l p = true then headB l ++ rowsB l p l.length else []
theorem rowB_len (d : TDset) (p : TPtr) : (rowB d p).length ≤ 38 := by
  have l1 := putF_len F4 (numsD d)
  have l2 := ptrsF_len [p]
  have l3 : F4.length = 4 := rfl
  have l4 : [p].length = 1 := rfl
  rw [rowB, List.length_append]; omega
theorem rowsB_len (l : List TDset) (p : List TPtr) : ∀ i, (rowsB l p i).length ≤ 38 * i
  | 0 => Nat.le_refl _
  | i + 1 => by
    have h := rowsB_len l p i
    have h2 := rowB_len (l.getD i default) (p.getD i default)
    rw [rowsB, List.length_append]; omega
theorem headB_len (l : List TDset) : (headB l).length ≤ 4 := putF_len F1 _
theorem tab_no1 {l : List TDset} {p : List TPtr} (h : 8 < l.length) : tabB l p = [] := by rw [tabB, tabOk, decide_eq_false (by omega)]; rfl
theorem tab_no2 {l : List TDset} {p : List TPtr} (h : l.length ≠ p.length) : tabB l p = [] := by rw [tabB, tabOk, decide_eq_false h, Bool.false_and, Bool.and_false]; rfl
theorem tab_no3 {l : List TDset} {p : List TPtr} {i : Nat} (hi : i < l.length) (h : rowI l p i = false) : tabB l p = [] := by
  have e : decide (∀ i, i < l.length → rowI l p i = true) = false := decide_eq_false fun hh => by
    have := hh i hi
    rw [h] at this; cases this
  rw [tabB, tabOk, e, Bool.and_false, Bool.and_false]; rfl
theorem tab_yes {l : List TDset} {p : List TPtr} (h1 : l.length ≤ 8) (h2 : l.length = p.length) (h3 : ∀ i, i < l.length → rowI l p i = true) : tabB l p = headB l ++ rowsB l p l.length := by
  rw [tabB, tabOk, decide_eq_true h1, decide_eq_true h2, decide_eq_true h3]; rfl
def G_table_Table : GCode := .seq (.region [⟨(some 4), none, .assign (.const (.string ⟨#[]⟩))⟩]) (.seq (.seq (.region [⟨(some 10), none, .move (.tmp 0)⟩, ⟨(some 11), none, .call ⟨.builtin .len, #[.tmp 10], #[23]⟩⟩, ⟨(some 12), none, .binOp .gtr 3 (.tmp 11) (.const (.int .i64 8)) 3⟩, ⟨(some 13), none, .move (.tmp 12)⟩, ⟨(some 14), (some (13, false)), .move (.tmp 0)⟩, ⟨(some 15), (some (13, false)), .call ⟨.builtin .len, #[.tmp 14], #[23]⟩⟩, ⟨(some 16), (some (13, false)), .move (.tmp 1)⟩, ⟨(some 17), (some (13, false)), .call ⟨.builtin .len, #[.tmp 16], #[24]⟩⟩, ⟨(some 18), (some (13, false)), .binOp .neq 3 (.tmp 15) (.tmp 17) 3⟩, ⟨(some 19), none, .pick (.tmp 13) (.const (.bool true)) (.tmp 18)⟩]) (.cond (.tmp 19) (.seq (.region [⟨(some 4), none, .assign (.const (.string ⟨#[]⟩))⟩]) (.ret)) (.skip))) (.seq (.seq .weak (.region [⟨(some 20), none, .move (.tmp 0)⟩, ⟨(some 21), none, .call ⟨.builtin .len, #[.tmp 20], #[23]⟩⟩, ⟨(some 22), none, .buildSlice 58 1 #[(0, .tmp 21)]⟩, ⟨(some 23), none, .call ⟨.value (.func 34), #[.const (.string ⟨#[49]⟩), .tmp 22], #[9, 58]⟩⟩, ⟨(some 5), none, .assign (.tmp 23)⟩, ⟨(some 6), none, .assign (.const (.int .i64 0))⟩])) (.seq (.seq (.seq .weak (.region [⟨(some 24), none, .move (.tmp 0)⟩, ⟨(some 25), none, .call ⟨.builtin .len, #[.tmp 24], #[23]⟩⟩, ⟨(some 26), none, .move (.const (.int .i64 0))⟩])) (.block 0 (.loop (.seq .weak (.seq (.region [⟨(some 27), none, .binOp .lss 3 (.tmp 26) (.tmp 25) 3⟩]) (.seq (.cond (.tmp 27) (.skip) (.exit 0)) (.seq (.block 1 (.seq (.seq .weak (.region [⟨(some 28), none, .move (.tmp 26)⟩, ⟨(some 29), none, .indexAddr 23 (.tmp 24) (.tmp 26)⟩, ⟨(some 30), none, .load 36 (.tmp 29)⟩, ⟨(some 8), none, .alloc 36⟩, ⟨(some 7), none, .assign (.tmp 28)⟩, ⟨none, none, .store 36 (.tmp 8) (.tmp 30)⟩])) (.seq (.seq .weak (.region [⟨(some 31), none, .load 36 (.tmp 8)⟩, ⟨(some 32), none, .move (.tmp 1)⟩, ⟨(some 33), none, .move (.tmp 7)⟩, ⟨(some 34), none, .indexAddr 24 (.tmp 32) (.tmp 33)⟩, ⟨(some 35), none, .load 29 (.tmp 34)⟩, ⟨(some 36), none, .build 81 #[(0, .tmp 31), (1, .tmp 35)]⟩, ⟨(some 9), none, .alloc 81⟩, ⟨none, none, .store 81 (.tmp 9) (.tmp 36)⟩])) (.seq (.seq (.seq .weak (.region [⟨(some 37), none, .load 81 (.tmp 9)⟩, ⟨(some 38), none, .move (.tmp 6)⟩, ⟨(some 39), none, .call ⟨.value (.func 35), #[.tmp 37, .tmp 38], #[81, 3]⟩⟩, ⟨(some 40), none, .unOp .not 4 (.tmp 39)⟩])) (.cond (.tmp 40) (.seq (.region [⟨(some 4), none, .assign (.const (.string ⟨#[]⟩))⟩]) (.ret)) (.skip))) (.seq .weak (.region [⟨(some 41), none, .move (.tmp 5)⟩, ⟨(some 42), none, .load 81 (.tmp 9)⟩, ⟨(some 43), none, .call ⟨.value (.func 36), #[.tmp 42], #[81]⟩⟩, ⟨(some 44), none, .binOp .add 9 (.tmp 41) (.tmp 43) 9⟩, ⟨(some 45), none, .fieldAddr 81 (.tmp 9) 0⟩, ⟨(some 46), none, .fieldAddr 36 (.tmp 45) 0⟩, ⟨(some 47), none, .load 3 (.tmp 46)⟩, ⟨(some 5), none, .assign (.tmp 44)⟩, ⟨(some 6), none, .assign (.tmp 47)⟩])))))) (.seq .weak (.region [⟨(some 48), none, .binOp .add 3 (.tmp 26) (.const (.int .i64 1)) 3⟩, ⟨(some 26), none, .move (.tmp 48)⟩]))))))))) (.seq (.region [⟨(some 49), none, .move (.tmp 5)⟩, ⟨(some 4), none, .assign (.tmp 49)⟩]) (.ret)))))
noncomputable def l_table_Table : List (Nat × Con) := [(34, c_pack_Put), (35, c_table_row_may), (36, c_table_row_bytes)]
noncomputable abbrev K_table_Table : Ctx := ctx (cl l_table_Table)
theorem geq_table_Table : gof K_table_Table Try.f13 = some G_table_Table.strip := by kernel_rfl
theorem sys_table_Table : Go.Eng.Sys Try.prog K_table_Table := sys_of' ⟨ok_pack_Put, ok_table_row_may, ok_table_row_bytes, trivial⟩
theorem hm_table_Table : ConMono K_table_Table := conMono_of sys_table_Table.con
noncomputable def k_table_Table_pack_Put := PLift.up (call_scal (C := K_table_Table) (f := 34) (A := A_pack_Put) (p := p_pack_Put) (r := r_pack_Put) rfl)
noncomputable def k_table_Table_table_row_may := PLift.up (call_scal (C := K_table_Table) (f := 35) (A := A_table_row_may) (p := p_table_row_may) (r := r_table_row_may) rfl)
noncomputable def k_table_Table_table_row_bytes := PLift.up (call_scal (C := K_table_Table) (f := 36) (A := A_table_row_bytes) (p := p_table_row_bytes) (r := r_table_row_bytes) rfl)
def A_table_Table := Arms.cons (argT (List TDset)) (Arms.cons (argT (List TPtr)) Arms.nil)
def p_table_Table (_ : List TDset × List TPtr × Unit) : Prop := True
def r_table_Table (x : List TDset × List TPtr × Unit) : AV := .t (.str (tabB x.1 x.2.1))
set_option maxHeartbeats 4000000 in
theorem body_table_Table (x : List TDset × List TPtr × Unit) (_ : p_table_Table x) : avp K_table_Table G_table_Table (Ret K_table_Table [.tmp 4] fun v _ => v = r_table_Table x) (entry (A_table_Table.enc x) .empty) := by
  obtain ⟨l, p, ⟨⟩⟩ := x
  change avp _ _ (Ret _ _ fun v _ => v = .t (.str (tabB l p))) (entry [.t (sl l), .t (sl p)] .empty)
  unfold G_table_Table
  by_cases c1 : 8 < l.length
  · have c1' : (8 : Int) < (l.length : Int) := by omega
    simp only [vP.down, vS.down, vE.down, qA, qB, qC, qD, qE, qF, qG, reduceIte, reduceCtorEq, qH, qI, qJ, ↓avp_condG, ↓tf_arrow, ↓ft_arrow, c1', gt_iff_lt, pick_of, pick_ot]
    simp only [vP.down, vS.down, vE.down, qA, qB, qC, qD, qE, qF, qG, reduceIte, reduceCtorEq, qH, qI, qJ, ↓avp_condG, ↓tf_arrow, ↓ft_arrow, vT.down, tab_no1 c1]
  have c1' : ¬ (8 : Int) < (l.length : Int) := by omega
  by_cases c2 : l.length = p.length
  case neg =>
    have c2' : ((l.length : Int) = (p.length : Int)) = False := eq_false (by omega)
    simp only [vP.down, vS.down, vE.down, qA, qB, qC, qD, qE, qF, qG, reduceIte, reduceCtorEq, qH, qI, qJ, ↓avp_condG, ↓tf_arrow, ↓ft_arrow, c1', c2', gt_iff_lt, pick_of, pick_ot, not_false_eq_true]
    simp only [vP.down, vS.down, vE.down, qA, qB, qC, qD, qE, qF, qG, reduceIte, reduceCtorEq, qH, qI, qJ, ↓avp_condG, ↓tf_arrow, ↓ft_arrow, vT.down, tab_no2 c2]
  have c2' : (p.length : Int) = (l.length : Int) := by omega
  simp only [vP.down, vS.down, vE.down, qA, qB, qC, qD, qE, qF, qG, reduceIte, reduceCtorEq, qH, qI, qJ, ↓avp_condG, ↓tf_arrow, ↓ft_arrow, c1', c2', bne_self_eq_false, gt_iff_lt, pick_of, pick_ot]
  refine weak_at [(0, .t (sl l)), (1, .t (sl p))] .empty fewer_refl (by simp only [vP.down, vS.down, vE.down, qA, qB, qC, qD, qE, qF, qG, reduceIte, reduceCtorEq, qH, qI, qJ, ↓avp_condG, ↓tf_arrow, ↓ft_arrow, wP.down]) ?_
  have eh : putF [49] [(l.length : Int)] = headB l := rfl
  simp only [vP.down, vS.down, vE.down, qA, qB, qC, qD, qE, qF, qG, reduceIte, reduceCtorEq, qH, qI, qJ, ↓avp_condG, ↓tf_arrow, ↓ft_arrow, decI1, eh, k_table_Table_pack_Put.down, A_pack_Put, p_pack_Put, r_pack_Put]
  intro g3 hg3
  refine weak_at [(0, .t (sl l)), (1, .t (sl p)), (5, .t (.str (headB l ++ rowsB l p 0))), (6, .t (.int .i64 (lastI l 0)))] .empty fewer_empty (by simp only [vP.down, vS.down, vE.down, qA, qB, qC, qD, qE, qF, qG, reduceIte, reduceCtorEq, qH, qI, qJ, ↓avp_condG, ↓tf_arrow, ↓ft_arrow, wP.down, rowsB, List.append_nil, lastI]) ?_
  clear hg3
  have hhl := headB_len l
  simp only [vP.down, vS.down, vE.down, qA, qB, qC, qD, qE, qF, qG, reduceIte, reduceCtorEq, qH, qI, qJ, ↓avp_condG, ↓tf_arrow, ↓ft_arrow]
  refine loop_weak hm_table_Table (fun k σ => ∃ i : Nat, k = l.length - i ∧ i ≤ l.length ∧ (∀ j, j < i → rowI l p j = true) ∧ σ = mkS [(1, .t (sl p)), (5, .t (.str (headB l ++ rowsB l p i))), (6, .t (.int .i64 (lastI l i))), (24, .t (sl l)), (25, .t (.int .i64 l.length)), (26, .t (.int .i64 (i : Nat)))] .empty)
    ⟨0, rfl, by omega, by omega, rfl⟩ (wk_to fewer_refl (by simp only [vP.down, vS.down, vE.down, qA, qB, qC, qD, qE, qF, qG, reduceIte, reduceCtorEq, qH, qI, qJ, ↓avp_condG, ↓tf_arrow, ↓ft_arrow, wP.down, Int.natCast_zero])) ?_
  rintro k _ ⟨i, rfl, hi, hlo, rfl⟩
  have hi1 : IntKind.i64.wrap ((i : Int) + 1) = ((i + 1 : Nat) : Int) := by rw [IntWalk.i64_in _ (by omega)]; rfl
  by_cases hlt : i < l.length
  case neg =>
    obtain rfl : i = l.length := by omega
    have hge : ¬ (l.length : Int) < (l.length : Int) := by omega
    simp only [vP.down, vS.down, vE.down, qA, qB, qC, qD, qE, qF, qG, reduceIte, reduceCtorEq, qH, qI, qJ, ↓avp_condG, ↓tf_arrow, ↓ft_arrow, hge]
    simp only [vP.down, vS.down, vE.down, qA, qB, qC, qD, qE, qF, qG, reduceIte, reduceCtorEq, qH, qI, qJ, ↓avp_condG, ↓tf_arrow, ↓ft_arrow, vT.down, tab_yes (by omega) c2 hlo]
  have hlt' : (i : Int) < (l.length : Int) := by omega
  have x0 := idx_at (C := K_table_Table) (l := l) (i := i) ty_Lapi_Dset ty_api_Dset rfl hlt .i64
  have x1 := idx_at (C := K_table_Table) (l := p) (i := i) ty_Lapi_Ptr ty_api_Ptr rfl (by omega) .i64
  have er : rowI l p i = rowOk (lastI l i) (l.getD i default) (p.getD i default) := rfl
  have eb : rowsB l p (i + 1) = rowsB l p i ++ rowB (l.getD i default) (p.getD i default) := rfl
  have el : lastI l (i + 1) = (l.getD i default).ID := rfl
  have hrl := rowsB_len l p i
  have hbl := rowB_len (l.getD i default) (p.getD i default)
  obtain ⟨d, hd⟩ : ∃ d, d = l.getD i default := ⟨_, rfl⟩
  obtain ⟨q, hq⟩ : ∃ q, q = p.getD i default := ⟨_, rfl⟩
  rw [← hd] at x0 er eb el hbl
  rw [← hq] at x1 er eb hbl
  simp only [vP.down, vS.down, vE.down, qA, qB, qC, qD, qE, qF, qG, reduceIte, reduceCtorEq, qH, qI, qJ, ↓avp_condG, ↓tf_arrow, ↓ft_arrow, hlt']
  refine weak_at [(1, .t (sl p)), (5, .t (.str (headB l ++ rowsB l p i))), (6, .t (.int .i64 (lastI l i))), (24, .t (sl l)), (25, .t (.int .i64 l.length)), (26, .t (.int .i64 (i : Nat)))] .empty fewer_refl (by simp only [vP.down, vS.down, vE.down, qA, qB, qC, qD, qE, qF, qG, reduceIte, reduceCtorEq, qH, qI, qJ, ↓avp_condG, ↓tf_arrow, ↓ft_arrow, wP.down]) ?_
  simp only [vP.down, vS.down, vE.down, qA, qB, qC, qD, qE, qF, qG, reduceIte, reduceCtorEq, qH, qI, qJ, ↓avp_condG, ↓tf_arrow, ↓ft_arrow, x0]
  intro g8 hg8
  refine weak_at [(1, .t (sl p)), (5, .t (.str (headB l ++ rowsB l p i))), (6, .t (.int .i64 (lastI l i))), (7, .t (.int .i64 (i : Nat))), (8, .imm (dsC d)), (24, .t (sl l)), (25, .t (.int .i64 l.length)), (26, .t (.int .i64 (i : Nat)))] .empty fewer_empty (by
    simp only [vP.down, vS.down, vE.down, qA, qB, qC, qD, qE, qF, qG, reduceIte, reduceCtorEq, qH, qI, qJ, ↓avp_condG, ↓tf_arrow, ↓ft_arrow, wP.down]
    exact w2_imm (l := dsC d) (ro := false) (Store.set_same _ _ _) rfl) ?_
  clear hg8
  simp only [vP.down, vS.down, vE.down, qA, qB, qC, qD, qE, qF, qG, reduceIte, reduceCtorEq, qH, qI, qJ, ↓avp_condG, ↓tf_arrow, ↓ft_arrow, x1, dsC]
  intro g9 hg9
  refine weak_at [(1, .t (sl p)), (5, .t (.str (headB l ++ rowsB l p i))), (6, .t (.int .i64 (lastI l i))), (9, .imm (rwC d q)), (24, .t (sl l)), (25, .t (.int .i64 l.length)), (26, .t (.int .i64 (i : Nat)))] .empty fewer_empty (by
    simp only [vP.down, vS.down, vE.down, qA, qB, qC, qD, qE, qF, qG, reduceIte, reduceCtorEq, qH, qI, qJ, ↓avp_condG, ↓tf_arrow, ↓ft_arrow, wP.down]
    exact w2_imm (l := rwC d q) (ro := false) (Store.set_same _ _ _) rfl) ?_
  clear hg9
  cases hr : rowOk (lastI l i) d q with
  | false =>
    simp only [vP.down, vS.down, vE.down, qA, qB, qC, qD, qE, qF, qG, reduceIte, reduceCtorEq, qH, qI, qJ, ↓avp_condG, ↓tf_arrow, ↓ft_arrow, rwC, dsC, ptC, List.cons_append, List.nil_append, hr, k_table_Table_table_row_may.down, A_table_row_may, p_table_row_may, r_table_row_may]
    simp only [vP.down, vS.down, vE.down, qA, qB, qC, qD, qE, qF, qG, reduceIte, reduceCtorEq, qH, qI, qJ, ↓avp_condG, ↓tf_arrow, ↓ft_arrow, vT.down, tab_no3 hlt (er.trans hr)]
  | true =>
  simp only [vP.down, vS.down, vE.down, qA, qB, qC, qD, qE, qF, qG, reduceIte, reduceCtorEq, qH, qI, qJ, ↓avp_condG, ↓tf_arrow, ↓ft_arrow, rwC, dsC, ptC, List.cons_append, List.nil_append, hr, k_table_Table_table_row_may.down, A_table_row_may, p_table_row_may, r_table_row_may]
  refine weak_at [(1, .t (sl p)), (5, .t (.str (headB l ++ rowsB l p i))), (9, .imm (rwC d q)), (24, .t (sl l)), (25, .t (.int .i64 l.length)), (26, .t (.int .i64 (i : Nat)))] .empty fewer_refl (by simp only [vP.down, vS.down, vE.down, qA, qB, qC, qD, qE, qF, qG, reduceIte, reduceCtorEq, qH, qI, qJ, ↓avp_condG, ↓tf_arrow, ↓ft_arrow, wP.down, rwC, dsC, ptC, List.cons_append, List.nil_append]) ?_
  have cl : (headB l ++ rowsB l p i).length + (rowB d q).length ≤ 9223372036854775807 := by rw [List.length_append]; omega
  simp only [vP.down, vS.down, vE.down, qA, qB, qC, qD, qE, qF, qG, reduceIte, reduceCtorEq, qH, qI, qJ, ↓avp_condG, ↓tf_arrow, ↓ft_arrow, rwC, dsC, ptC, List.cons_append, List.nil_append, cl, k_table_Table_table_row_bytes.down, A_table_row_bytes, p_table_row_bytes, r_table_row_bytes]
  refine weak_at [(1, .t (sl p)), (5, .t (.str (headB l ++ rowsB l p (i + 1)))), (6, .t (.int .i64 (lastI l (i + 1)))), (24, .t (sl l)), (25, .t (.int .i64 l.length)), (26, .t (.int .i64 (i : Nat)))] .empty fewer_refl (by simp only [vP.down, vS.down, vE.down, qA, qB, qC, qD, qE, qF, qG, reduceIte, reduceCtorEq, qH, qI, qJ, ↓avp_condG, ↓tf_arrow, ↓ft_arrow, wP.down, eb, el, List.append_assoc]) ?_
  simp only [vP.down, vS.down, vE.down, qA, qB, qC, qD, qE, qF, qG, reduceIte, reduceCtorEq, qH, qI, qJ, ↓avp_condG, ↓tf_arrow, ↓ft_arrow]
  exact round_to (l.length - (i + 1)) [(1, .t (sl p)), (5, .t (.str (headB l ++ rowsB l p (i + 1)))), (6, .t (.int .i64 (lastI l (i + 1)))), (24, .t (sl l)), (25, .t (.int .i64 l.length)), (26, .t (.int .i64 (i + 1 : Nat)))] .empty (by omega) fewer_refl (by simp only [vP.down, vS.down, vE.down, qA, qB, qC, qD, qE, qF, qG, reduceIte, reduceCtorEq, qH, qI, qJ, ↓avp_condG, ↓tf_arrow, ↓ft_arrow, wP.down, hi1]) ⟨i + 1, rfl, by omega, fun j hj => (by
    by_cases hji : j = i
    · rw [hji, er]; exact hr
    · exact hlo j (by omega)), rfl⟩
noncomputable def c_table_Table : Con := fnScal A_table_Table p_table_Table r_table_Table
theorem ok_table_Table : COk Try.prog 13 c_table_Table := fn_sok sys_table_Table mixed Try.func13 (by kernel_rfl) geq_table_Table Try.ntmps13 (by rw [Try.results13]) (fun x => by unfold r_table_Table; simp [AV.scal]) fun x hx => ⟨Nat.le_of_ble_eq_true rfl, body_table_Table x hx⟩
end Go.Proofs.Ytofcmdkmhbbbjaa
namespace Go.Proofs.Ytofcmdkmhbbbjaa
open Go Go.Eng
set_option maxRecDepth 100000
theorem upTo_iff {n m : Int} : upTo n m = true ↔ 0 ≤ n ∧ n ≤ m := by simp [upTo]
theorem rowOk_iff {last : Int} {d : TDset} {p : TPtr} : rowOk last d p = true ↔ last < d.ID ∧ d.ID ≤ 65535 ∧ (d.Kind = 1 ∨ d.Kind = 2) ∧ (0 ≤ d.Origin ∧ d.Origin ≤ 65535) ∧ (0 ≤ d.Quota ∧ d.Quota ≤ 255) ∧ mayP p = true ∧ p ≠ zeroP := by
  simp only [rowOk, Bool.and_eq_true, Bool.or_eq_true, decide_eq_true_eq, upTo_iff, Bool.not_eq_true', decide_eq_false_iff_not, and_assoc, ne_eq]
theorem last_nn {l : List TDset} {p : List TPtr} : ∀ i, (∀ j, j < i → rowI l p j = true) → 0 ≤ lastI l i ∧ (0 < i → 1 ≤ lastI l i)
  | 0, _ => ⟨Int.le_refl _, fun h => absurd h (by omega)⟩
  | i + 1, h => by
    have h1 := (last_nn i fun j hj => h j (by omega)).1
    have h2 := (rowOk_iff.1 (h i (by omega))).1
    have e : lastI l (i + 1) = (l.getD i default).ID := rfl
    rw [e]
    constructor
    · omega
    · intro _; omega
end Go.Proofs.Ytofcmdkmhbbbjaa
namespace Go.Proofs.Ytofcmdkmhbbbjaa
open Go Go.Eng
set_option maxRecDepth 100000
def stepOk (b : List UInt8) : Bool := takeOk F4 b && takePOk 1 (takeR F4 b)
def stepR (b : List UInt8) : List UInt8 := takePR 1 (takeR F4 b)
def dsOf (v : List Int) : TDset := ⟨v.getD 0 default, v.getD 1 default, v.getD 2 default, v.getD 3 default, []⟩
def restT (s : List UInt8) : Nat → List UInt8
  | 0 => takeR F1 s
  | i + 1 => stepR (restT s i)
def dsI (s : List UInt8) (i : Nat) : TDset := dsOf (takeL F4 (restT s i))
def ptI (s : List UInt8) (i : Nat) : TPtr := (takePL 1 (takeR F4 (restT s i))).getD 0 default
def dsT (s : List UInt8) (k : Nat) : List TDset := (List.range k).map (dsI s)
def ptT (s : List UInt8) (k : Nat) : List TPtr := (List.range k).map (ptI s)
def cntT (s : List UInt8) : Nat := ((takeL F1 s).getD 0 default).toNat
def tkTok (s : List UInt8) : Bool := takeOk F1 s && (decide (∀ i, i < cntT s → stepOk (restT s i) = true) && decide (tabB (dsT s (cntT s)) (ptT s (cntT s)) = s))
def takeTb (s : List UInt8) : List TDset × List TPtr × Bool := if tkTok s = true then (dsT s (cntT s), ptT s (cntT s), true) else ([], [], false)
theorem ptT_next {s : List UInt8} {i : Nat} : ptT s (i + 1) = ptT s i ++ [ptI s i] := by simp [ptT, List.range_succ]
theorem ptT_len {s : List UInt8} {i : Nat} : (ptT s i).length = i := by simp [ptT]
theorem takeR_len {f s : List UInt8} : (takeR f s).length ≤ s.length := by
  unfold takeR
  split
  · simp
  · simp
theorem takePR_len {n : Nat} {s : List UInt8} : (takePR n s).length ≤ s.length := by
  unfold takePR
  split
  · next p h => exact (takeP_len h).2
  · simp
theorem restT_len {s : List UInt8} : ∀ i, (restT s i).length ≤ s.length
  | 0 => takeR_len
  | i + 1 => by
    have h := restT_len (s := s) i
    have h1 := takePR_len (n := 1) (s := takeR F4 (restT s i))
    have h2 := takeR_len (f := F4) (s := restT s i)
    show (takePR 1 (takeR F4 (restT s i))).length ≤ _
    omega
theorem takeL_len' {f s : List UInt8} (h : takeOk f s = true) : (takeL f s).length = f.length := by
  rw [takeL, if_pos h, takeN_len, digs_len]
theorem takePL_len {n : Nat} {s : List UInt8} (h : takePOk n s = true) : (takePL n s).length = n := by
  unfold takePOk at h
  unfold takePL
  cases hh : takeP n s with
  | none => rw [hh] at h; cases h
  | some p => exact (takeP_len hh).1
theorem cnt_bd {s : List UInt8} (h : takeOk F1 s = true) : (takeL F1 s).getD 0 default = (cntT s : Int) ∧ cntT s < 256 := by
  have h' := h
  unfold takeOk at h'
  rw [Bool.and_eq_true, decide_eq_true_eq] at h'
  have e : takeL F1 s = [num (s.take 1)] := by rw [takeL, if_pos h]; rfl
  have hb := num_bd (s.take 1).length (s.take 1) rfl
  have hd : (digs F1).sum = 1 := rfl
  have hl : (s.take 1).length = 1 := by
    rw [List.length_take]
    have := h'.2
    rw [hd] at this
    omega
  rw [hl] at hb
  unfold cntT
  rw [e]
  show num (s.take 1) = ((num (s.take 1)).toNat : Int) ∧ (num (s.take 1)).toNat < 256
  omega
theorem tk_no1 {s : List UInt8} (h : takeOk F1 s = false) : takeTb s = ([], [], false) := by rw [takeTb, tkTok, h]; rfl
theorem tk_no2 {s : List UInt8} {i : Nat} (hi : i < cntT s) (h : stepOk (restT s i) = false) : takeTb s = ([], [], false) := by
  have e : decide (∀ i, i < cntT s → stepOk (restT s i) = true) = false := decide_eq_false fun hh => by
    have := hh i hi
    rw [h] at this; cases this
  rw [takeTb, tkTok, e, Bool.false_and, Bool.and_false]; rfl
def Apart (x y : AV) : Prop := ∀ k, ¬ Not x k → Not y k
theorem Apart.symm {x y : AV} (h : Apart x y) : Apart y x := fun k hk => Classical.byContradiction fun hn => hk (h k hn)
theorem append_apart {C : Ctx} {α β : Type} [Cell α] [Cell β] {S : Store} {x y z : AV} {A r : List α} {B : List β} {T e : TypeId} {n m : Nat} {zz : List TV} {de : TyD} {K : AV → Store → Prop} (h : C.ty T = some ⟨.slice e, n, m, zz⟩) (he : C.ty e = some de) (hw : de.size = Cell.width α) (hw0 : 0 < Cell.width α)
    (hx : LV S x A) (hy : LV S y B) (hxy : Apart x y) (hz : Shows S z r) (h1 : A.length + r.length ≤ 140737488355328) (h2 : (A.length + r.length) * de.bytes ≤ 140737488355328)
    (hk : ∀ x' S', LV S' x' (A ++ r) → LV S' y B → Apart x' y → (∀ k e, S.f k = some e → Not x k → S'.f k = some e ∧ Not x' k) → K x' S') : appendV C T x z K S := by
  refine append_lv h he hw hw0 hx hz h1 h2 fun x' S' hx' q1 q2 => ?_
  have keep : ∀ k e, S.f k = some e → Not x k → S'.f k = some e ∧ Not x' k := fun k e hk hn => by
    have hn' : Not x' k := Classical.byContradiction fun h => by rw [q1 k h] at hk; cases hk
    exact ⟨(q2 k hn' hn).trans hk, hn'⟩
  refine hk x' S' hx' (hy.stay fun k hk ⟨ro, hf⟩ => ⟨ro, (keep k _ hf (hxy.symm k hk)).1⟩) (fun k hk' => Classical.byContradiction fun hn => ?_) keep
  rcases hy with ⟨_, rfl⟩ | ⟨g, rfl, ro, hf⟩
  · exact hn not_t
  · have hg : k = g := Classical.byContradiction fun hne => hn (not_tok fun e => hne e.symm)
    subst hg
    exact hk' (keep k _ hf (hxy.symm k hn)).2
structure TD0 where
  a : Int
  b : Int
  c : Int
  d : Int
instance cTD0 : Cell TD0 where
  width := 5
  enc x := [.int .i64 x.a, .int .i64 x.b, .int .i64 x.c, .int .i64 x.d, .nilS]
  dec cs := match cs with | [.int .i64 a, .int .i64 b, .int .i64 c, .int .i64 d, .nilS] => some ⟨a, b, c, d⟩ | _ => none
  len _ := rfl
  dec_enc _ := rfl
  sound := sound_exact (fun _ => rfl) fun cs x h => by
    split at h
    · cases h; rfl
    · cases h
def d0I (s : List UInt8) (i : Nat) : TD0 := ⟨(takeL F4 (restT s i)).getD 0 default, (takeL F4 (restT s i)).getD 1 default, (takeL F4 (restT s i)).getD 2 default, (takeL F4 (restT s i)).getD 3 default⟩
def d0T (s : List UInt8) (k : Nat) : List TD0 := (List.range k).map (d0I s)
theorem d0T_next {s : List UInt8} {i : Nat} : d0T s (i + 1) = d0T s i ++ [d0I s i] := by simp [d0T, List.range_succ]
theorem d0T_len {s : List UInt8} {i : Nat} : (d0T s i).length = i := by simp [d0T]
theorem decAll_map {α γ : Type} [Cell α] {g : γ → List TV} {h : γ → α} (hg : ∀ x, Cell.dec (g x) = some (h x)) : ∀ l : List γ, decAll (l.map g) = some (l.map h)
  | [] => rfl
  | x :: t => by rw [List.map_cons, decAll, hg, decAll_map hg t]; rfl
theorem d0_dec {s : List UInt8} {k : Nat} : decAll ((d0T s k).map Cell.enc) = some (dsT s k) := by
  rw [d0T, List.map_map]
  exact decAll_map (fun i => rfl) _
theorem w2_d0 {S s' : Store} {v : AV} {s : List UInt8} {k : Nat} (h : LV S v (d0T s k)) (hn : ∀ g, ¬ Not v g → s'.f g = none) : W2 S s' v (.t (sl (dsT s k))) := by
  rcases h with ⟨h0, rfl⟩ | ⟨g, rfl, ro, hf⟩
  · have : k = 0 := by rw [← d0T_len (s := s) (i := k), h0]; rfl
    subst this
    exact w2_nil
  · refine w2_rows hf (by rw [List.length_map]) ?_ (hn g fun h => h _ _ _ rfl)
    show (if (5 : Nat) = Cell.width TDset then decAll ((d0T s k).map Cell.enc) else none) = _
    have hw5 : (5 : Nat) = Cell.width TDset := rfl
    rw [if_pos hw5, d0_dec]
def G_table_TakeTable : GCode := .seq (.region [⟨(some 2), none, .assign (.const (.slice none 0 0))⟩, ⟨(some 3), none, .assign (.const (.slice none 0 0))⟩, ⟨(some 4), none, .assign (.const (.bool false))⟩]) (.seq (.seq .weak (.region [⟨(some 12), none, .move (.tmp 0)⟩, ⟨(some 13), none, .call ⟨.value (.func 45), #[.const (.string ⟨#[49]⟩), .tmp 12], #[9, 9]⟩⟩, ⟨(some 11), none, .move (.tmp 13)⟩, ⟨(some 14), none, .extract (.tmp 11) 0⟩, ⟨(some 15), none, .extract (.tmp 11) 1⟩, ⟨(some 16), none, .extract (.tmp 11) 2⟩, ⟨(some 5), none, .assign (.tmp 14)⟩, ⟨(some 6), none, .assign (.tmp 15)⟩, ⟨(some 4), none, .assign (.tmp 16)⟩])) (.seq (.seq (.seq .weak (.region [⟨(some 17), none, .move (.tmp 4)⟩, ⟨(some 18), none, .unOp .not 4 (.tmp 17)⟩])) (.cond (.tmp 18) (.seq (.region [⟨(some 2), none, .assign (.const (.slice none 0 0))⟩, ⟨(some 3), none, .assign (.const (.slice none 0 0))⟩, ⟨(some 4), none, .assign (.const (.bool false))⟩]) (.ret)) (.skip))) (.seq (.seq (.seq .weak (.region [⟨(some 19), none, .move (.tmp 5)⟩, ⟨(some 20), none, .indexAddr 58 (.tmp 19) (.const (.int .i64 0))⟩, ⟨(some 21), none, .load 3 (.tmp 20)⟩, ⟨(some 22), none, .move (.const (.int .i64 0))⟩])) (.block 0 (.loop (.seq .weak (.seq (.region [⟨(some 23), none, .binOp .lss 3 (.tmp 22) (.tmp 21) 3⟩]) (.seq (.cond (.tmp 23) (.skip) (.exit 0)) (.seq (.block 1 (.seq (.seq .weak (.region [⟨(some 25), none, .move (.tmp 6)⟩, ⟨(some 26), none, .call ⟨.value (.func 45), #[.const (.string ⟨#[50, 49, 50, 49]⟩), .tmp 25], #[9, 9]⟩⟩, ⟨(some 24), none, .move (.tmp 26)⟩, ⟨(some 27), none, .extract (.tmp 24) 0⟩, ⟨(some 28), none, .extract (.tmp 24) 1⟩, ⟨(some 29), none, .extract (.tmp 24) 2⟩, ⟨(some 7), none, .assign (.tmp 27)⟩, ⟨(some 8), none, .assign (.tmp 28)⟩, ⟨(some 9), none, .assign (.tmp 29)⟩])) (.seq (.seq (.seq .weak (.region [⟨(some 30), none, .move (.tmp 9)⟩, ⟨(some 31), none, .unOp .not 4 (.tmp 30)⟩])) (.cond (.tmp 31) (.seq (.region [⟨(some 2), none, .assign (.const (.slice none 0 0))⟩, ⟨(some 3), none, .assign (.const (.slice none 0 0))⟩, ⟨(some 4), none, .assign (.const (.bool false))⟩]) (.ret)) (.skip))) (.seq (.seq .weak (.region [⟨(some 33), none, .move (.tmp 8)⟩, ⟨(some 34), none, .call ⟨.value (.func 46), #[.tmp 33, .const (.int .i64 1)], #[9, 3]⟩⟩, ⟨(some 32), none, .move (.tmp 34)⟩, ⟨(some 35), none, .extract (.tmp 32) 0⟩, ⟨(some 36), none, .extract (.tmp 32) 1⟩, ⟨(some 37), none, .extract (.tmp 32) 2⟩, ⟨(some 10), none, .assign (.tmp 35)⟩, ⟨(some 8), none, .assign (.tmp 36)⟩, ⟨(some 9), none, .assign (.tmp 37)⟩])) (.seq (.seq (.seq .weak (.region [⟨(some 38), none, .move (.tmp 9)⟩, ⟨(some 39), none, .unOp .not 4 (.tmp 38)⟩])) (.cond (.tmp 39) (.seq (.region [⟨(some 2), none, .assign (.const (.slice none 0 0))⟩, ⟨(some 3), none, .assign (.const (.slice none 0 0))⟩, ⟨(some 4), none, .assign (.const (.bool false))⟩]) (.ret)) (.skip))) (.seq .weak (.region [⟨(some 40), none, .move (.tmp 2)⟩, ⟨(some 41), none, .move (.tmp 7)⟩, ⟨(some 42), none, .indexAddr 58 (.tmp 41) (.const (.int .i64 0))⟩, ⟨(some 43), none, .load 3 (.tmp 42)⟩, ⟨(some 44), none, .move (.tmp 7)⟩, ⟨(some 45), none, .indexAddr 58 (.tmp 44) (.const (.int .i64 1))⟩, ⟨(some 46), none, .load 3 (.tmp 45)⟩, ⟨(some 47), none, .move (.tmp 7)⟩, ⟨(some 48), none, .indexAddr 58 (.tmp 47) (.const (.int .i64 2))⟩, ⟨(some 49), none, .load 3 (.tmp 48)⟩, ⟨(some 50), none, .move (.tmp 7)⟩, ⟨(some 51), none, .indexAddr 58 (.tmp 50) (.const (.int .i64 3))⟩, ⟨(some 52), none, .load 3 (.tmp 51)⟩, ⟨(some 53), none, .build 36 #[(0, .tmp 43), (1, .tmp 46), (2, .tmp 49), (3, .tmp 52)]⟩, ⟨(some 54), none, .buildSlice 23 1 #[(0, .tmp 53)]⟩, ⟨(some 55), none, .call ⟨.builtin .append, #[.tmp 40, .tmp 54], #[23, 23]⟩⟩, ⟨(some 56), none, .move (.tmp 3)⟩, ⟨(some 57), none, .move (.tmp 10)⟩, ⟨(some 58), none, .indexAddr 24 (.tmp 57) (.const (.int .i64 0))⟩, ⟨(some 59), none, .load 29 (.tmp 58)⟩, ⟨(some 60), none, .buildSlice 24 1 #[(0, .tmp 59)]⟩, ⟨(some 61), none, .call ⟨.builtin .append, #[.tmp 56, .tmp 60], #[24, 24]⟩⟩, ⟨(some 62), none, .move (.tmp 8)⟩, ⟨(some 2), none, .assign (.tmp 55)⟩, ⟨(some 3), none, .assign (.tmp 61)⟩, ⟨(some 6), none, .assign (.tmp 62)⟩]))))))) (.region [⟨(some 63), none, .binOp .add 3 (.tmp 22) (.const (.int .i64 1)) 3⟩, ⟨(some 22), none, .move (.tmp 63)⟩])))))))) (.seq (.seq (.seq .weak (.region [⟨(some 64), none, .move (.tmp 2)⟩, ⟨(some 65), none, .move (.tmp 3)⟩, ⟨(some 66), none, .call ⟨.value (.func 13), #[.tmp 64, .tmp 65], #[23, 24]⟩⟩, ⟨(some 67), none, .move (.tmp 0)⟩, ⟨(some 68), none, .binOp .neq 9 (.tmp 66) (.tmp 67) 9⟩])) (.cond (.tmp 68) (.seq (.region [⟨(some 2), none, .assign (.const (.slice none 0 0))⟩, ⟨(some 3), none, .assign (.const (.slice none 0 0))⟩, ⟨(some 4), none, .assign (.const (.bool false))⟩]) (.ret)) (.skip))) (.seq (.seq .weak (.region [⟨(some 69), none, .move (.tmp 2)⟩, ⟨(some 70), none, .move (.tmp 3)⟩, ⟨(some 2), none, .assign (.tmp 69)⟩, ⟨(some 3), none, .assign (.tmp 70)⟩, ⟨(some 4), none, .assign (.const (.bool true))⟩])) (.ret))))))
noncomputable def l_table_TakeTable : List (Nat × Con) := [(45, c_pack_Take), (46, c_ptr_Take), (13, c_table_Table)]
noncomputable abbrev K_table_TakeTable : Ctx := ctx (cl l_table_TakeTable)
theorem geq_table_TakeTable : gof K_table_TakeTable Try.f18 = some G_table_TakeTable.strip := by kernel_rfl
theorem sys_table_TakeTable : Go.Eng.Sys Try.prog K_table_TakeTable := sys_of' ⟨ok_pack_Take, ok_ptr_Take, ok_table_Table, trivial⟩
theorem hm_table_TakeTable : ConMono K_table_TakeTable := conMono_of sys_table_TakeTable.con
noncomputable def k_table_TakeTable_pack_Take := PLift.up (call_fn (C := K_table_TakeTable) (f := 45) (A := A_pack_Take) (p := p_pack_Take) (r := r_pack_Take) rfl)
noncomputable def k_table_TakeTable_ptr_Take := PLift.up (call_fn (C := K_table_TakeTable) (f := 46) (A := A_ptr_Take) (p := p_ptr_Take) (r := r_ptr_Take) rfl)
noncomputable def k_table_TakeTable_table_Table := PLift.up (call_scal (C := K_table_TakeTable) (f := 13) (A := A_table_Table) (p := p_table_Table) (r := r_table_Table) rfl)
def A_table_TakeTable := Arms.cons (argT (List UInt8)) Arms.nil
def p_table_TakeTable (x : List UInt8 × Unit) : Prop := x.1.length ≤ 1000000
def r_table_TakeTable (x : List UInt8 × Unit) : AV := .tup [.t (sl (takeTb x.1).1), .t (sl (takeTb x.1).2.1), .t (.bool (takeTb x.1).2.2)]
set_option maxHeartbeats 4000000 in
theorem body_table_TakeTable (x : List UInt8 × Unit) (hp : p_table_TakeTable x) : avp K_table_TakeTable G_table_TakeTable (Ret K_table_TakeTable [.tmp 2, .tmp 3, .tmp 4] fun v s' => Frz s' v (r_table_TakeTable x)) (entry (A_table_TakeTable.enc x) .empty) := by
  obtain ⟨s, ⟨⟩⟩ := x
  change s.length ≤ 1000000 at hp
  change avp _ _ (Ret _ _ fun v s' => Frz s' v (.tup [.t (sl (takeTb s).1), .t (sl (takeTb s).2.1), .t (.bool (takeTb s).2.2)])) (entry [.t (.str s)] .empty)
  unfold G_table_TakeTable
  simp only [vP.down, vS.down, vE.down, qA, qB, qC, qD, qE, qF, qG, reduceIte, reduceCtorEq, qH, qI, qJ, ↓avp_condG, ↓tf_arrow, ↓ft_arrow]
  refine weak_at [(0, .t (.str s)), (2, .t .nilS), (3, .t .nilS)] .empty fewer_refl (by simp only [vP.down, vS.down, vE.down, qA, qB, qC, qD, qE, qF, qG, reduceIte, reduceCtorEq, qH, qI, qJ, ↓avp_condG, ↓tf_arrow, ↓ft_arrow, wP.down]) ?_
  have pf : F1.length ≤ 1099511627776 := by decide
  have p4 : F4.length ≤ 1099511627776 := by decide
  have ps : s.length ≤ 1099511627776 := by omega
  have hF4 : ([50, 49, 50, 49] : List UInt8) = F4 := rfl
  have hF1 : ([49] : List UInt8) = F1 := rfl
  simp only [vP.down, vS.down, vE.down, qA, qB, qC, qD, qE, qF, qG, reduceIte, reduceCtorEq, qH, qI, qJ, ↓avp_condG, ↓tf_arrow, ↓ft_arrow, ↓hF4, hF1, pf, ps, k_table_TakeTable_pack_Take.down, A_pack_Take, p_pack_Take, r_pack_Take]
  refine weak_at [(0, .t (.str s)), (2, .t .nilS), (3, .t .nilS), (4, .t (.bool (takeOk F1 s))), (5, .t (sl (takeL F1 s))), (6, .t (.str (takeR F1 s)))] .empty fewer_refl (by simp only [vP.down, vS.down, vE.down, qA, qB, qC, qD, qE, qF, qG, reduceIte, reduceCtorEq, qH, qI, qJ, ↓avp_condG, ↓tf_arrow, ↓ft_arrow, wP.down]) ?_
  cases hk : takeOk F1 s with
  | false =>
    simp only [vP.down, vS.down, vE.down, qA, qB, qC, qD, qE, qF, qG, reduceIte, reduceCtorEq, qH, qI, qJ, ↓avp_condG, ↓tf_arrow, ↓ft_arrow]
    simp only [vP.down, vS.down, vE.down, qA, qB, qC, qD, qE, qF, qG, reduceIte, reduceCtorEq, qH, qI, qJ, ↓avp_condG, ↓tf_arrow, ↓ft_arrow, vT.down, tk_no1 hk]
  | true =>
  obtain ⟨hn, hn2⟩ := cnt_bd hk
  have x0 : idxB K_table_TakeTable 58 (.t (sl (takeL F1 s))) (.t (.int .i64 0)) = .val True (.imm [.int .i64 (cntT s : Nat)]) := by
    have := idx_at (C := K_table_TakeTable) (l := takeL F1 s) (i := 0) ty_Lint ty_int rfl (by rw [takeL_len' hk]; decide) .i64
    rw [hn] at this
    exact this
  simp only [vP.down, vS.down, vE.down, qA, qB, qC, qD, qE, qF, qG, reduceIte, reduceCtorEq, qH, qI, qJ, ↓avp_condG, ↓tf_arrow, ↓ft_arrow]
  refine weak_at [(0, .t (.str s)), (2, .t .nilS), (3, .t .nilS), (5, .t (sl (takeL F1 s))), (6, .t (.str (takeR F1 s)))] .empty fewer_refl (by simp only [vP.down, vS.down, vE.down, qA, qB, qC, qD, qE, qF, qG, reduceIte, reduceCtorEq, qH, qI, qJ, ↓avp_condG, ↓tf_arrow, ↓ft_arrow, wP.down]) ?_
  simp only [vP.down, vS.down, vE.down, qA, qB, qC, qD, qE, qF, qG, reduceIte, reduceCtorEq, qH, qI, qJ, ↓avp_condG, ↓tf_arrow, ↓ft_arrow, x0]
  refine loop_weak hm_table_TakeTable (fun k σ => ∃ (i : Nat) (x y : AV) (S : Store), k = cntT s - i ∧ i ≤ cntT s ∧ (∀ j, j < i → stepOk (restT s j) = true) ∧ LV S x (d0T s i) ∧ LV S y (ptT s i) ∧ Apart x y ∧
      σ = mkS [(0, .t (.str s)), (2, x), (3, y), (6, .t (.str (restT s i))), (21, .t (.int .i64 (cntT s : Nat))), (22, .t (.int .i64 (i : Nat)))] S)
    ⟨0, .t .nilS, .t .nilS, .empty, rfl, by omega, by omega, lv_nil, lv_nil, fun _ h => absurd not_t h, rfl⟩ (wk_to fewer_refl (by simp only [vP.down, vS.down, vE.down, qA, qB, qC, qD, qE, qF, qG, reduceIte, reduceCtorEq, qH, qI, qJ, ↓avp_condG, ↓tf_arrow, ↓ft_arrow, wP.down, restT, Int.natCast_zero])) ?_
  rintro k _ ⟨i, x, y, S, rfl, hi, hlo, hx, hy, hxy, rfl⟩
  have hi1 : IntKind.i64.wrap ((i : Int) + 1) = ((i + 1 : Nat) : Int) := by rw [IntWalk.i64_in _ (by omega)]; rfl
  by_cases hlt : i < cntT s
  case neg =>
    obtain rfl : i = cntT s := by omega
    have hge : ¬ (cntT s : Int) < (cntT s : Int) := by omega
    simp only [vP.down, vS.down, vE.down, qA, qB, qC, qD, qE, qF, qG, reduceIte, reduceCtorEq, qH, qI, qJ, ↓avp_condG, ↓tf_arrow, ↓ft_arrow, hge]
    refine weak_at [(0, .t (.str s)), (2, .t (sl (dsT s (cntT s)))), (3, .t (sl (ptT s (cntT s))))] .empty fewer_empty (by
      simp only [vP.down, vS.down, vE.down, qA, qB, qC, qD, qE, qF, qG, reduceIte, reduceCtorEq, qH, qI, qJ, ↓avp_condG, ↓tf_arrow, ↓ft_arrow, wP.down]
      exact ⟨w2_d0 hx fun _ _ => rfl, hy.w2 fun _ _ => rfl⟩) ?_
    have ht : tkTok s = decide (tabB (dsT s (cntT s)) (ptT s (cntT s)) = s) := by rw [tkTok, hk, decide_eq_true hlo]; rfl
    cases hb : tkTok s with
    | false =>
      have e := of_decide_eq_false (ht.symm.trans hb)
      have e2 : takeTb s = ([], [], false) := by rw [takeTb, hb]; rfl
      simp only [vP.down, vS.down, vE.down, qA, qB, qC, qD, qE, qF, qG, reduceIte, reduceCtorEq, qH, qI, qJ, ↓avp_condG, ↓tf_arrow, ↓ft_arrow, e, not_false_eq_true, true_implies, false_implies, k_table_TakeTable_table_Table.down, A_table_Table, p_table_Table, r_table_Table]
      simp only [vP.down, vS.down, vE.down, qA, qB, qC, qD, qE, qF, qG, reduceIte, reduceCtorEq, qH, qI, qJ, ↓avp_condG, ↓tf_arrow, ↓ft_arrow, vT.down, e2]
    | true =>
      have e := of_decide_eq_true (ht.symm.trans hb)
      have e2 : takeTb s = (dsT s (cntT s), ptT s (cntT s), true) := by rw [takeTb, hb]; rfl
      simp only [vP.down, vS.down, vE.down, qA, qB, qC, qD, qE, qF, qG, reduceIte, reduceCtorEq, qH, qI, qJ, ↓avp_condG, ↓tf_arrow, ↓ft_arrow, e, bne_self_eq_false, k_table_TakeTable_table_Table.down, A_table_Table, p_table_Table, r_table_Table]
      refine weak_at [(2, .t (sl (dsT s (cntT s)))), (3, .t (sl (ptT s (cntT s))))] .empty fewer_refl (by simp only [vP.down, vS.down, vE.down, qA, qB, qC, qD, qE, qF, qG, reduceIte, reduceCtorEq, qH, qI, qJ, ↓avp_condG, ↓tf_arrow, ↓ft_arrow, wP.down]) ?_
      simp only [vP.down, vS.down, vE.down, qA, qB, qC, qD, qE, qF, qG, reduceIte, reduceCtorEq, qH, qI, qJ, ↓avp_condG, ↓tf_arrow, ↓ft_arrow]
      simp only [vP.down, vS.down, vE.down, qA, qB, qC, qD, qE, qF, qG, reduceIte, reduceCtorEq, qH, qI, qJ, ↓avp_condG, ↓tf_arrow, ↓ft_arrow, vT.down, e2]
  have hlt' : (i : Int) < (cntT s : Int) := by omega
  have pr : (restT s i).length ≤ 1099511627776 := by have := restT_len (s := s) i; omega
  have pr2 : (takeR F4 (restT s i)).length ≤ 1099511627776 := by have := takeR_len (f := F4) (s := restT s i); omega
  have hso : stepOk (restT s i) = (takeOk F4 (restT s i) && takePOk 1 (takeR F4 (restT s i))) := rfl
  have ed : d0I s i = ⟨(takeL F4 (restT s i)).getD 0 default, (takeL F4 (restT s i)).getD 1 default, (takeL F4 (restT s i)).getD 2 default, (takeL F4 (restT s i)).getD 3 default⟩ := rfl
  have ep : ptI s i = (takePL 1 (takeR F4 (restT s i))).getD 0 default := rfl
  have en : restT s (i + 1) = takePR 1 (takeR F4 (restT s i)) := rfl
  have hd1 := d0T_next (s := s) (i := i)
  have hp1 := ptT_next (s := s) (i := i)
  have hd2 := d0T_len (s := s) (i := i)
  have hp2 := ptT_len (s := s) (i := i)
  have hl4 : takeOk F4 (restT s i) = true → (takeL F4 (restT s i)).length = 4 := fun h => takeL_len' h
  have hl1 : takePOk 1 (takeR F4 (restT s i)) = true → (takePL 1 (takeR F4 (restT s i))).length = 1 := fun h => takePL_len h
  obtain ⟨b, hb⟩ : ∃ b, b = restT s i := ⟨_, rfl⟩
  rw [← hb] at pr pr2 hso ed ep en hl4 hl1 ⊢
  simp only [vP.down, vS.down, vE.down, qA, qB, qC, qD, qE, qF, qG, reduceIte, reduceCtorEq, qH, qI, qJ, ↓avp_condG, ↓tf_arrow, ↓ft_arrow, hlt']
  refine weak_at [(0, .t (.str s)), (2, x), (3, y), (6, .t (.str b)), (21, .t (.int .i64 (cntT s : Nat))), (22, .t (.int .i64 (i : Nat)))] S fewer_refl (by simp only [vP.down, vS.down, vE.down, qA, qB, qC, qD, qE, qF, qG, reduceIte, reduceCtorEq, qH, qI, qJ, ↓avp_condG, ↓tf_arrow, ↓ft_arrow, wP.down]) ?_
  simp only [vP.down, vS.down, vE.down, qA, qB, qC, qD, qE, qF, qG, reduceIte, reduceCtorEq, qH, qI, qJ, ↓avp_condG, ↓tf_arrow, ↓ft_arrow, p4, pr, k_table_TakeTable_pack_Take.down, A_pack_Take, p_pack_Take, r_pack_Take]
  refine weak_at [(0, .t (.str s)), (2, x), (3, y), (7, .t (sl (takeL F4 b))), (8, .t (.str (takeR F4 b))), (9, .t (.bool (takeOk F4 b))), (21, .t (.int .i64 (cntT s : Nat))), (22, .t (.int .i64 (i : Nat)))] S fewer_refl (by simp only [vP.down, vS.down, vE.down, qA, qB, qC, qD, qE, qF, qG, reduceIte, reduceCtorEq, qH, qI, qJ, ↓avp_condG, ↓tf_arrow, ↓ft_arrow, wP.down]) ?_
  cases h1 : takeOk F4 b with
  | false =>
    rw [h1, Bool.false_and, hb] at hso
    simp only [vP.down, vS.down, vE.down, qA, qB, qC, qD, qE, qF, qG, reduceIte, reduceCtorEq, qH, qI, qJ, ↓avp_condG, ↓tf_arrow, ↓ft_arrow]
    simp only [vP.down, vS.down, vE.down, qA, qB, qC, qD, qE, qF, qG, reduceIte, reduceCtorEq, qH, qI, qJ, ↓avp_condG, ↓tf_arrow, ↓ft_arrow, vT.down, tk_no2 hlt hso]
  | true =>
  have hl4 := hl4 h1
  simp only [vP.down, vS.down, vE.down, qA, qB, qC, qD, qE, qF, qG, reduceIte, reduceCtorEq, qH, qI, qJ, ↓avp_condG, ↓tf_arrow, ↓ft_arrow]
  refine weak_at [(0, .t (.str s)), (2, x), (3, y), (7, .t (sl (takeL F4 b))), (8, .t (.str (takeR F4 b))), (21, .t (.int .i64 (cntT s : Nat))), (22, .t (.int .i64 (i : Nat)))] S fewer_refl (by simp only [vP.down, vS.down, vE.down, qA, qB, qC, qD, qE, qF, qG, reduceIte, reduceCtorEq, qH, qI, qJ, ↓avp_condG, ↓tf_arrow, ↓ft_arrow, wP.down]) ?_
  have pp : (1 : Int) ≤ 1048576 := by omega
  simp only [vP.down, vS.down, vE.down, qA, qB, qC, qD, qE, qF, qG, reduceIte, reduceCtorEq, qH, qI, qJ, ↓avp_condG, ↓tf_arrow, ↓ft_arrow, pr2, pp, show ((1 : Int)).toNat = 1 from rfl, k_table_TakeTable_ptr_Take.down, A_ptr_Take, p_ptr_Take, r_ptr_Take]
  refine weak_at [(0, .t (.str s)), (2, x), (3, y), (7, .t (sl (takeL F4 b))), (8, .t (.str (takePR 1 (takeR F4 b)))), (9, .t (.bool (takePOk 1 (takeR F4 b)))), (10, .t (sl (takePL 1 (takeR F4 b)))), (21, .t (.int .i64 (cntT s : Nat))), (22, .t (.int .i64 (i : Nat)))] S fewer_refl (by simp only [vP.down, vS.down, vE.down, qA, qB, qC, qD, qE, qF, qG, reduceIte, reduceCtorEq, qH, qI, qJ, ↓avp_condG, ↓tf_arrow, ↓ft_arrow, wP.down]) ?_
  cases h2 : takePOk 1 (takeR F4 b) with
  | false =>
    rw [h1, h2, Bool.and_false, hb] at hso
    simp only [vP.down, vS.down, vE.down, qA, qB, qC, qD, qE, qF, qG, reduceIte, reduceCtorEq, qH, qI, qJ, ↓avp_condG, ↓tf_arrow, ↓ft_arrow]
    simp only [vP.down, vS.down, vE.down, qA, qB, qC, qD, qE, qF, qG, reduceIte, reduceCtorEq, qH, qI, qJ, ↓avp_condG, ↓tf_arrow, ↓ft_arrow, vT.down, tk_no2 hlt hso]
  | true =>
  have hl1 := hl1 h2
  simp only [vP.down, vS.down, vE.down, qA, qB, qC, qD, qE, qF, qG, reduceIte, reduceCtorEq, qH, qI, qJ, ↓avp_condG, ↓tf_arrow, ↓ft_arrow]
  refine weak_at [(0, .t (.str s)), (2, x), (3, y), (7, .t (sl (takeL F4 b))), (8, .t (.str (takePR 1 (takeR F4 b)))), (10, .t (sl (takePL 1 (takeR F4 b)))), (21, .t (.int .i64 (cntT s : Nat))), (22, .t (.int .i64 (i : Nat)))] S fewer_refl (by simp only [vP.down, vS.down, vE.down, qA, qB, qC, qD, qE, qF, qG, reduceIte, reduceCtorEq, qH, qI, qJ, ↓avp_condG, ↓tf_arrow, ↓ft_arrow, wP.down]) ?_
  have y0 := idx_at (C := K_table_TakeTable) (l := takeL F4 b) (i := 0) ty_Lint ty_int rfl (by omega) .i64
  have y1 := idx_at (C := K_table_TakeTable) (l := takeL F4 b) (i := 1) ty_Lint ty_int rfl (by omega) .i64
  have y2 := idx_at (C := K_table_TakeTable) (l := takeL F4 b) (i := 2) ty_Lint ty_int rfl (by omega) .i64
  have y3 := idx_at (C := K_table_TakeTable) (l := takeL F4 b) (i := 3) ty_Lint ty_int rfl (by omega) .i64
  have y4 := idx_at (C := K_table_TakeTable) (l := takePL 1 (takeR F4 b)) (i := 0) ty_Lapi_Ptr ty_api_Ptr rfl (by omega) .i64
  rw [show ((0 : Nat) : Int) = 0 from rfl] at y0 y4
  rw [show ((1 : Nat) : Int) = 1 from rfl] at y1
  rw [show ((2 : Nat) : Int) = 2 from rfl] at y2
  rw [show ((3 : Nat) : Int) = 3 from rfl] at y3
  rw [← ep] at y4
  obtain ⟨v0, e0⟩ : ∃ v, v = (takeL F4 b).getD 0 default := ⟨_, rfl⟩
  obtain ⟨v1, e1⟩ : ∃ v, v = (takeL F4 b).getD 1 default := ⟨_, rfl⟩
  obtain ⟨v2, e2⟩ : ∃ v, v = (takeL F4 b).getD 2 default := ⟨_, rfl⟩
  obtain ⟨v3, e3⟩ : ∃ v, v = (takeL F4 b).getD 3 default := ⟨_, rfl⟩
  rw [← e0] at y0 ed
  rw [← e1] at y1 ed
  rw [← e2] at y2 ed
  rw [← e3] at y3 ed
  obtain ⟨q, hq⟩ : ∃ q, q = ptI s i := ⟨_, rfl⟩
  rw [← hq] at y4 hp1
  simp only [vP.down, vS.down, vE.down, qA, qB, qC, qD, qE, qF, qG, reduceIte, reduceCtorEq, qH, qI, qJ, ↓avp_condG, ↓tf_arrow, ↓ft_arrow, y0, y1, y2, y3, y4]
  intro g hg
  have hd256 : i < 256 := by omega
  refine append_apart (α := TD0) ty_Lapi_Dset ty_api_Dset rfl (by decide) (hx.fresh hg) (hy.fresh hg) hxy (shows_one (x := (⟨v0, v1, v2, v3⟩ : TD0)) rfl rfl rfl) (by rw [hd2]; simp; omega) (by rw [hd2]; simp; omega) fun x' S' hx' hy' hxy' _ => ?_
  intro g2 hg2
  refine append_apart ty_Lapi_Ptr ty_api_Ptr rfl (by decide) (hy'.fresh hg2) (hx'.fresh hg2) hxy'.symm (shows_one (x := q) rfl rfl rfl) (by rw [hp2]; simp; omega) (by rw [hp2]; simp; omega) fun y' S2 hy2 hx2 hyx _ => ?_
  rw [← ed, ← hd1] at hx2
  rw [← hp1] at hy2
  exact round_to (cntT s - (i + 1)) [(0, .t (.str s)), (2, x'), (3, y'), (6, .t (.str (restT s (i + 1)))), (21, .t (.int .i64 (cntT s : Nat))), (22, .t (.int .i64 (i + 1 : Nat)))] S2 (by omega) fewer_refl (by simp only [vP.down, vS.down, vE.down, qA, qB, qC, qD, qE, qF, qG, reduceIte, reduceCtorEq, qH, qI, qJ, ↓avp_condG, ↓tf_arrow, ↓ft_arrow, wP.down, hi1, en])
    ⟨i + 1, x', y', S2, rfl, by omega, fun j hj => (by
      by_cases hji : j = i
      · rw [hji, ← hb, hso, h1, h2]; rfl
      · exact hlo j (by omega)), hx2, hy2, hyx.symm, rfl⟩
noncomputable def c_table_TakeTable : Con := fnCon A_table_TakeTable p_table_TakeTable r_table_TakeTable
theorem ok_table_TakeTable : COk Try.prog 18 c_table_TakeTable := fn_ok sys_table_TakeTable mixed Try.func18 (by kernel_rfl) geq_table_TakeTable Try.ntmps18 (by rw [Try.results18]) fun x hx => ⟨Nat.le_of_ble_eq_true rfl, body_table_TakeTable x hx⟩
end Go.Proofs.Ytofcmdkmhbbbjaa
namespace Go.Proofs.Ytofcmdkmhbbbjaa
open Go Go.Eng
set_option maxRecDepth 100000
end Go.Proofs.Ytofcmdkmhbbbjaa
