/-
  PackJoins: numbers by one form behind those by another are all by both.
-/
import Derived.Test.YtnabeiodhhmdoaaLaws
set_option linter.unusedSimpArgs false
set_option linter.unusedVariables false
namespace Go.Proofs.Ytnabeiodhhmdoaa
open Go Go.Eng
def G_law3_PackJoins : GCode := .seq (.region [⟨(some 3), none, .box 33 (.tmp 0)⟩, ⟨(some 4), none, .box 34 (.tmp 1)⟩, ⟨(some 6), none, .assign (.const (.bool false))⟩]) (.seq (.seq (.seq .weak (.region [⟨(some 24), none, .call ⟨.value (.func 9), #[], #[]⟩⟩, ⟨(some 25), none, .unOp .not 4 (.tmp 24)⟩])) (.cond (.tmp 25) (.seq (.region [⟨(some 6), none, .assign (.const (.bool false))⟩]) (.ret)) (.skip))) (.seq (.region [⟨(some 7), none, .assign (.const (.string ⟨#[]⟩))⟩]) (.seq (.region [⟨(some 8), none, .assign (.const (.slice none 0 0))⟩]) (.seq (.seq (.region [⟨(some 9), none, .assign (.const (.int .i64 0))⟩]) (.block 0 (.loop (.seq .weak (.seq (.seq (.region [⟨(some 26), none, .move (.tmp 9)⟩, ⟨(some 27), none, .binOp .lss 3 (.tmp 26) (.const (.int .i64 4)) 3⟩]) (.cond (.tmp 27) (.skip) (.exit 0))) (.seq (.block 1 (.seq (.region [⟨(some 30), none, .move (.tmp 9)⟩, ⟨(some 31), none, .indexAddr 34 (.tmp 4) (.tmp 30)⟩, ⟨(some 32), none, .load 5 (.tmp 31)⟩, ⟨(some 33), none, .binOp .rem 5 (.tmp 32) (.const (.int .u8 4)) 5⟩, ⟨(some 34), none, .convert 5 3 (.tmp 33)⟩, ⟨(some 10), none, .assign (.tmp 34)⟩]) (.seq (.region [⟨(some 35), none, .move (.tmp 7)⟩, ⟨(some 36), none, .move (.tmp 10)⟩, ⟨(some 37), none, .move (.tmp 10)⟩, ⟨(some 38), none, .binOp .add 3 (.tmp 37) (.const (.int .i64 1)) 3⟩, ⟨(some 39), none, .slice 9 (.const (.string ⟨#[49, 50, 51, 52]⟩)) (some (.tmp 36)) (some (.tmp 38)) none⟩, ⟨(some 40), none, .binOp .add 9 (.tmp 35) (.tmp 39) 9⟩, ⟨(some 7), none, .assign (.tmp 40)⟩]) (.region [⟨(some 41), none, .move (.tmp 8)⟩, ⟨(some 42), none, .move (.tmp 9)⟩, ⟨(some 43), none, .indexAddr 33 (.tmp 3) (.tmp 42)⟩, ⟨(some 44), none, .load 32 (.tmp 43)⟩, ⟨(some 45), none, .convert 32 3 (.tmp 44)⟩, ⟨(some 46), none, .buildSlice 26 1 #[(0, .tmp 45)]⟩, ⟨(some 47), none, .call ⟨.builtin .append, #[.tmp 41, .tmp 46], #[26, 26]⟩⟩, ⟨(some 8), none, .assign (.tmp 47)⟩])))) (.region [⟨(some 28), none, .move (.tmp 9)⟩, ⟨(some 29), none, .binOp .add 3 (.tmp 28) (.const (.int .i64 1)) 3⟩, ⟨(some 9), none, .assign (.tmp 29)⟩]))))))) (.seq (.seq .weak (.region [⟨(some 48), none, .move (.tmp 2)⟩, ⟨(some 49), none, .convert 5 3 (.tmp 48)⟩, ⟨(some 50), none, .binOp .rem 3 (.tmp 49) (.const (.int .i64 5)) 3⟩, ⟨(some 11), none, .assign (.tmp 50)⟩])) (.seq (.region [⟨(some 51), none, .move (.tmp 7)⟩, ⟨(some 52), none, .move (.tmp 8)⟩, ⟨(some 53), none, .call ⟨.value (.func 10), #[.tmp 51, .tmp 52], #[9, 26]⟩⟩, ⟨(some 54), none, .move (.tmp 7)⟩, ⟨(some 55), none, .move (.tmp 11)⟩, ⟨(some 56), none, .slice 9 (.tmp 54) none (some (.tmp 55)) none⟩, ⟨(some 57), none, .move (.tmp 8)⟩, ⟨(some 58), none, .move (.tmp 11)⟩, ⟨(some 59), none, .slice 26 (.tmp 57) none (some (.tmp 58)) none⟩, ⟨(some 60), none, .call ⟨.value (.func 10), #[.tmp 56, .tmp 59], #[9, 26]⟩⟩, ⟨(some 61), none, .move (.tmp 7)⟩, ⟨(some 62), none, .move (.tmp 11)⟩, ⟨(some 63), none, .slice 9 (.tmp 61) (some (.tmp 62)) none none⟩, ⟨(some 64), none, .move (.tmp 8)⟩, ⟨(some 65), none, .move (.tmp 11)⟩, ⟨(some 66), none, .slice 26 (.tmp 64) (some (.tmp 65)) none none⟩, ⟨(some 67), none, .call ⟨.value (.func 10), #[.tmp 63, .tmp 66], #[9, 26]⟩⟩, ⟨(some 12), none, .assign (.tmp 53)⟩, ⟨(some 13), none, .assign (.tmp 60)⟩, ⟨(some 14), none, .assign (.tmp 67)⟩]) (.seq (.region [⟨(some 69), none, .move (.tmp 7)⟩, ⟨(some 70), none, .move (.tmp 11)⟩, ⟨(some 71), none, .slice 9 (.tmp 69) none (some (.tmp 70)) none⟩, ⟨(some 72), none, .move (.tmp 12)⟩, ⟨(some 73), none, .call ⟨.value (.func 12), #[.tmp 71, .tmp 72], #[9, 9]⟩⟩, ⟨(some 68), none, .move (.tmp 73)⟩, ⟨(some 74), none, .extract (.tmp 68) 0⟩, ⟨(some 75), none, .extract (.tmp 68) 1⟩, ⟨(some 76), none, .extract (.tmp 68) 2⟩, ⟨(some 15), none, .assign (.tmp 74)⟩, ⟨(some 16), none, .assign (.tmp 75)⟩, ⟨(some 17), none, .assign (.tmp 76)⟩]) (.seq (.region [⟨(some 78), none, .move (.tmp 7)⟩, ⟨(some 79), none, .move (.tmp 11)⟩, ⟨(some 80), none, .slice 9 (.tmp 78) (some (.tmp 79)) none none⟩, ⟨(some 81), none, .move (.tmp 16)⟩, ⟨(some 82), none, .call ⟨.value (.func 12), #[.tmp 80, .tmp 81], #[9, 9]⟩⟩, ⟨(some 77), none, .move (.tmp 82)⟩, ⟨(some 83), none, .extract (.tmp 77) 0⟩, ⟨(some 84), none, .extract (.tmp 77) 1⟩, ⟨(some 85), none, .extract (.tmp 77) 2⟩, ⟨(some 18), none, .assign (.tmp 83)⟩, ⟨(some 19), none, .assign (.tmp 84)⟩, ⟨(some 20), none, .assign (.tmp 85)⟩]) (.seq (.region [⟨(some 87), none, .move (.tmp 7)⟩, ⟨(some 88), none, .move (.tmp 12)⟩, ⟨(some 89), none, .call ⟨.value (.func 12), #[.tmp 87, .tmp 88], #[9, 9]⟩⟩, ⟨(some 86), none, .move (.tmp 89)⟩, ⟨(some 90), none, .extract (.tmp 86) 0⟩, ⟨(some 91), none, .extract (.tmp 86) 1⟩, ⟨(some 92), none, .extract (.tmp 86) 2⟩, ⟨(some 21), none, .assign (.tmp 90)⟩, ⟨(some 22), none, .assign (.tmp 91)⟩, ⟨(some 23), none, .assign (.tmp 92)⟩]) (.seq (.region [⟨(some 93), none, .move (.tmp 12)⟩, ⟨(some 94), none, .move (.tmp 13)⟩, ⟨(some 95), none, .move (.tmp 14)⟩, ⟨(some 96), none, .binOp .add 9 (.tmp 94) (.tmp 95) 9⟩, ⟨(some 97), none, .binOp .eql 9 (.tmp 93) (.tmp 96) 9⟩, ⟨(some 98), none, .move (.tmp 97)⟩, ⟨(some 99), (some (98, true)), .move (.tmp 17)⟩, ⟨(some 100), none, .pick (.tmp 98) (.tmp 99) (.const (.bool false))⟩, ⟨(some 101), none, .move (.tmp 100)⟩, ⟨(some 102), (some (101, true)), .move (.tmp 20)⟩, ⟨(some 103), none, .pick (.tmp 101) (.tmp 102) (.const (.bool false))⟩, ⟨(some 104), none, .move (.tmp 103)⟩, ⟨(some 105), (some (104, true)), .move (.tmp 23)⟩, ⟨(some 106), none, .pick (.tmp 104) (.tmp 105) (.const (.bool false))⟩, ⟨(some 107), none, .move (.tmp 106)⟩, ⟨(some 108), (some (107, true)), .move (.tmp 19)⟩, ⟨(some 109), (some (107, true)), .binOp .eql 9 (.tmp 108) (.const (.string ⟨#[]⟩)) 9⟩, ⟨(some 110), none, .pick (.tmp 107) (.tmp 109) (.const (.bool false))⟩, ⟨(some 111), none, .move (.tmp 110)⟩, ⟨(some 112), (some (111, true)), .move (.tmp 12)⟩, ⟨(some 113), (some (111, true)), .call ⟨.builtin .len, #[.tmp 112], #[9]⟩⟩, ⟨(some 114), (some (111, true)), .binOp .geq 3 (.tmp 113) (.const (.int .i64 4)) 3⟩, ⟨(some 115), none, .pick (.tmp 111) (.tmp 114) (.const (.bool false))⟩, ⟨(some 116), none, .move (.tmp 115)⟩, ⟨(some 117), (some (116, true)), .move (.tmp 21)⟩, ⟨(some 118), (some (116, true)), .buildSlice 26 0 #[]⟩, ⟨(some 119), (some (116, true)), .move (.tmp 15)⟩, ⟨(some 120), (some (116, true)), .call ⟨.builtin .append, #[.tmp 118, .tmp 119], #[26, 26]⟩⟩, ⟨(some 121), (some (116, true)), .move (.tmp 18)⟩, ⟨(some 122), (some (116, true)), .call ⟨.builtin .append, #[.tmp 120, .tmp 121], #[26, 26]⟩⟩, ⟨(some 123), (some (116, true)), .call ⟨.value (.func 14), #[.tmp 117, .tmp 122], #[26, 26]⟩⟩, ⟨(some 124), none, .pick (.tmp 116) (.tmp 123) (.const (.bool false))⟩, ⟨(some 6), none, .assign (.tmp 124)⟩]) (.ret)))))))))))
noncomputable def l_law3_PackJoins : List (Nat × Con) := [(9, c_law3_begun), (10, c_pack_Put), (12, c_pack_Take), (14, c_ref1_SameInts)]
noncomputable abbrev K_law3_PackJoins : Ctx := ctx (cl l_law3_PackJoins)
theorem geq_law3_PackJoins : gof K_law3_PackJoins Try.f6 = some G_law3_PackJoins.strip := by kernel_rfl
theorem sys_law3_PackJoins : Go.Eng.Sys Try.prog K_law3_PackJoins := sys_of ⟨ok_law3_begun, ok_pack_Put, ok_pack_Take, ok_ref1_SameInts, trivial⟩
theorem hm_law3_PackJoins : ConMono K_law3_PackJoins := conMono_of sys_law3_PackJoins.con
noncomputable def k_law3_PackJoins_law3_begun := PLift.up (call_scal (C := K_law3_PackJoins) (f := 9) (A := A_law3_begun) (p := p_law3_begun) (r := r_law3_begun) rfl)
noncomputable def k_law3_PackJoins_pack_Put := PLift.up (call_scal (C := K_law3_PackJoins) (f := 10) (A := A_pack_Put) (p := p_pack_Put) (r := r_pack_Put) rfl)
noncomputable def k_law3_PackJoins_pack_Take := PLift.up (call_fn (C := K_law3_PackJoins) (f := 12) (A := A_pack_Take) (p := p_pack_Take) (r := r_pack_Take) rfl)
noncomputable def k_law3_PackJoins_ref1_SameInts := PLift.up (call_scal (C := K_law3_PackJoins) (f := 14) (A := A_ref1_SameInts) (p := p_ref1_SameInts) (r := r_ref1_SameInts) rfl)
noncomputable def A_law3_PackJoins : Arms ((UInt32 × UInt32 × UInt32 × UInt32) × (Byt × Byt × Byt × Byt) × Byt × Unit) := Arms.cons (argA (UInt32 × UInt32 × UInt32 × UInt32)) (Arms.cons (argA (Byt × Byt × Byt × Byt)) (Arms.cons (argT Byt) (Arms.nil)))
def p_law3_PackJoins (x : (UInt32 × UInt32 × UInt32 × UInt32) × (Byt × Byt × Byt × Byt) × Byt × Unit) : Prop := ((goodAny x.1.1 ∧ (goodAny x.1.2.1 ∧ (goodAny x.1.2.2.1 ∧ (goodAny x.1.2.2.2))))) ∧ ((goodAny x.2.1.1 ∧ (goodAny x.2.1.2.1 ∧ (goodAny x.2.1.2.2.1 ∧ (goodAny x.2.1.2.2.2))))) ∧ (goodAny x.2.2.1) ∧ goodAny (x.2.2.2)
abbrev r_law3_PackJoins (x : (UInt32 × UInt32 × UInt32 × UInt32) × (Byt × Byt × Byt × Byt) × Byt × Unit) : AV := rTrue x
theorem rd_law3_PackJoins : ReadsA Try.prog [33, 34, 5] A_law3_PackJoins p_law3_PackJoins := (readsA_A (reads_arr Try.underlying33 (by kernel_rfl) (readsL_cons (reads_u32 Try.underlying32) (by kernel_rfl) (readsL_cons (reads_u32 Try.underlying32) (by kernel_rfl) (readsL_cons (reads_u32 Try.underlying32) (by kernel_rfl) (readsL_one (reads_u32 Try.underlying32) (by kernel_rfl)))))) (by kernel_rfl) (readsA_A (reads_arr Try.underlying34 (by kernel_rfl) (readsL_cons (reads_u8 Try.underlying5) (by kernel_rfl) (readsL_cons (reads_u8 Try.underlying5) (by kernel_rfl) (readsL_cons (reads_u8 Try.underlying5) (by kernel_rfl) (readsL_one (reads_u8 Try.underlying5) (by kernel_rfl)))))) (by kernel_rfl) (readsA_T (reads_u8 Try.underlying5) (by kernel_rfl) readsA_nil)))

def valsJ (ls : List UInt32) : List Int := ls.map fun l => (l.toNat : Int)
def modV (f : List UInt8) (l : List Int) : List Int := List.zipWith (fun w n => n % 256 ^ w.toNat) (digs f) l

theorem flat_join : ∀ (m : Nat) (ws l : List Int), ws.length = l.length → flat ws l = flat (ws.take m) (l.take m) ++ flat (ws.drop m) (l.drop m)
  | 0, ws, l, _ => by simp [flat]
  | m + 1, [], [], _ => by simp [flat]
  | m + 1, w :: ws, n :: l, h => by
    have := flat_join m ws l (by simpa using h)
    simp only [List.take_succ_cons, List.drop_succ_cons, flat_cons, List.append_assoc]
    rw [this]
  | _ + 1, [], _ :: _, h => by simp at h
  | _ + 1, _ :: _, [], h => by simp at h
theorem zip_join {f : Int → Int → Int} : ∀ (m : Nat) (ws l : List Int), ws.length = l.length → List.zipWith f ws l = List.zipWith f (ws.take m) (l.take m) ++ List.zipWith f (ws.drop m) (l.drop m)
  | 0, ws, l, _ => by simp
  | m + 1, [], [], _ => by simp
  | m + 1, w :: ws, n :: l, h => by
    have := zip_join (f := f) m ws l (by simpa using h)
    simp only [List.take_succ_cons, List.drop_succ_cons, List.zipWith_cons_cons, List.cons_append]
    rw [this]
  | _ + 1, [], _ :: _, h => by simp at h
  | _ + 1, _ :: _, [], h => by simp at h

theorem sizeJ_bd : ∀ ws : List UInt8, (ws.length : Int) ≤ (ws.map fun w => (wN w : Int)).sum ∧ (ws.map fun w => (wN w : Int)).sum ≤ 4 * ws.length
  | [] => by simp
  | w :: r => by
    have := sizeJ_bd r
    have := wN_bd w
    simp only [List.map_cons, List.sum_cons, List.length_cons] at *
    omega

set_option maxRecDepth 100000 in
theorem walk_joins (ls : List UInt32) (ws : List UInt8) (c : UInt8) (hls : ls.length = 4) (hws : ws.length = 4) :
    avp K_law3_PackJoins G_law3_PackJoins (Ret K_law3_PackJoins [.tmp 6] fun v _ => v = .t (.bool true))
      (entry [.agg ((ls.map fun l => TV.int .u32 (l.toNat : Int)).map .t), .agg ((ws.map fun w => TV.int .u8 (w.toNat : Int)).map .t), .t (.int .u8 (c.toNat : Int))] .empty) := by
  unfold G_law3_PackJoins
  simp only [vR.down, vr20.down, vr40.down, vr50.down, vS.down, List.drop_succ_cons, List.drop_zero, List.take_succ_cons, List.take_zero, Nat.zero_add, Nat.reduceEqDiff, Nat.reduceAdd, Nat.reduceSub, Nat.reduceMul, Nat.reduceLeDiff, Nat.reduceLT, Int.reduceToNat, reduceIte, reduceCtorEq, true_and, and_true, implies_true, forall_const, List.map_cons, List.map_nil, Option.map_some, Option.map_none, Option.bind_some, List.append_nil, List.nil_append, List.length_cons, List.length_nil, List.getD_cons_zero, List.getD_cons_succ, Bool.false_eq_true, Nat.zero_lt_succ, vr30.down, Option.toList_some, Option.toList_none, List.cons_append, getD_byt, Int.toNat_natCast, decide_eq_true_eq, decide_eq_false_iff_not, Bool.not_eq_true', Bool.not_eq_false', Bool.and_eq_true, Bool.or_eq_true, Bool.or_eq_false_iff, Bool.and_eq_false_imp, Decidable.not_not, List.length_map, beq_true, beq_false, imp_self, and_self, Option.isSome_some, List.toList_toArray, decide_true, decide_false, Bool.and_true, Bool.true_and, Bool.and_false, Bool.false_and, Bool.or_true, Bool.true_or, Bool.or_false, Bool.false_or, Bool.not_true, Bool.not_false, Int.reduceEq, Int.reduceLT, Int.reduceLE, Int.cast_ofNat_Int, eq_self, Nat.reduceLeDiff, Nat.le_refl, Bool.not_not]
  intro g hg g2 hg2
  have hne : g ≠ g2 := fun e => by rw [e, Store.set_same] at hg2; cases hg2
  have e1 : ((Store.empty.set g (some (.box ((ls.map fun l => TV.int .u32 (l.toNat : Int)).map .t) false))).set g2 (some (.box ((ws.map fun w => TV.int .u8 (w.toNat : Int)).map .t) false))).f g = some (.box ((ls.map fun l => TV.int .u32 (l.toNat : Int)).map .t) false) := by
    rw [Store.set_other _ _ hne, Store.set_same]
  have e2 := Store.set_same (Store.empty.set g (some (.box ((ls.map fun l => TV.int .u32 (l.toNat : Int)).map .t) false))) g2 (some (.box ((ws.map fun w => TV.int .u8 (w.toNat : Int)).map .t) false))
  refine weak_at [(2, .t (.int .u8 (c.toNat : Int))), (3, .imm (ls.map fun l => TV.int .u32 (l.toNat : Int))), (4, .imm (ws.map fun w => TV.int .u8 (w.toNat : Int)))] .empty fewer_empty (by simp only [vR.down, vr20.down, vr40.down, vr50.down, vS.down, List.drop_succ_cons, List.drop_zero, List.take_succ_cons, List.take_zero, Nat.zero_add, Nat.reduceEqDiff, Nat.reduceAdd, Nat.reduceSub, Nat.reduceMul, Nat.reduceLeDiff, Nat.reduceLT, Int.reduceToNat, reduceIte, reduceCtorEq, true_and, and_true, implies_true, forall_const, List.map_cons, List.map_nil, Option.map_some, Option.map_none, Option.bind_some, List.append_nil, List.nil_append, List.length_cons, List.length_nil, List.getD_cons_zero, List.getD_cons_succ, Bool.false_eq_true, Nat.zero_lt_succ, vr30.down, Option.toList_some, Option.toList_none, List.cons_append, getD_byt, Int.toNat_natCast, decide_eq_true_eq, decide_eq_false_iff_not, Bool.not_eq_true', Bool.not_eq_false', Bool.and_eq_true, Bool.or_eq_true, Bool.or_eq_false_iff, Bool.and_eq_false_imp, Decidable.not_not, List.length_map, beq_true, beq_false, imp_self, and_self, Option.isSome_some, List.toList_toArray, decide_true, decide_false, Bool.and_true, Bool.true_and, Bool.and_false, Bool.false_and, Bool.or_true, Bool.true_or, Bool.or_false, Bool.false_or, Bool.not_true, Bool.not_false, Int.reduceEq, Int.reduceLT, Int.reduceLE, Int.cast_ofNat_Int, eq_self, Nat.reduceLeDiff, Nat.le_refl, Bool.not_not, wkAll_cons, wkAll_nil, w2_refl, w2_nil, w2_emp, empty_none, w2_imm' e1 (empty_none (g := g)), w2_imm' e2 (empty_none (g := g2))]) ?_
  simp only [vR.down, vr20.down, vr40.down, vr50.down, vS.down, List.drop_succ_cons, List.drop_zero, List.take_succ_cons, List.take_zero, Nat.zero_add, Nat.reduceEqDiff, Nat.reduceAdd, Nat.reduceSub, Nat.reduceMul, Nat.reduceLeDiff, Nat.reduceLT, Int.reduceToNat, reduceIte, reduceCtorEq, true_and, and_true, implies_true, forall_const, List.map_cons, List.map_nil, Option.map_some, Option.map_none, Option.bind_some, List.append_nil, List.nil_append, List.length_cons, List.length_nil, List.getD_cons_zero, List.getD_cons_succ, Bool.false_eq_true, Nat.zero_lt_succ, vr30.down, Option.toList_some, Option.toList_none, List.cons_append, getD_byt, Int.toNat_natCast, decide_eq_true_eq, decide_eq_false_iff_not, Bool.not_eq_true', Bool.not_eq_false', Bool.and_eq_true, Bool.or_eq_true, Bool.or_eq_false_iff, Bool.and_eq_false_imp, Decidable.not_not, List.length_map, beq_true, beq_false, imp_self, and_self, Option.isSome_some, List.toList_toArray, decide_true, decide_false, Bool.and_true, Bool.true_and, Bool.and_false, Bool.false_and, Bool.or_true, Bool.true_or, Bool.or_false, Bool.false_or, Bool.not_true, Bool.not_false, Int.reduceEq, Int.reduceLT, Int.reduceLE, Int.cast_ofNat_Int, eq_self, Nat.reduceLeDiff, Nat.le_refl, Bool.not_not, k_law3_PackJoins_law3_begun.down, A_law3_begun, p_law3_begun, r_law3_begun]
  refine ⟨fun h => h.elim, ?_⟩
  refine loop_weak hm_law3_PackJoins (fun k σ => ∃ (i : Nat) (x : AV) (S : Store), k = 4 - i ∧ i ≤ 4 ∧ LV S x (valsJ (ls.take i)) ∧
    σ = mkS [(2, .t (.int .u8 (c.toNat : Int))), (3, .imm (ls.map fun l => TV.int .u32 (l.toNat : Int))), (4, .imm (ws.map fun w => TV.int .u8 (w.toNat : Int))),
      (7, .t (.str ((ws.take i).map dC))), (8, x), (9, .t (.int .i64 (i : Nat)))] S)
    ⟨0, .t .nilS, .empty, rfl, by omega, lv_nil, rfl⟩ (wk_to fewer_refl (by simp only [vR.down, vr20.down, vr40.down, vr50.down, vS.down, List.drop_succ_cons, List.drop_zero, List.take_succ_cons, List.take_zero, Nat.zero_add, Nat.reduceEqDiff, Nat.reduceAdd, Nat.reduceSub, Nat.reduceMul, Nat.reduceLeDiff, Nat.reduceLT, Int.reduceToNat, reduceIte, reduceCtorEq, true_and, and_true, implies_true, forall_const, List.map_cons, List.map_nil, Option.map_some, Option.map_none, Option.bind_some, List.append_nil, List.nil_append, List.length_cons, List.length_nil, List.getD_cons_zero, List.getD_cons_succ, Bool.false_eq_true, Nat.zero_lt_succ, vr30.down, Option.toList_some, Option.toList_none, List.cons_append, getD_byt, Int.toNat_natCast, decide_eq_true_eq, decide_eq_false_iff_not, Bool.not_eq_true', Bool.not_eq_false', Bool.and_eq_true, Bool.or_eq_true, Bool.or_eq_false_iff, Bool.and_eq_false_imp, Decidable.not_not, List.length_map, beq_true, beq_false, imp_self, and_self, Option.isSome_some, List.toList_toArray, decide_true, decide_false, Bool.and_true, Bool.true_and, Bool.and_false, Bool.false_and, Bool.or_true, Bool.true_or, Bool.or_false, Bool.false_or, Bool.not_true, Bool.not_false, Int.reduceEq, Int.reduceLT, Int.reduceLE, Int.cast_ofNat_Int, eq_self, Nat.reduceLeDiff, Nat.le_refl, Bool.not_not, wkAll_cons, wkAll_nil, w2_refl, w2_nil, w2_emp, empty_none, List.take_zero, Int.natCast_zero])) ?_
  rintro k _ ⟨i, x, S, rfl, hi, hx, rfl⟩
  simp only [vR.down, vr20.down, vr40.down, vr50.down, vS.down, List.drop_succ_cons, List.drop_zero, List.take_succ_cons, List.take_zero, Nat.zero_add, Nat.reduceEqDiff, Nat.reduceAdd, Nat.reduceSub, Nat.reduceMul, Nat.reduceLeDiff, Nat.reduceLT, Int.reduceToNat, reduceIte, reduceCtorEq, true_and, and_true, implies_true, forall_const, List.map_cons, List.map_nil, Option.map_some, Option.map_none, Option.bind_some, List.append_nil, List.nil_append, List.length_cons, List.length_nil, List.getD_cons_zero, List.getD_cons_succ, Bool.false_eq_true, Nat.zero_lt_succ, vr30.down, Option.toList_some, Option.toList_none, List.cons_append, getD_byt, Int.toNat_natCast, decide_eq_true_eq, decide_eq_false_iff_not, Bool.not_eq_true', Bool.not_eq_false', Bool.and_eq_true, Bool.or_eq_true, Bool.or_eq_false_iff, Bool.and_eq_false_imp, Decidable.not_not, List.length_map, beq_true, beq_false, imp_self, and_self, Option.isSome_some, List.toList_toArray, decide_true, decide_false, Bool.and_true, Bool.true_and, Bool.and_false, Bool.false_and, Bool.or_true, Bool.true_or, Bool.or_false, Bool.false_or, Bool.not_true, Bool.not_false, Int.reduceEq, Int.reduceLT, Int.reduceLE, Int.cast_ofNat_Int, eq_self, Nat.reduceLeDiff, Nat.le_refl, Bool.not_not]
  refine ⟨fun hlt => ?_, fun hge => ?_⟩
  · have hi4 : i < 4 := by omega
    have d1 := map_at (fun w => TV.int .u8 (w.toNat : Int)) 0 ws i (by omega)
    have d2 := map_at (fun l => TV.int .u32 (l.toNat : Int)) 0 ls i (by omega)
    have hbd := wN_bd (ws.getD i 0)
    have hwb := (ws.getD i 0).toNat_lt
    have hlb := (ls.getD i 0).toNat_lt
    have hwo : IntKind.i64.wrap (((ws.getD i 0).toNat : Int).tmod 4) = (wN (ws.getD i 0) : Int) - 1 := by
      have e : ((ws.getD i 0).toNat : Int).tmod 4 = ((ws.getD i 0).toNat : Int) % 4 := Int.tmod_eq_emod_of_nonneg (by omega)
      rw [e, IntWalk.i64_in _ (by omega)]
      unfold wN
      omega
    have hn1 : IntKind.i64.wrap ((wN (ws.getD i 0) : Int) - 1 + 1) = (wN (ws.getD i 0) : Int) := by rw [IntWalk.i64_in _ (by omega)]; omega
    have hnt : ((wN (ws.getD i 0) : Int) - 1).toNat = wN (ws.getD i 0) - 1 := by omega
    have hlv : IntKind.i64.wrap ((ls.getD i 0).toNat : Int) = ((ls.getD i 0).toNat : Int) := IntWalk.i64_in _ (by omega)
    have hi1 : IntKind.i64.wrap ((i : Int) + 1) = ((i + 1 : Nat) : Int) := by rw [IntWalk.i64_in _ (by omega)]; rfl
    have hfn := take_map_next dC 0 (l := ws) (i := i) (by omega)
    have hvn := take_map_next (fun l : UInt32 => (l.toNat : Int)) 0 (l := ls) (i := i) (by omega)
    simp only [vR.down, vr20.down, vr40.down, vr50.down, vS.down, List.drop_succ_cons, List.drop_zero, List.take_succ_cons, List.take_zero, Nat.zero_add, Nat.reduceEqDiff, Nat.reduceAdd, Nat.reduceSub, Nat.reduceMul, Nat.reduceLeDiff, Nat.reduceLT, Int.reduceToNat, reduceIte, reduceCtorEq, true_and, and_true, implies_true, forall_const, List.map_cons, List.map_nil, Option.map_some, Option.map_none, Option.bind_some, List.append_nil, List.nil_append, List.length_cons, List.length_nil, List.getD_cons_zero, List.getD_cons_succ, Bool.false_eq_true, Nat.zero_lt_succ, vr30.down, Option.toList_some, Option.toList_none, List.cons_append, getD_byt, Int.toNat_natCast, decide_eq_true_eq, decide_eq_false_iff_not, Bool.not_eq_true', Bool.not_eq_false', Bool.and_eq_true, Bool.or_eq_true, Bool.or_eq_false_iff, Bool.and_eq_false_imp, Decidable.not_not, List.length_map, beq_true, beq_false, imp_self, and_self, Option.isSome_some, List.toList_toArray, decide_true, decide_false, Bool.and_true, Bool.true_and, Bool.and_false, Bool.false_and, Bool.or_true, Bool.true_or, Bool.or_false, Bool.false_or, Bool.not_true, Bool.not_false, Int.reduceEq, Int.reduceLT, Int.reduceLE, Int.cast_ofNat_Int, eq_self, Nat.reduceLeDiff, Nat.le_refl, Bool.not_not, Nat.mul_one, d1, d2, hwo, hn1, hnt, hlv, dC_slice]
    ((repeat' with_reducible refine And.intro ?_ ?_) <;> try (first | omega | (simp only [List.length_take, List.length_drop, List.length_append, List.length_map, List.length_replicate] <;> omega)))
    intro g hg
    refine append_lv ty_Lint ty_int rfl (by decide) (hx.fresh hg) (shows_one (x := ((ls.getD i 0).toNat : Int)) rfl rfl rfl) (by simp [valsJ]; omega) (by simp [valsJ]; omega) fun v S' hv _ _ => ?_
    refine round_to (4 - (i + 1)) [(2, .t (.int .u8 (c.toNat : Int))), (3, .imm (ls.map fun l => TV.int .u32 (l.toNat : Int))), (4, .imm (ws.map fun w => TV.int .u8 (w.toNat : Int))),
      (7, .t (.str ((ws.take (i + 1)).map dC))), (8, v), (9, .t (.int .i64 (i + 1 : Nat)))] S' (by omega) fewer_refl (by simp only [vR.down, vr20.down, vr40.down, vr50.down, vS.down, List.drop_succ_cons, List.drop_zero, List.take_succ_cons, List.take_zero, Nat.zero_add, Nat.reduceEqDiff, Nat.reduceAdd, Nat.reduceSub, Nat.reduceMul, Nat.reduceLeDiff, Nat.reduceLT, Int.reduceToNat, reduceIte, reduceCtorEq, true_and, and_true, implies_true, forall_const, List.map_cons, List.map_nil, Option.map_some, Option.map_none, Option.bind_some, List.append_nil, List.nil_append, List.length_cons, List.length_nil, List.getD_cons_zero, List.getD_cons_succ, Bool.false_eq_true, Nat.zero_lt_succ, vr30.down, Option.toList_some, Option.toList_none, List.cons_append, getD_byt, Int.toNat_natCast, decide_eq_true_eq, decide_eq_false_iff_not, Bool.not_eq_true', Bool.not_eq_false', Bool.and_eq_true, Bool.or_eq_true, Bool.or_eq_false_iff, Bool.and_eq_false_imp, Decidable.not_not, List.length_map, beq_true, beq_false, imp_self, and_self, Option.isSome_some, List.toList_toArray, decide_true, decide_false, Bool.and_true, Bool.true_and, Bool.and_false, Bool.false_and, Bool.or_true, Bool.true_or, Bool.or_false, Bool.false_or, Bool.not_true, Bool.not_false, Int.reduceEq, Int.reduceLT, Int.reduceLE, Int.cast_ofNat_Int, eq_self, Nat.reduceLeDiff, Nat.le_refl, Bool.not_not, wkAll_cons, wkAll_nil, w2_refl, w2_nil, w2_emp, empty_none, hi1, hfn]) ⟨i + 1, v, S', rfl, by omega, by rw [valsJ, hvn]; exact hv, rfl⟩
  · obtain rfl : i = 4 := by omega
    have tw : ws.take 4 = ws := by rw [← hws]; exact List.take_length
    have tl : ls.take 4 = ls := by rw [← hls]; exact List.take_length
    rw [tl] at hx
    rw [tw]
    refine weak_at [(2, .t (.int .u8 (c.toNat : Int))), (7, .t (.str (ws.map dC))), (8, .t (sl (valsJ ls)))] .empty fewer_empty (by simp only [vR.down, vr20.down, vr40.down, vr50.down, vS.down, List.drop_succ_cons, List.drop_zero, List.take_succ_cons, List.take_zero, Nat.zero_add, Nat.reduceEqDiff, Nat.reduceAdd, Nat.reduceSub, Nat.reduceMul, Nat.reduceLeDiff, Nat.reduceLT, Int.reduceToNat, reduceIte, reduceCtorEq, true_and, and_true, implies_true, forall_const, List.map_cons, List.map_nil, Option.map_some, Option.map_none, Option.bind_some, List.append_nil, List.nil_append, List.length_cons, List.length_nil, List.getD_cons_zero, List.getD_cons_succ, Bool.false_eq_true, Nat.zero_lt_succ, vr30.down, Option.toList_some, Option.toList_none, List.cons_append, getD_byt, Int.toNat_natCast, decide_eq_true_eq, decide_eq_false_iff_not, Bool.not_eq_true', Bool.not_eq_false', Bool.and_eq_true, Bool.or_eq_true, Bool.or_eq_false_iff, Bool.and_eq_false_imp, Decidable.not_not, List.length_map, beq_true, beq_false, imp_self, and_self, Option.isSome_some, List.toList_toArray, decide_true, decide_false, Bool.and_true, Bool.true_and, Bool.and_false, Bool.false_and, Bool.or_true, Bool.true_or, Bool.or_false, Bool.false_or, Bool.not_true, Bool.not_false, Int.reduceEq, Int.reduceLT, Int.reduceLE, Int.cast_ofNat_Int, eq_self, Nat.reduceLeDiff, Nat.le_refl, Bool.not_not, wkAll_cons, wkAll_nil, w2_refl, w2_nil, w2_emp, empty_none, w2_lv' hx]) ?_
    have hok := formOk_dC ws
    generalize hf : ws.map dC = f at hok
    have hfl : f.length = 4 := by rw [← hf, List.length_map, hws]
    have hvl : (valsJ ls).length = 4 := by rw [valsJ, List.length_map, hls]
    generalize valsJ ls = L at hvl
    have hc := c.toNat_lt
    obtain ⟨m, hm, hm4⟩ : ∃ m : Nat, (IntKind.i64.wrap (c.toNat : Int)).tmod 5 = (m : Int) ∧ m ≤ 4 := by
      rw [IntWalk.i64_in (c.toNat : Int) (by omega), Int.tmod_eq_emod_of_nonneg (by omega)]
      exact ⟨c.toNat % 5, by omega, by omega⟩
    have hdl : (digs f).length = L.length := by rw [digs_len, hfl, hvl]
    obtain ⟨p1, p2, p3, p4, p5⟩ := take_put (f := f) (l := L) [] hok (by omega)
    obtain ⟨q1, q2, q3, q4, q5⟩ := take_put (f := f.take m) (l := L.take m) (putF (f.drop m) (L.drop m)) (formOk_sub hok m) (by simp; omega)
    have hokd : formOk (f.drop m) = true := by
      unfold formOk at *
      rw [List.all_eq_true] at *
      exact fun x hx => hok x (List.mem_of_mem_drop hx)
    obtain ⟨r1, r2, r3, r4, r5⟩ := take_put (f := f.drop m) (l := L.drop m) [] hokd (by simp; omega)
    have hd1 : digs (f.take m) = (digs f).take m := by simp [digs]
    have hd2 : digs (f.drop m) = (digs f).drop m := by simp [digs]
    have hj : putF f L = putF (f.take m) (L.take m) ++ putF (f.drop m) (L.drop m) := by
      rw [p1, q1, r1, hd1, hd2]
      exact flat_join m _ _ hdl
    have hz : modV f L = modV (f.take m) (L.take m) ++ modV (f.drop m) (L.drop m) := by
      unfold modV
      rw [hd1, hd2]
      exact zip_join m _ _ hdl
    have hsz : 4 ≤ ((putF f L).length : Int) ∧ ((putF f L).length : Int) ≤ 16 := by
      have hb := sizeJ_bd ws
      rw [p2, ← hf, digs_dC]
      omega
    rw [List.append_nil] at p3 p4 p5 r3 r4 r5
    change takeL f (putF f L) = modV f L at p4
    rw [← hj] at q3 q4 q5
    change takeL (f.take m) (putF f L) = modV (f.take m) (L.take m) at q4
    change takeL (f.drop m) (putF (f.drop m) (L.drop m)) = modV (f.drop m) (L.drop m) at r4
    have hx1 : (modV (f.take m) (L.take m)).length ≤ 4 := by unfold modV; simp; omega
    have hy1 : (modV (f.drop m) (L.drop m)).length ≤ 4 := by unfold modV; simp; omega
    have hz1 : (modV f L).length ≤ 4 := by unfold modV; simp; omega
    have hja : (putF f L).length = (putF (f.take m) (L.take m)).length + (putF (f.drop m) (L.drop m)).length := by rw [hj, List.length_append]
    have hjs := hj.symm
    have hs4 : (4 : Int) ≤ ((putF f L).length : Int) := hsz.1
    simp only [vR.down, vr20.down, vr40.down, vr50.down, vS.down, List.drop_succ_cons, List.drop_zero, List.take_succ_cons, List.take_zero, Nat.zero_add, Nat.reduceEqDiff, Nat.reduceAdd, Nat.reduceSub, Nat.reduceMul, Nat.reduceLeDiff, Nat.reduceLT, Int.reduceToNat, reduceIte, reduceCtorEq, true_and, and_true, implies_true, forall_const, List.map_cons, List.map_nil, Option.map_some, Option.map_none, Option.bind_some, List.append_nil, List.nil_append, List.length_cons, List.length_nil, List.getD_cons_zero, List.getD_cons_succ, Bool.false_eq_true, Nat.zero_lt_succ, vr30.down, Option.toList_some, Option.toList_none, List.cons_append, getD_byt, Int.toNat_natCast, decide_eq_true_eq, decide_eq_false_iff_not, Bool.not_eq_true', Bool.not_eq_false', Bool.and_eq_true, Bool.or_eq_true, Bool.or_eq_false_iff, Bool.and_eq_false_imp, Decidable.not_not, List.length_map, beq_true, beq_false, imp_self, and_self, Option.isSome_some, List.toList_toArray, decide_true, decide_false, Bool.and_true, Bool.true_and, Bool.and_false, Bool.false_and, Bool.or_true, Bool.true_or, Bool.or_false, Bool.false_or, Bool.not_true, Bool.not_false, Int.reduceEq, Int.reduceLT, Int.reduceLE, Int.cast_ofNat_Int, eq_self, Nat.reduceLeDiff, Nat.le_refl, Bool.not_not, k_law3_PackJoins_pack_Put.down, A_pack_Put, p_pack_Put, r_pack_Put, k_law3_PackJoins_pack_Take.down, A_pack_Take, p_pack_Take, r_pack_Take, k_law3_PackJoins_ref1_SameInts.down, A_ref1_SameInts, p_ref1_SameInts, r_ref1_SameInts, hm, p3, p4, p5, q3, q4, q5, r3, r4, r5, hjs, hs4]
    ((repeat' with_reducible refine And.intro ?_ ?_) <;> try (first | omega | (simp only [List.length_take, List.length_drop, List.length_append, List.length_map, List.length_replicate] <;> omega)))
    refine append_emp ty_Lint ty_int rfl (by decide) shows_sl (by omega) (by simp; omega) fun v S' hv _ _ => ?_
    rw [hv.okc, hv.strip]
    refine ⟨trivial, ?_⟩
    refine append_lv ty_Lint ty_int rfl (by decide) hv shows_sl (by omega) (by simp; omega) fun v2 S2 hv2 _ _ => ?_
    obtain ⟨y, ros, hb, hy, hd⟩ := hv2.borrow
    have hzl : (modV f L).length < 4611686018427387904 := by omega
    simp only [vR.down, vr20.down, vr40.down, vr50.down, vS.down, List.drop_succ_cons, List.drop_zero, List.take_succ_cons, List.take_zero, Nat.zero_add, Nat.reduceEqDiff, Nat.reduceAdd, Nat.reduceSub, Nat.reduceMul, Nat.reduceLeDiff, Nat.reduceLT, Int.reduceToNat, reduceIte, reduceCtorEq, true_and, and_true, implies_true, forall_const, List.map_cons, List.map_nil, Option.map_some, Option.map_none, Option.bind_some, List.append_nil, List.nil_append, List.length_cons, List.length_nil, List.getD_cons_zero, List.getD_cons_succ, Bool.false_eq_true, Nat.zero_lt_succ, vr30.down, Option.toList_some, Option.toList_none, List.cons_append, getD_byt, Int.toNat_natCast, decide_eq_true_eq, decide_eq_false_iff_not, Bool.not_eq_true', Bool.not_eq_false', Bool.and_eq_true, Bool.or_eq_true, Bool.or_eq_false_iff, Bool.and_eq_false_imp, Decidable.not_not, List.length_map, beq_true, beq_false, imp_self, and_self, Option.isSome_some, List.toList_toArray, decide_true, decide_false, Bool.and_true, Bool.true_and, Bool.and_false, Bool.false_and, Bool.or_true, Bool.true_or, Bool.or_false, Bool.false_or, Bool.not_true, Bool.not_false, Int.reduceEq, Int.reduceLT, Int.reduceLE, Int.cast_ofNat_Int, eq_self, Nat.reduceLeDiff, Nat.le_refl, Bool.not_not, hv2.okc, hv2.strip, hb, hd, k_law3_PackJoins_ref1_SameInts.down, A_ref1_SameInts, p_ref1_SameInts, r_ref1_SameInts, hzl, ← hz]
    simp only [vR.down, vr20.down, vr40.down, vr50.down, vS.down, List.drop_succ_cons, List.drop_zero, List.take_succ_cons, List.take_zero, Nat.zero_add, Nat.reduceEqDiff, Nat.reduceAdd, Nat.reduceSub, Nat.reduceMul, Nat.reduceLeDiff, Nat.reduceLT, Int.reduceToNat, reduceIte, reduceCtorEq, true_and, and_true, implies_true, forall_const, List.map_cons, List.map_nil, Option.map_some, Option.map_none, Option.bind_some, List.append_nil, List.nil_append, List.length_cons, List.length_nil, List.getD_cons_zero, List.getD_cons_succ, Bool.false_eq_true, Nat.zero_lt_succ, vr30.down, Option.toList_some, Option.toList_none, List.cons_append, getD_byt, Int.toNat_natCast, decide_eq_true_eq, decide_eq_false_iff_not, Bool.not_eq_true', Bool.not_eq_false', Bool.and_eq_true, Bool.or_eq_true, Bool.or_eq_false_iff, Bool.and_eq_false_imp, Decidable.not_not, List.length_map, beq_true, beq_false, imp_self, and_self, Option.isSome_some, List.toList_toArray, decide_true, decide_false, Bool.and_true, Bool.true_and, Bool.and_false, Bool.false_and, Bool.or_true, Bool.true_or, Bool.or_false, Bool.false_or, Bool.not_true, Bool.not_false, Int.reduceEq, Int.reduceLT, Int.reduceLE, Int.cast_ofNat_Int, eq_self, Nat.reduceLeDiff, Nat.le_refl, Bool.not_not, vT.down]

theorem body_law3_PackJoins (x : (UInt32 × UInt32 × UInt32 × UInt32) × (Byt × Byt × Byt × Byt) × Byt × Unit) (hx : p_law3_PackJoins x) :
    avp K_law3_PackJoins G_law3_PackJoins (Ret K_law3_PackJoins [.tmp 6] fun v _ => v = r_law3_PackJoins x) (entry (A_law3_PackJoins.enc x) .empty) := by
  obtain ⟨⟨l0, l1, l2, l3⟩, ⟨⟨w0⟩, ⟨w1⟩, ⟨w2⟩, ⟨w3⟩⟩, ⟨c⟩, ⟨⟩⟩ := x
  exact walk_joins [l0, l1, l2, l3] [w0, w1, w2, w3] c rfl rfl
noncomputable def c_law3_PackJoins : Con := fnScal A_law3_PackJoins p_law3_PackJoins r_law3_PackJoins
theorem ok_law3_PackJoins : COk Try.prog 6 c_law3_PackJoins := fn_sok sys_law3_PackJoins mixed Try.func6 (by kernel_rfl) geq_law3_PackJoins Try.ntmps6 (by rw [Try.results6]) (fun x => by simp [rTrue, AV.scal]) fun x hx => ⟨Nat.le_of_ble_eq_true rfl, body_law3_PackJoins x hx⟩
theorem says_law3_PackJoins : SaysTrue Rows.packJoinsSpec 3 := ⟨rfl, fun H ds h => by
  match ds, h with
  | [d0, d1, d2], _ => exact ⟨rfl, rfl, rfl⟩⟩
set_option maxRecDepth 100000 in
theorem lifted_law3_PackJoins (os : Os) (started : os.Started) (H : Type) (enc : TypeId × Value → H) :
    ReturnsInHanded {} Try.checked os 6 .any (Rows.packJoinsSpec.pre6 enc Try.prog Try.f6 Rows.packJoinsRow.domain false) (Rows.packJoinsSpec.post enc Try.prog Try.f6 false true false false) := by
  refine returnsInHanded_of_change (C := Try.checked) own started (by kernel_rfl) Try.func6
    (ChangeSpec.witness6 (enc := enc) (C := Try.checked) false ⟨#[], #[.agg #[.int .u32 0, .int .u32 0, .int .u32 0, .int .u32 0], .agg #[.int .u8 0, .int .u8 0, .int .u8 0, .int .u8 0], .int .u8 0], []⟩ 8 (by kernel_rfl) (by kernel_rfl) (by kernel_rfl) (by kernel_rfl)) ?_
  intro W base args ds gs before hval hW _ _
  exact law_contract (ts := [33, 34, 5]) (tb := 4) ok_law3_PackJoins (by rw [Try.params6]) (by kernel_rfl) Try.underlying4 laid (by kernel_rfl) rd_law3_PackJoins (fun _ h => h) says_law3_PackJoins H enc W base args ds gs before hval hW
theorem over_law3_PackJoins : Rows.packJoinsRow.holds Try.pinned (OpenSpec.ofChange Rows.packJoinsSpec) :=
  OpenClaim.holds_of_wide 6 Try.f6 rfl rfl rfl rfl rfl rfl rfl ⟨rfl, rfl, rfl, rfl, rfl⟩ rfl rfl rfl rfl rfl (by kernel_rfl) Try.func6 (by kernel_rfl)
    (of_decide_eq_true (by kernel_rfl)) (by unfold Func.isWrapper; first | (rw [if_pos (by decide +kernel)]; kernel_rfl) | (rw [if_neg (by decide +kernel)]; exact ⟨rfl, rfl⟩))
    (fun os started H enc _ => lifted_law3_PackJoins os started H enc)
theorem packJoins_holds : Rows.PackJoinsSaid := over_law3_PackJoins
end Go.Proofs.Ytnabeiodhhmdoaa

