/-
  MapJoins.
-/
import Derived.Test.YtlfncfaonnaneaaFnsD
set_option linter.unusedSimpArgs false
set_option linter.unusedVariables false
namespace Go.Proofs.Ytlfncfaonnaneaa
open Go Go.Eng
def G_law9_MapJoins_10 : GCode := .seq (.seq .weak (.region [⟨(some 12), none, .assign (.const (.int .i64 0))⟩])) (.seq (.seq (.region [⟨(some 13), none, .assign (.const (.int .i64 0))⟩]) (.block 0 (.loop (.seq .weak (.seq (.seq (.region [⟨(some 70), none, .move (.tmp 13)⟩, ⟨(some 71), none, .binOp .lss 3 (.tmp 70) (.const (.int .i64 5)) 3⟩]) (.cond (.tmp 71) (.skip) (.exit 0))) (.seq (.block 1 (.seq (.seq (.seq .weak (.region [⟨(some 74), none, .move (.tmp 9)⟩, ⟨(some 75), none, .move (.tmp 13)⟩, ⟨(some 76), none, .index 9 (.tmp 74) (.tmp 75)⟩, ⟨(some 77), none, .move (.tmp 7)⟩, ⟨(some 78), none, .move (.tmp 13)⟩, ⟨(some 79), none, .index 9 (.tmp 77) (.tmp 78)⟩, ⟨(some 80), none, .move (.tmp 8)⟩, ⟨(some 81), none, .move (.tmp 13)⟩, ⟨(some 82), none, .index 9 (.tmp 80) (.tmp 81)⟩, ⟨(some 83), none, .binOp .or 5 (.tmp 79) (.tmp 82) 5⟩, ⟨(some 84), none, .binOp .neq 5 (.tmp 76) (.tmp 83) 5⟩, ⟨(some 85), none, .move (.tmp 84)⟩, ⟨(some 86), (some (85, false)), .move (.tmp 10)⟩, ⟨(some 87), (some (85, false)), .move (.tmp 13)⟩, ⟨(some 88), (some (85, false)), .index 9 (.tmp 86) (.tmp 87)⟩, ⟨(some 89), (some (85, false)), .move (.tmp 7)⟩, ⟨(some 90), (some (85, false)), .move (.tmp 13)⟩, ⟨(some 91), (some (85, false)), .index 9 (.tmp 89) (.tmp 90)⟩, ⟨(some 92), (some (85, false)), .move (.tmp 8)⟩, ⟨(some 93), (some (85, false)), .move (.tmp 13)⟩, ⟨(some 94), (some (85, false)), .index 9 (.tmp 92) (.tmp 93)⟩, ⟨(some 95), (some (85, false)), .binOp .and 5 (.tmp 91) (.tmp 94) 5⟩, ⟨(some 96), (some (85, false)), .binOp .neq 5 (.tmp 88) (.tmp 95) 5⟩, ⟨(some 97), none, .pick (.tmp 85) (.const (.bool true)) (.tmp 96)⟩, ⟨(some 98), none, .move (.tmp 97)⟩, ⟨(some 99), (some (98, false)), .move (.tmp 11)⟩, ⟨(some 100), (some (98, false)), .move (.tmp 13)⟩, ⟨(some 101), (some (98, false)), .index 9 (.tmp 99) (.tmp 100)⟩, ⟨(some 102), (some (98, false)), .move (.tmp 7)⟩, ⟨(some 103), (some (98, false)), .move (.tmp 13)⟩, ⟨(some 104), (some (98, false)), .index 9 (.tmp 102) (.tmp 103)⟩, ⟨(some 105), (some (98, false)), .move (.tmp 8)⟩, ⟨(some 106), (some (98, false)), .move (.tmp 13)⟩, ⟨(some 107), (some (98, false)), .index 9 (.tmp 105) (.tmp 106)⟩, ⟨(some 108), (some (98, false)), .binOp .andNot 5 (.tmp 104) (.tmp 107) 5⟩, ⟨(some 109), (some (98, false)), .binOp .neq 5 (.tmp 101) (.tmp 108) 5⟩, ⟨(some 110), none, .pick (.tmp 98) (.const (.bool true)) (.tmp 109)⟩])) (.cond (.tmp 110) (.seq (.region [⟨(some 4), none, .assign (.const (.bool false))⟩]) (.ret)) (.skip))) (.seq (.seq .weak (.region [⟨(some 14), none, .assign (.const (.int .i64 0))⟩])) (.block 2 (.loop (.seq .weak (.seq (.seq (.region [⟨(some 111), none, .move (.tmp 14)⟩, ⟨(some 112), none, .binOp .lss 3 (.tmp 111) (.const (.int .i64 8)) 3⟩]) (.cond (.tmp 112) (.skip) (.exit 2))) (.seq (.block 3 (.seq .weak (.region [⟨(some 115), none, .move (.tmp 12)⟩, ⟨(some 116), none, .move (.tmp 7)⟩, ⟨(some 117), none, .move (.tmp 13)⟩, ⟨(some 118), none, .index 9 (.tmp 116) (.tmp 117)⟩, ⟨(some 119), none, .move (.tmp 14)⟩, ⟨(some 120), none, .binOp .shr 5 (.tmp 118) (.tmp 119) 3⟩, ⟨(some 121), none, .binOp .and 5 (.tmp 120) (.const (.int .u8 1)) 5⟩, ⟨(some 122), none, .convert 5 3 (.tmp 121)⟩, ⟨(some 123), none, .binOp .add 3 (.tmp 115) (.tmp 122) 3⟩, ⟨(some 12), none, .assign (.tmp 123)⟩]))) (.region [⟨(some 113), none, .move (.tmp 14)⟩, ⟨(some 114), none, .binOp .add 3 (.tmp 113) (.const (.int .i64 1)) 3⟩, ⟨(some 14), none, .assign (.tmp 114)⟩]))))))))) (.region [⟨(some 72), none, .move (.tmp 13)⟩, ⟨(some 73), none, .binOp .add 3 (.tmp 72) (.const (.int .i64 1)) 3⟩, ⟨(some 13), none, .assign (.tmp 73)⟩]))))))) (.seq (.region [⟨(some 124), none, .move (.tmp 12)⟩, ⟨(some 125), none, .move (.tmp 5)⟩, ⟨(some 126), none, .call ⟨.value (.func 19), #[.tmp 125], #[23]⟩⟩, ⟨(some 127), none, .binOp .eql 3 (.tmp 124) (.tmp 126) 3⟩, ⟨(some 4), none, .assign (.tmp 127)⟩]) (.ret)))
def G_law9_MapJoins : GCode := .seq (.region [⟨(some 4), none, .assign (.const (.bool false))⟩]) (.seq (.seq (.region [⟨(some 15), none, .call ⟨.value (.func 8), #[], #[]⟩⟩, ⟨(some 16), none, .unOp .not 4 (.tmp 15)⟩]) (.cond (.tmp 16) (.seq (.region [⟨(some 4), none, .assign (.const (.bool false))⟩]) (.ret)) (.skip))) (.seq (.seq (.region [⟨(some 17), none, .move (.tmp 0)⟩, ⟨(some 18), none, .call ⟨.builtin .len, #[.tmp 17], #[22]⟩⟩, ⟨(some 19), none, .binOp .gtr 3 (.tmp 18) (.const (.int .i64 20)) 3⟩, ⟨(some 20), none, .move (.tmp 19)⟩, ⟨(some 21), (some (20, false)), .move (.tmp 1)⟩, ⟨(some 22), (some (20, false)), .call ⟨.builtin .len, #[.tmp 21], #[22]⟩⟩, ⟨(some 23), (some (20, false)), .binOp .gtr 3 (.tmp 22) (.const (.int .i64 20)) 3⟩, ⟨(some 24), none, .pick (.tmp 20) (.const (.bool true)) (.tmp 23)⟩]) (.cond (.tmp 24) (.seq (.region [⟨(some 4), none, .assign (.const (.bool true))⟩]) (.ret)) (.skip))) (.seq (.region [⟨(some 25), none, .move (.tmp 0)⟩, ⟨(some 26), none, .call ⟨.value (.func 9), #[.tmp 25], #[22]⟩⟩, ⟨(some 27), none, .call ⟨.value (.func 10), #[.tmp 26, .const (.int .i64 8)], #[25, 3]⟩⟩, ⟨(some 28), none, .move (.tmp 1)⟩, ⟨(some 29), none, .call ⟨.value (.func 9), #[.tmp 28], #[22]⟩⟩, ⟨(some 30), none, .call ⟨.value (.func 10), #[.tmp 29, .const (.int .i64 8)], #[25, 3]⟩⟩, ⟨(some 5), none, .assign (.tmp 27)⟩, ⟨(some 6), none, .assign (.tmp 30)⟩]) (.seq (.seq .weak (.region [⟨(some 31), none, .move (.tmp 5)⟩, ⟨(some 32), none, .call ⟨.value (.func 11), #[.const (.int .i64 40), .tmp 31], #[3, 23]⟩⟩, ⟨(some 33), none, .move (.tmp 6)⟩, ⟨(some 34), none, .call ⟨.value (.func 11), #[.const (.int .i64 40), .tmp 33], #[3, 23]⟩⟩, ⟨(some 7), none, .assign (.tmp 32)⟩, ⟨(some 8), none, .assign (.tmp 34)⟩])) (.seq (.seq .weak (.region [⟨(some 35), none, .move (.tmp 5)⟩, ⟨(some 36), none, .move (.tmp 6)⟩, ⟨(some 37), none, .call ⟨.value (.func 16), #[.tmp 35, .tmp 36], #[23, 23]⟩⟩, ⟨(some 38), none, .call ⟨.value (.func 11), #[.const (.int .i64 40), .tmp 37], #[3, 23]⟩⟩, ⟨(some 39), none, .move (.tmp 5)⟩, ⟨(some 40), none, .move (.tmp 6)⟩, ⟨(some 41), none, .call ⟨.value (.func 17), #[.tmp 39, .tmp 40], #[23, 23]⟩⟩, ⟨(some 42), none, .call ⟨.value (.func 11), #[.const (.int .i64 40), .tmp 41], #[3, 23]⟩⟩, ⟨(some 43), none, .move (.tmp 5)⟩, ⟨(some 44), none, .move (.tmp 6)⟩, ⟨(some 45), none, .call ⟨.value (.func 18), #[.tmp 43, .tmp 44], #[23, 23]⟩⟩, ⟨(some 46), none, .call ⟨.value (.func 11), #[.const (.int .i64 40), .tmp 45], #[3, 23]⟩⟩, ⟨(some 9), none, .assign (.tmp 38)⟩, ⟨(some 10), none, .assign (.tmp 42)⟩, ⟨(some 11), none, .assign (.tmp 46)⟩])) (.seq (.seq (.seq .weak (.region [⟨(some 47), none, .move (.tmp 7)⟩, ⟨(some 48), none, .call ⟨.builtin .len, #[.tmp 47], #[9]⟩⟩, ⟨(some 49), none, .binOp .neq 3 (.tmp 48) (.const (.int .i64 5)) 3⟩, ⟨(some 50), none, .move (.tmp 49)⟩, ⟨(some 51), (some (50, false)), .move (.tmp 8)⟩, ⟨(some 52), (some (50, false)), .call ⟨.builtin .len, #[.tmp 51], #[9]⟩⟩, ⟨(some 53), (some (50, false)), .binOp .neq 3 (.tmp 52) (.const (.int .i64 5)) 3⟩, ⟨(some 54), none, .pick (.tmp 50) (.const (.bool true)) (.tmp 53)⟩, ⟨(some 55), none, .move (.tmp 54)⟩, ⟨(some 56), (some (55, false)), .move (.tmp 9)⟩, ⟨(some 57), (some (55, false)), .call ⟨.builtin .len, #[.tmp 56], #[9]⟩⟩, ⟨(some 58), (some (55, false)), .binOp .neq 3 (.tmp 57) (.const (.int .i64 5)) 3⟩, ⟨(some 59), none, .pick (.tmp 55) (.const (.bool true)) (.tmp 58)⟩, ⟨(some 60), none, .move (.tmp 59)⟩, ⟨(some 61), (some (60, false)), .move (.tmp 10)⟩, ⟨(some 62), (some (60, false)), .call ⟨.builtin .len, #[.tmp 61], #[9]⟩⟩, ⟨(some 63), (some (60, false)), .binOp .neq 3 (.tmp 62) (.const (.int .i64 5)) 3⟩, ⟨(some 64), none, .pick (.tmp 60) (.const (.bool true)) (.tmp 63)⟩, ⟨(some 65), none, .move (.tmp 64)⟩, ⟨(some 66), (some (65, false)), .move (.tmp 11)⟩, ⟨(some 67), (some (65, false)), .call ⟨.builtin .len, #[.tmp 66], #[9]⟩⟩, ⟨(some 68), (some (65, false)), .binOp .neq 3 (.tmp 67) (.const (.int .i64 5)) 3⟩, ⟨(some 69), none, .pick (.tmp 65) (.const (.bool true)) (.tmp 68)⟩])) (.cond (.tmp 69) (.seq (.region [⟨(some 4), none, .assign (.const (.bool false))⟩]) (.ret)) (.skip))) (G_law9_MapJoins_10)))))))
noncomputable def l_law9_MapJoins : List (Nat × Con) := [(8, c_law9_begun), (9, c_made_Made), (10, c_made_Picks_Runs), (11, c_smap_Put), (16, c_ref8_Add), (17, c_ref8_Both), (18, c_ref8_Less), (19, c_ref8_Count)]
noncomputable abbrev K_law9_MapJoins : Ctx := ctx (cl l_law9_MapJoins)
theorem geq_law9_MapJoins : gof K_law9_MapJoins Try.f6 = some G_law9_MapJoins.strip := by kernel_rfl
theorem sys_law9_MapJoins : Go.Eng.Sys Try.prog K_law9_MapJoins := sys_of' ⟨ok_law9_begun, ok_made_Made, ok_made_Picks_Runs, ok_smap_Put, ok_ref8_Add, ok_ref8_Both, ok_ref8_Less, ok_ref8_Count, trivial⟩
theorem hm_law9_MapJoins : ConMono K_law9_MapJoins := conMono_of sys_law9_MapJoins.con
noncomputable def k_law9_MapJoins_law9_begun := PLift.up (call_scal (C := K_law9_MapJoins) (f := 8) (A := A_law9_begun) (p := p_law9_begun) (r := r_law9_begun) rfl)
noncomputable def k_law9_MapJoins_made_Made := PLift.up (call_new (C := K_law9_MapJoins) (f := 9) (c := q_made_Made) (e := e_made_Made) (mk := mk_made_Made) rfl)
noncomputable def k_law9_MapJoins_made_Picks_Runs := PLift.up (call_gen (C := K_law9_MapJoins) (f := 10) (modes := m_made_Picks_Runs) (F := F_made_Picks_Runs) rfl)
noncomputable def k_law9_MapJoins_smap_Put := PLift.up (call_scal (C := K_law9_MapJoins) (f := 11) (A := A_smap_Put) (p := p_smap_Put) (r := r_smap_Put) rfl)
noncomputable def k_law9_MapJoins_ref8_Add := PLift.up (call_fn (C := K_law9_MapJoins) (f := 16) (A := A_ref8_Add) (p := p_ref8_Add) (r := r_ref8_Add) rfl)
noncomputable def k_law9_MapJoins_ref8_Both := PLift.up (call_fn (C := K_law9_MapJoins) (f := 17) (A := A_ref8_Both) (p := p_ref8_Both) (r := r_ref8_Both) rfl)
noncomputable def k_law9_MapJoins_ref8_Less := PLift.up (call_fn (C := K_law9_MapJoins) (f := 18) (A := A_ref8_Less) (p := p_ref8_Less) (r := r_ref8_Less) rfl)
noncomputable def k_law9_MapJoins_ref8_Count := PLift.up (call_scal (C := K_law9_MapJoins) (f := 19) (A := A_ref8_Count) (p := p_ref8_Count) (r := r_ref8_Count) rfl)
noncomputable def A_law9_MapJoins : Arms ((List Byt) × (List Byt) × Unit) := Arms.cons (argT (List Byt)) (Arms.cons (argT (List Byt)) (Arms.nil))
def p_law9_MapJoins (x : (List Byt) × (List Byt) × Unit) : Prop := (goodList (fun x : Byt => goodAny x) x.1) ∧ (goodList (fun x : Byt => goodAny x) x.2.1) ∧ goodAny (x.2.2)
abbrev r_law9_MapJoins (x : (List Byt) × (List Byt) × Unit) : AV := rTrue x
theorem rd_law9_MapJoins : ReadsA Try.prog [22, 22] A_law9_MapJoins p_law9_MapJoins := (readsA_T (reads_list Try.underlying22 (reads_u8 Try.underlying5) (by kernel_rfl) (by decide)) (by kernel_rfl) (readsA_T (reads_list Try.underlying22 (reads_u8 Try.underlying5) (by kernel_rfl) (by decide)) (by kernel_rfl) readsA_nil))
theorem bin_andNot {C : Ctx} {T : TypeId} {k : IntKind} {x y : Int} : binB C T .andNot (.t (.int k x)) (.t (.int k y)) = .val True (.t (.int k (k.wrap (BitVec.ofInt k.bits x &&& ~~~BitVec.ofInt k.bits y).toNat))) := by simp [binB, intBin, orNone]
theorem ofInt_u8 (a : UInt8) : BitVec.ofInt IntKind.u8.bits (a.toNat : Int) = a.toBitVec := by
  show BitVec.ofInt 8 (a.toNat : Int) = a.toBitVec
  rw [BitVec.ofInt_natCast]
  apply BitVec.eq_of_toNat_eq
  rw [BitVec.toNat_ofNat, Nat.mod_eq_of_lt a.toNat_lt]; rfl
theorem u8_wrap (a : UInt8) : IntKind.u8.wrap (a.toNat : Int) = (a.toNat : Int) := IntWalk.u8_in _ (by have := a.toNat_lt; omega)
theorem bt_bv (a : UInt8) (k : Nat) : bt a k = a.toBitVec.getLsbD k := rfl
theorem or_u8 {a b z : UInt8} (h : ∀ k, k < 8 → bt z k = (bt a k || bt b k)) : IntKind.u8.wrap ((BitVec.ofInt IntKind.u8.bits (a.toNat : Int) ||| BitVec.ofInt IntKind.u8.bits (b.toNat : Int)).toNat : Int) = (z.toNat : Int) := by
  have e : z = a ||| b := bt_ext fun k hk => by
    rw [h k hk, bt_bv, bt_bv, bt_bv, UInt8.toBitVec_or, BitVec.getLsbD_or]
  rw [ofInt_u8, ofInt_u8, e]
  exact u8_wrap (a ||| b)
theorem and_u8 {a b z : UInt8} (h : ∀ k, k < 8 → bt z k = (bt a k && bt b k)) : IntKind.u8.wrap ((BitVec.ofInt IntKind.u8.bits (a.toNat : Int) &&& BitVec.ofInt IntKind.u8.bits (b.toNat : Int)).toNat : Int) = (z.toNat : Int) := by
  have e : z = a &&& b := bt_ext fun k hk => by
    rw [h k hk, bt_bv, bt_bv, bt_bv, UInt8.toBitVec_and, BitVec.getLsbD_and]
  rw [ofInt_u8, ofInt_u8, e]
  exact u8_wrap (a &&& b)
theorem not_u8 {a b z : UInt8} (h : ∀ k, k < 8 → bt z k = (bt a k && !bt b k)) : IntKind.u8.wrap ((BitVec.ofInt IntKind.u8.bits (a.toNat : Int) &&& ~~~BitVec.ofInt IntKind.u8.bits (b.toNat : Int)).toNat : Int) = (z.toNat : Int) := by
  have e : z = a &&& ~~~b := bt_ext fun k hk => by
    rw [h k hk, bt_bv, bt_bv, bt_bv, UInt8.toBitVec_and, UInt8.toBitVec_not, BitVec.getLsbD_and, BitVec.getLsbD_not, decide_eq_true hk, Bool.true_and]
  rw [ofInt_u8, ofInt_u8, e]
  exact u8_wrap (a &&& ~~~b)
theorem cN_zero {f : Int → Bool} : ∀ {i : Nat}, (∀ j : Nat, j < i → f (j : Int) = false) → cN f i = 0
  | 0, _ => rfl
  | i + 1, h => by
    rw [cN_next, h i (by omega), if_neg (by simp)]
    exact cN_zero fun j hj => h j (by omega)
set_option maxRecDepth 100000 in
set_option maxHeartbeats 4000000 in
theorem joins_10 {x y : List TRun} (hx : Sm 8 x) (ox : Ok9 40 x) (oy : Ok9 40 y) (oa : Ok9 40 (whereL .add x y)) (ob : Ok9 40 (whereL .both x y)) (ol : Ok9 40 (whereL .less x y)) {σ : St}
    (hσ : Wk σ (mkS [(5, .t (sl x)), (7, .t (.str (putM 40 x))), (8, .t (.str (putM 40 y))), (9, .t (.str (putM 40 (whereL .add x y)))), (10, .t (.str (putM 40 (whereL .both x y)))), (11, .t (.str (putM 40 (whereL .less x y))))] .empty)) :
    avp K_law9_MapJoins G_law9_MapJoins_10 (Ret K_law9_MapJoins [.tmp 4] fun v _ => v = .t (.bool true)) σ := by
  unfold G_law9_MapJoins_10
  simp only [avp_seq]
  refine ⟨_, hσ, ?_⟩
  have e1 : (putM 40 x).length = 5 := ox.len
  have e2 : (putM 40 y).length = 5 := oy.len
  have e3 : (putM 40 (whereL .add x y)).length = 5 := oa.len
  have e4 : (putM 40 (whereL .both x y)).length = 5 := ob.len
  have e5 : (putM 40 (whereL .less x y)).length = 5 := ol.len
  have hb : ∀ j k, j < 5 → k < 8 → bt ((putM 40 x).getD j 0) k = hasR x (((14 + (8 * j + k) : Nat)) : Int) := fun j k hj hk => (ox.byt (j := j) hj hk).trans (by rw [Int.natCast_add]; rfl)
  have f1 : ∀ j, j < 5 → IntKind.u8.wrap ((BitVec.ofInt IntKind.u8.bits (((putM 40 x).getD j 0).toNat : Int) ||| BitVec.ofInt IntKind.u8.bits (((putM 40 y).getD j 0).toNat : Int)).toNat : Int) = (((putM 40 (whereL .add x y)).getD j 0).toNat : Int) := fun j hj => or_u8 fun k hk => by
    rw [show bt ((putM 40 (whereL .add x y)).getD j 0) k = _ from oa.byt (j := j) hj hk, show bt ((putM 40 x).getD j 0) k = _ from ox.byt (j := j) hj hk, show bt ((putM 40 y).getD j 0) k = _ from oy.byt (j := j) hj hk, where_has]; rfl
  have f2 : ∀ j, j < 5 → IntKind.u8.wrap ((BitVec.ofInt IntKind.u8.bits (((putM 40 x).getD j 0).toNat : Int) &&& BitVec.ofInt IntKind.u8.bits (((putM 40 y).getD j 0).toNat : Int)).toNat : Int) = (((putM 40 (whereL .both x y)).getD j 0).toNat : Int) := fun j hj => and_u8 fun k hk => by
    rw [show bt ((putM 40 (whereL .both x y)).getD j 0) k = _ from ob.byt (j := j) hj hk, show bt ((putM 40 x).getD j 0) k = _ from ox.byt (j := j) hj hk, show bt ((putM 40 y).getD j 0) k = _ from oy.byt (j := j) hj hk, where_has]; rfl
  have f3 : ∀ j, j < 5 → IntKind.u8.wrap ((BitVec.ofInt IntKind.u8.bits (((putM 40 x).getD j 0).toNat : Int) &&& ~~~BitVec.ofInt IntKind.u8.bits (((putM 40 y).getD j 0).toNat : Int)).toNat : Int) = (((putM 40 (whereL .less x y)).getD j 0).toNat : Int) := fun j hj => not_u8 fun k hk => by
    rw [show bt ((putM 40 (whereL .less x y)).getD j 0) k = _ from ol.byt (j := j) hj hk, show bt ((putM 40 x).getD j 0) k = _ from ox.byt (j := j) hj hk, show bt ((putM 40 y).getD j 0) k = _ from oy.byt (j := j) hj hk, where_has]; rfl
  have h14 : cN (hasR x) 14 = 0 := cN_zero fun j hj => by
    cases hh : hasR x (j : Int) with
    | false => rfl
    | true => have := ox.wn _ hh; omega
  have h54 : cntR x = (cN (hasR x) 54 : Nat) := cntR_card ox.nf (ox.wn.mono (by omega) (by omega))
  have lx := hx.len
  have px : x.length ≤ 1048576 := by omega
  have okx := hx.ok
  obtain ⟨p, hp⟩ : ∃ p, p = putM 40 x := ⟨_, rfl⟩
  obtain ⟨q, hq⟩ : ∃ q, q = putM 40 y := ⟨_, rfl⟩
  obtain ⟨pa, hpa⟩ : ∃ p, p = putM 40 (whereL .add x y) := ⟨_, rfl⟩
  obtain ⟨pb, hpb⟩ : ∃ p, p = putM 40 (whereL .both x y) := ⟨_, rfl⟩
  obtain ⟨pl, hpl⟩ : ∃ p, p = putM 40 (whereL .less x y) := ⟨_, rfl⟩
  rw [← hp] at e1 hb f1 f2 f3 ⊢
  rw [← hq] at e2 f1 f2 f3 ⊢
  rw [← hpa] at e3 f1 ⊢
  rw [← hpb] at e4 f2 ⊢
  rw [← hpl] at e5 f3 ⊢
  simp only [vP.down, vS.down, vE.down, Nat.reduceEqDiff, Nat.reduceAdd, Nat.reduceSub, Nat.reduceMul, Nat.reduceLeDiff, Nat.reduceLT, Int.reduceToNat, reduceIte, reduceCtorEq, Int.reduceEq, Int.reduceLT, Int.reduceLE, ↓avp_condG, ↓tf_arrow, ↓ft_arrow]
  refine loop_weak hm_law9_MapJoins (fun m σ => ∃ j : Nat, m = 5 - j ∧ j ≤ 5 ∧ σ = mkS [(5, .t (sl x)), (7, .t (.str p)), (8, .t (.str q)), (9, .t (.str pa)), (10, .t (.str pb)), (11, .t (.str pl)), (12, .t (.int .i64 (cN (hasR x) (14 + 8 * j) : Nat))), (13, .t (.int .i64 (j : Nat)))] .empty) ⟨0, rfl, by omega, rfl⟩ (wk_to fewer_refl (by simp only [vP.down, vS.down, vE.down, Nat.reduceEqDiff, Nat.reduceAdd, Nat.reduceSub, Nat.reduceMul, Nat.reduceLeDiff, Nat.reduceLT, Int.reduceToNat, reduceIte, reduceCtorEq, Int.reduceEq, Int.reduceLT, Int.reduceLE, ↓avp_condG, ↓tf_arrow, ↓ft_arrow, wP.down, Nat.mul_zero, Nat.add_zero, h14, Int.natCast_zero])) ?_
  rintro m _ ⟨j, rfl, hj, rfl⟩
  have hj1 : IntKind.i64.wrap ((j : Int) + 1) = ((j + 1 : Nat) : Int) := by rw [IntWalk.i64_in _ (by omega)]; rfl
  by_cases hlt : j < 5
  case neg =>
    obtain rfl : j = 5 := by omega
    have hge : ¬ ((5 : Int) < 5) := by omega
    simp only [vP.down, vS.down, vE.down, Nat.reduceEqDiff, Nat.reduceAdd, Nat.reduceSub, Nat.reduceMul, Nat.reduceLeDiff, Nat.reduceLT, Int.reduceToNat, reduceIte, reduceCtorEq, Int.reduceEq, Int.reduceLT, Int.reduceLE, ↓avp_condG, ↓tf_arrow, ↓ft_arrow, hge, show ((5 : Nat) : Int) = 5 from rfl, h54, px, okx, k_law9_MapJoins_ref8_Count.down, A_ref8_Count, p_ref8_Count, r_ref8_Count]
    simp only [vP.down, vS.down, vE.down, Nat.reduceEqDiff, Nat.reduceAdd, Nat.reduceSub, Nat.reduceMul, Nat.reduceLeDiff, Nat.reduceLT, Int.reduceToNat, reduceIte, reduceCtorEq, Int.reduceEq, Int.reduceLT, Int.reduceLE, ↓avp_condG, ↓tf_arrow, ↓ft_arrow, vT.down]
  have hlt' : (j : Int) < 5 := by omega
  have hj0 : (0 : Int) ≤ (j : Int) := by omega
  have g1 := f1 j hlt
  have g2 := f2 j hlt
  have g3 := f3 j hlt
  simp only [vP.down, vS.down, vE.down, Nat.reduceEqDiff, Nat.reduceAdd, Nat.reduceSub, Nat.reduceMul, Nat.reduceLeDiff, Nat.reduceLT, Int.reduceToNat, reduceIte, reduceCtorEq, Int.reduceEq, Int.reduceLT, Int.reduceLE, ↓avp_condG, ↓tf_arrow, ↓ft_arrow, hlt']
  refine weak_at [(5, .t (sl x)), (7, .t (.str p)), (8, .t (.str q)), (9, .t (.str pa)), (10, .t (.str pb)), (11, .t (.str pl)), (12, .t (.int .i64 (cN (hasR x) (14 + 8 * j) : Nat))), (13, .t (.int .i64 (j : Nat)))] .empty fewer_refl (by simp only [vP.down, vS.down, vE.down, Nat.reduceEqDiff, Nat.reduceAdd, Nat.reduceSub, Nat.reduceMul, Nat.reduceLeDiff, Nat.reduceLT, Int.reduceToNat, reduceIte, reduceCtorEq, Int.reduceEq, Int.reduceLT, Int.reduceLE, ↓avp_condG, ↓tf_arrow, ↓ft_arrow, wP.down]) ?_
  simp only [vP.down, vS.down, vE.down, Nat.reduceEqDiff, Nat.reduceAdd, Nat.reduceSub, Nat.reduceMul, Nat.reduceLeDiff, Nat.reduceLT, Int.reduceToNat, reduceIte, reduceCtorEq, Int.reduceEq, Int.reduceLT, Int.reduceLE, ↓avp_condG, ↓tf_arrow, ↓ft_arrow, e1, e2, e3, e4, e5, show ((5 : Nat) : Int) = 5 from rfl, hlt', hlt, hj0, g1, g2, g3, bin_andNot, bne_self_eq_false, pick_of, pick_ot]
  refine weak_at [(5, .t (sl x)), (7, .t (.str p)), (8, .t (.str q)), (9, .t (.str pa)), (10, .t (.str pb)), (11, .t (.str pl)), (12, .t (.int .i64 (cN (hasR x) (14 + 8 * j) : Nat))), (13, .t (.int .i64 (j : Nat)))] .empty fewer_refl (by simp only [vP.down, vS.down, vE.down, Nat.reduceEqDiff, Nat.reduceAdd, Nat.reduceSub, Nat.reduceMul, Nat.reduceLeDiff, Nat.reduceLT, Int.reduceToNat, reduceIte, reduceCtorEq, Int.reduceEq, Int.reduceLT, Int.reduceLE, ↓avp_condG, ↓tf_arrow, ↓ft_arrow, wP.down]) ?_
  simp only [vP.down, vS.down, vE.down, Nat.reduceEqDiff, Nat.reduceAdd, Nat.reduceSub, Nat.reduceMul, Nat.reduceLeDiff, Nat.reduceLT, Int.reduceToNat, reduceIte, reduceCtorEq, Int.reduceEq, Int.reduceLT, Int.reduceLE, ↓avp_condG, ↓tf_arrow, ↓ft_arrow]
  refine loop_weak hm_law9_MapJoins (fun m σ => ∃ k : Nat, m = 8 - k ∧ k ≤ 8 ∧ σ = mkS [(5, .t (sl x)), (7, .t (.str p)), (8, .t (.str q)), (9, .t (.str pa)), (10, .t (.str pb)), (11, .t (.str pl)), (12, .t (.int .i64 (cN (hasR x) (14 + (8 * j + k)) : Nat))), (13, .t (.int .i64 (j : Nat))), (14, .t (.int .i64 (k : Nat)))] .empty) ⟨0, rfl, by omega, rfl⟩ (wk_to fewer_refl (by simp only [vP.down, vS.down, vE.down, Nat.reduceEqDiff, Nat.reduceAdd, Nat.reduceSub, Nat.reduceMul, Nat.reduceLeDiff, Nat.reduceLT, Int.reduceToNat, reduceIte, reduceCtorEq, Int.reduceEq, Int.reduceLT, Int.reduceLE, ↓avp_condG, ↓tf_arrow, ↓ft_arrow, wP.down, Nat.add_zero, Int.natCast_zero])) ?_
  rintro m _ ⟨k, rfl, hk, rfl⟩
  have hk1 : IntKind.i64.wrap ((k : Int) + 1) = ((k + 1 : Nat) : Int) := by rw [IntWalk.i64_in _ (by omega)]; rfl
  by_cases hlk : k < 8
  case neg =>
    obtain rfl : k = 8 := by omega
    have hge : ¬ ((8 : Int) < 8) := by omega
    simp only [vP.down, vS.down, vE.down, Nat.reduceEqDiff, Nat.reduceAdd, Nat.reduceSub, Nat.reduceMul, Nat.reduceLeDiff, Nat.reduceLT, Int.reduceToNat, reduceIte, reduceCtorEq, Int.reduceEq, Int.reduceLT, Int.reduceLE, ↓avp_condG, ↓tf_arrow, ↓ft_arrow, hge, show ((8 : Nat) : Int) = 8 from rfl]
    exact round_to (5 - (j + 1)) [(5, .t (sl x)), (7, .t (.str p)), (8, .t (.str q)), (9, .t (.str pa)), (10, .t (.str pb)), (11, .t (.str pl)), (12, .t (.int .i64 (cN (hasR x) (14 + 8 * (j + 1)) : Nat))), (13, .t (.int .i64 (j + 1 : Nat)))] .empty (by omega) fewer_refl (by simp only [vP.down, vS.down, vE.down, Nat.reduceEqDiff, Nat.reduceAdd, Nat.reduceSub, Nat.reduceMul, Nat.reduceLeDiff, Nat.reduceLT, Int.reduceToNat, reduceIte, reduceCtorEq, Int.reduceEq, Int.reduceLT, Int.reduceLE, ↓avp_condG, ↓tf_arrow, ↓ft_arrow, wP.down, hj1, show 14 + 8 * (j + 1) = 14 + (8 * j + 8) from by omega]) ⟨j + 1, rfl, by omega, rfl⟩
  have hlk' : (k : Int) < 8 := by omega
  have hk0 : (0 : Int) ≤ (k : Int) := by omega
  have hbt := bt_eq2 (p.getD j 0) hlk
  rw [hb j k hlt hlk] at hbt
  have hc := cN_next (f := hasR x) (i := 14 + (8 * j + k))
  have hN8 := cN_le (f := hasR x) (i := 14 + (8 * j + k))
  have hstep : IntKind.i64.wrap (((cN (hasR x) (14 + (8 * j + k)) : Nat) : Int) + IntKind.i64.wrap (if hasR x ((14 + (8 * j + k) : Nat) : Int) = true then 1 else 0)) = ((cN (hasR x) (14 + (8 * j + (k + 1))) : Nat) : Int) := by
    rw [show 14 + (8 * j + (k + 1)) = 14 + (8 * j + k) + 1 from by omega, hc]
    cases hasR x ((14 + (8 * j + k) : Nat) : Int) with
    | true => rw [if_pos rfl, if_pos rfl, show IntKind.i64.wrap 1 = 1 from rfl, IntWalk.i64_in _ (by omega)]; rfl
    | false => rw [if_neg (by simp), if_neg (by simp), show IntKind.i64.wrap 0 = 0 from rfl, IntWalk.i64_in _ (by omega), Int.add_zero]
  simp only [vP.down, vS.down, vE.down, Nat.reduceEqDiff, Nat.reduceAdd, Nat.reduceSub, Nat.reduceMul, Nat.reduceLeDiff, Nat.reduceLT, Int.reduceToNat, reduceIte, reduceCtorEq, Int.reduceEq, Int.reduceLT, Int.reduceLE, ↓avp_condG, ↓tf_arrow, ↓ft_arrow, hlk']
  refine weak_at [(5, .t (sl x)), (7, .t (.str p)), (8, .t (.str q)), (9, .t (.str pa)), (10, .t (.str pb)), (11, .t (.str pl)), (12, .t (.int .i64 (cN (hasR x) (14 + (8 * j + k)) : Nat))), (13, .t (.int .i64 (j : Nat))), (14, .t (.int .i64 (k : Nat)))] .empty fewer_refl (by simp only [vP.down, vS.down, vE.down, Nat.reduceEqDiff, Nat.reduceAdd, Nat.reduceSub, Nat.reduceMul, Nat.reduceLeDiff, Nat.reduceLT, Int.reduceToNat, reduceIte, reduceCtorEq, Int.reduceEq, Int.reduceLT, Int.reduceLE, ↓avp_condG, ↓tf_arrow, ↓ft_arrow, wP.down]) ?_
  simp only [vP.down, vS.down, vE.down, Nat.reduceEqDiff, Nat.reduceAdd, Nat.reduceSub, Nat.reduceMul, Nat.reduceLeDiff, Nat.reduceLT, Int.reduceToNat, reduceIte, reduceCtorEq, Int.reduceEq, Int.reduceLT, Int.reduceLE, ↓avp_condG, ↓tf_arrow, ↓ft_arrow, e1, hlt', hlt, hj0, hk0, hbt]
  exact round_to (8 - (k + 1)) [(5, .t (sl x)), (7, .t (.str p)), (8, .t (.str q)), (9, .t (.str pa)), (10, .t (.str pb)), (11, .t (.str pl)), (12, .t (.int .i64 (cN (hasR x) (14 + (8 * j + (k + 1))) : Nat))), (13, .t (.int .i64 (j : Nat))), (14, .t (.int .i64 (k + 1 : Nat)))] .empty (by omega) fewer_refl (by simp only [vP.down, vS.down, vE.down, Nat.reduceEqDiff, Nat.reduceAdd, Nat.reduceSub, Nat.reduceMul, Nat.reduceLeDiff, Nat.reduceLT, Int.reduceToNat, reduceIte, reduceCtorEq, Int.reduceEq, Int.reduceLT, Int.reduceLE, ↓avp_condG, ↓tf_arrow, ↓ft_arrow, wP.down, hk1, hstep]) ⟨k + 1, rfl, by omega, rfl⟩
set_option maxRecDepth 100000 in
set_option maxHeartbeats 4000000 in
theorem body_law9_MapJoins (x) (hx : p_law9_MapJoins x) : avp K_law9_MapJoins G_law9_MapJoins (Ret K_law9_MapJoins [.tmp 4] fun v _ => v = r_law9_MapJoins x) (entry (A_law9_MapJoins.enc x) .empty) := by
  obtain ⟨a, b, ⟨⟩⟩ := x
  change avp _ _ (Ret _ _ fun v _ => v = .t (.bool true)) (entry [.t (sl a), .t (sl b)] .empty)
  unfold G_law9_MapJoins
  by_cases c1 : (20 : Int) < (a.length : Int)
  · simp only [vP.down, vS.down, vE.down, Nat.reduceEqDiff, Nat.reduceAdd, Nat.reduceSub, Nat.reduceMul, Nat.reduceLeDiff, Nat.reduceLT, Int.reduceToNat, reduceIte, reduceCtorEq, Int.reduceEq, Int.reduceLT, Int.reduceLE, ↓avp_condG, ↓tf_arrow, ↓ft_arrow, k_law9_MapJoins_law9_begun.down, A_law9_begun, p_law9_begun, r_law9_begun, c1, gt_iff_lt, pick_of, pick_ot]
    simp only [vP.down, vS.down, vE.down, Nat.reduceEqDiff, Nat.reduceAdd, Nat.reduceSub, Nat.reduceMul, Nat.reduceLeDiff, Nat.reduceLT, Int.reduceToNat, reduceIte, reduceCtorEq, Int.reduceEq, Int.reduceLT, Int.reduceLE, ↓avp_condG, ↓tf_arrow, ↓ft_arrow, vT.down]
  by_cases c2 : (20 : Int) < (b.length : Int)
  · simp only [vP.down, vS.down, vE.down, Nat.reduceEqDiff, Nat.reduceAdd, Nat.reduceSub, Nat.reduceMul, Nat.reduceLeDiff, Nat.reduceLT, Int.reduceToNat, reduceIte, reduceCtorEq, Int.reduceEq, Int.reduceLT, Int.reduceLE, ↓avp_condG, ↓tf_arrow, ↓ft_arrow, k_law9_MapJoins_law9_begun.down, A_law9_begun, p_law9_begun, r_law9_begun, c1, c2, gt_iff_lt, pick_of, pick_ot]
    simp only [vP.down, vS.down, vE.down, Nat.reduceEqDiff, Nat.reduceAdd, Nat.reduceSub, Nat.reduceMul, Nat.reduceLeDiff, Nat.reduceLT, Int.reduceToNat, reduceIte, reduceCtorEq, Int.reduceEq, Int.reduceLT, Int.reduceLE, ↓avp_condG, ↓tf_arrow, ↓ft_arrow, vT.down]
  simp only [vP.down, vS.down, vE.down, Nat.reduceEqDiff, Nat.reduceAdd, Nat.reduceSub, Nat.reduceMul, Nat.reduceLeDiff, Nat.reduceLT, Int.reduceToNat, reduceIte, reduceCtorEq, Int.reduceEq, Int.reduceLT, Int.reduceLE, ↓avp_condG, ↓tf_arrow, ↓ft_arrow, k_law9_MapJoins_law9_begun.down, A_law9_begun, p_law9_begun, r_law9_begun, c1, c2, gt_iff_lt, pick_of, pick_ot, k_law9_MapJoins_made_Made.down, q_made_Made, e_made_Made, mk_made_Made, k_law9_MapJoins_made_Picks_Runs.down, m_made_Picks_Runs]
  refine ⟨⟨a, rfl⟩, fun g1 hg1 => ?_⟩
  refine runs_any (pk_new hg1 (by omega)) (by omega) (by omega) fun v1 S1 x hv1 hx H1 _ => ?_
  refine ⟨⟨b, rfl⟩, fun g2 hg2 => ?_⟩
  refine runs_any (pk_new hg2 (by omega)) (by omega) (by omega) fun v2 S2 y hv2 hy H2 _ => ?_
  have hv1' := lv_over hv1 hg2 H2
  refine weak_at [(5, .t (sl x)), (6, .t (sl y))] .empty fewer_empty (by
    simp only [vP.down, vS.down, vE.down, Nat.reduceEqDiff, Nat.reduceAdd, Nat.reduceSub, Nat.reduceMul, Nat.reduceLeDiff, Nat.reduceLT, Int.reduceToNat, reduceIte, reduceCtorEq, Int.reduceEq, Int.reduceLT, Int.reduceLE, ↓avp_condG, ↓tf_arrow, ↓ft_arrow, wP.down]
    exact ⟨hv1'.w2 fun _ _ => rfl, hv2.w2 fun _ _ => rfl⟩) ?_
  have lx := hx.len
  have ly := hy.len
  have px : x.length ≤ 1000000 := by omega
  have py : y.length ≤ 1000000 := by omega
  simp only [vP.down, vS.down, vE.down, Nat.reduceEqDiff, Nat.reduceAdd, Nat.reduceSub, Nat.reduceMul, Nat.reduceLeDiff, Nat.reduceLT, Int.reduceToNat, reduceIte, reduceCtorEq, Int.reduceEq, Int.reduceLT, Int.reduceLE, ↓avp_condG, ↓tf_arrow, ↓ft_arrow, px, py, k_law9_MapJoins_smap_Put.down, A_smap_Put, p_smap_Put, r_smap_Put]
  have d4 : dataOk ((40 : Nat) : Int) = true := rfl
  have ox := hx.ok9 d4
  have oy := hy.ok9 d4
  have wj : ∀ h : How, Wn 14 40 (whereL h x y) := fun h => where_wn ox.wn oy.wn
  have oj : ∀ h : How, Ok9 40 (whereL h x y) := fun h => ⟨d4, where_nf, wj h⟩
  refine weak_at [(5, .t (sl x)), (6, .t (sl y)), (7, .t (.str (putM 40 x))), (8, .t (.str (putM 40 y)))] .empty fewer_refl (by simp only [vP.down, vS.down, vE.down, Nat.reduceEqDiff, Nat.reduceAdd, Nat.reduceSub, Nat.reduceMul, Nat.reduceLeDiff, Nat.reduceLT, Int.reduceToNat, reduceIte, reduceCtorEq, Int.reduceEq, Int.reduceLT, Int.reduceLE, ↓avp_condG, ↓tf_arrow, ↓ft_arrow, wP.down]) ?_
  have n1 := where_len .add x y
  have n2 := where_len .less x y
  have n3 := where_len .both x y
  have q0 : x.length + y.length ≤ 1099511627 := by omega
  have q1 : (whereL .add x y).length ≤ 1000000 := by omega
  have q2 : (whereL .less x y).length ≤ 1000000 := by omega
  have q3 : (whereL .both x y).length ≤ 1000000 := by omega
  simp only [vP.down, vS.down, vE.down, Nat.reduceEqDiff, Nat.reduceAdd, Nat.reduceSub, Nat.reduceMul, Nat.reduceLeDiff, Nat.reduceLT, Int.reduceToNat, reduceIte, reduceCtorEq, Int.reduceEq, Int.reduceLT, Int.reduceLE, ↓avp_condG, ↓tf_arrow, ↓ft_arrow, q0, q1, q2, q3, k_law9_MapJoins_smap_Put.down, A_smap_Put, p_smap_Put, r_smap_Put, k_law9_MapJoins_ref8_Add.down, A_ref8_Add, p_ref8_Add, r_ref8_Add, k_law9_MapJoins_ref8_Less.down, A_ref8_Less, p_ref8_Less, r_ref8_Less, k_law9_MapJoins_ref8_Both.down, A_ref8_Both, p_ref8_Both, r_ref8_Both]
  refine weak_at [(5, .t (sl x)), (7, .t (.str (putM 40 x))), (8, .t (.str (putM 40 y))), (9, .t (.str (putM 40 (whereL .add x y)))), (10, .t (.str (putM 40 (whereL .both x y)))), (11, .t (.str (putM 40 (whereL .less x y))))] .empty fewer_refl (by simp only [vP.down, vS.down, vE.down, Nat.reduceEqDiff, Nat.reduceAdd, Nat.reduceSub, Nat.reduceMul, Nat.reduceLeDiff, Nat.reduceLT, Int.reduceToNat, reduceIte, reduceCtorEq, Int.reduceEq, Int.reduceLT, Int.reduceLE, ↓avp_condG, ↓tf_arrow, ↓ft_arrow, wP.down]) ?_
  have e1 : (putM 40 x).length = 5 := ox.len
  have e2 : (putM 40 y).length = 5 := oy.len
  have e3 : (putM 40 (whereL .add x y)).length = 5 := (oj .add).len
  have e4 : (putM 40 (whereL .both x y)).length = 5 := (oj .both).len
  have e5 : (putM 40 (whereL .less x y)).length = 5 := (oj .less).len
  simp only [vP.down, vS.down, vE.down, Nat.reduceEqDiff, Nat.reduceAdd, Nat.reduceSub, Nat.reduceMul, Nat.reduceLeDiff, Nat.reduceLT, Int.reduceToNat, reduceIte, reduceCtorEq, Int.reduceEq, Int.reduceLT, Int.reduceLE, ↓avp_condG, ↓tf_arrow, ↓ft_arrow, e1, e2, e3, e4, e5, show ((5 : Nat) : Int) = 5 from rfl, bne_self_eq_false, pick_of, pick_ot]
  exact joins_10 hx ox oy (oj .add) (oj .both) (oj .less) (wk_to fewer_refl (by simp only [vP.down, vS.down, vE.down, Nat.reduceEqDiff, Nat.reduceAdd, Nat.reduceSub, Nat.reduceMul, Nat.reduceLeDiff, Nat.reduceLT, Int.reduceToNat, reduceIte, reduceCtorEq, Int.reduceEq, Int.reduceLT, Int.reduceLE, ↓avp_condG, ↓tf_arrow, ↓ft_arrow, wP.down]))
noncomputable def c_law9_MapJoins : Con := fnScal A_law9_MapJoins p_law9_MapJoins r_law9_MapJoins
theorem ok_law9_MapJoins : COk Try.prog 6 c_law9_MapJoins := fn_sok sys_law9_MapJoins mixed Try.func6 (by kernel_rfl) geq_law9_MapJoins Try.ntmps6 (by rw [Try.results6]) (fun x => by simp [rTrue, AV.scal]) fun x hx => ⟨Nat.le_of_ble_eq_true rfl, body_law9_MapJoins x hx⟩
theorem says_law9_MapJoins : SaysTrue Rows.mapJoinsSpec 2 := ⟨rfl, fun H ds h => by
  match ds, h with
  | [d0, d1], _ => exact ⟨rfl, rfl, rfl⟩⟩
set_option maxRecDepth 100000 in
theorem lifted_law9_MapJoins (os : Os) (started : os.Started) (H : Type) (enc : TypeId × Value → H) :
    ReturnsInHanded {} Try.checked os 6 .any (Rows.mapJoinsSpec.pre6 enc Try.prog Try.f6 Rows.mapJoinsRow.domain false) (Rows.mapJoinsSpec.post enc Try.prog Try.f6 false true false false) := by
  refine returnsInHanded_of_change (C := Try.checked) own started (by kernel_rfl) Try.func6
    (ChangeSpec.witness6 (enc := enc) (C := Try.checked) false ⟨#[], #[.slice none 0 0, .slice none 0 0], []⟩ 8 (by kernel_rfl) (by kernel_rfl) (by kernel_rfl) (by kernel_rfl)) ?_
  intro W base args ds gs before hval hW _ _
  exact law_contract (ts := [22, 22]) (tb := 4) ok_law9_MapJoins (by rw [Try.params6]) (by kernel_rfl) Try.underlying4 laid (by kernel_rfl) rd_law9_MapJoins (fun _ h => h) says_law9_MapJoins H enc W base args ds gs before hval hW
theorem over_law9_MapJoins : Rows.mapJoinsRow.holds Try.pinned (OpenSpec.ofChange Rows.mapJoinsSpec) :=
  OpenClaim.holds_of_wide 6 Try.f6 rfl rfl rfl rfl rfl rfl rfl ⟨rfl, rfl, rfl, rfl, rfl⟩ rfl rfl rfl rfl rfl (by kernel_rfl) Try.func6 (by kernel_rfl)
    (of_decide_eq_true (by kernel_rfl)) (by unfold Func.isWrapper; first | (rw [if_pos (by decide +kernel)]; kernel_rfl) | (rw [if_neg (by decide +kernel)]; exact ⟨rfl, rfl⟩))
    (fun os started H enc _ => lifted_law9_MapJoins os started H enc)
theorem mapJoins_holds : Rows.MapJoinsSaid := over_law9_MapJoins
end Go.Proofs.Ytlfncfaonnaneaa

