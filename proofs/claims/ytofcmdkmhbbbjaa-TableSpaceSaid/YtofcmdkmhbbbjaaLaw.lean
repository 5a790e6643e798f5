/-
  TableSpace.
-/
import Derived.Test.YtofcmdkmhbbbjaaFnsI
set_option linter.unusedSimpArgs false
set_option linter.unusedVariables false
set_option maxRecDepth 100000
open Nat renaming reduceEqDiff → qA, reduceAdd → qB, reduceSub → qC, reduceMul → qD, reduceLeDiff → qE, reduceLT → qF
open Int renaming reduceToNat → qG, reduceEq → qH, reduceLT → qI, reduceLE → qJ
namespace Go.Proofs.Ytofcmdkmhbbbjaa
open Go Go.Eng
set_option maxRecDepth 100000
def turnS (s : List UInt8) (i : Nat) (b : UInt8) : List UInt8 := s.set i (s.getD i 0 ^^^ b)
theorem turnS_len {s : List UInt8} {i : Nat} {b : UInt8} : (turnS s i b).length = s.length := by simp [turnS]
theorem turn_byt {s : List UInt8} {i : Nat} {b : UInt8} : (s.map Byt.mk).set i ⟨s.getD i 0 ^^^ b⟩ = (turnS s i b).map Byt.mk := by
  simp [turnS, List.map_set]
theorem row_byt {s : List UInt8} {i : Nat} (h : i < s.length) : (List.map Cell.enc (List.map Byt.mk s)).getD i [] = [.int .u8 ((s.getD i 0).toNat : Int)] := by
  rw [row_at (by simpa using h)]
  simp [enc_byt, List.getD_eq_getElem?_getD, h]
theorem sp_len {n : Int} {s : List UInt8} : lenS (takeSp n s).1 := by
  rw [takeSp]
  split
  · exact tkS_len
  · exact gl0
theorem map_mk_v (s : List UInt8) : (s.map Byt.mk).map Byt.v = s := map_v s
theorem sp_freeze2 {S : Store} {g : Nat} {a b d : TV} {v : AV} {w : List TRun} (h : S.f g = some (.box [.t a, .t b, v, .t d] false)) (hv : LV S v w) : Fewer S (Store.empty.set g (some (.box [.t a, .t b, .t (sl w), .t d] false))) := fun k e' hk => by
  have hvg := hv.notbox h
  by_cases hkg : k = g
  · subst hkg
    rw [Store.set_same] at hk
    cases hk
    refine ⟨_, h, .inr ⟨_, _, false, rfl, rfl, ⟨.inl rfl, .inl rfl, box_w1 hv fun x hx => ?_, .inl rfl, trivial⟩, rfl⟩⟩
    exact Store.set_other _ _ fun hh => hx (hh ▸ hvg)
  · rw [Store.set_other _ _ hkg] at hk; cases hk
theorem sp_dec {a b c d : TV} {x y z w : List TRun} (ha : Cell.dec [a] = some x) (hb : Cell.dec [b] = some y) (hc : Cell.dec [c] = some z) (hd : Cell.dec [d] = some w) : (Cell.dec [a, b, c, d] : Option TSpace) = some ⟨x, y, z, w⟩ := by
  have e : (Cell.dec [a, b, c, d] : Option TSpace) = (((Cell.dec [a] : Option (List TRun)).bind fun x => (((Cell.dec [b] : Option (List TRun)).bind fun y => (((Cell.dec [c] : Option (List TRun)).bind fun z => ((Cell.dec [d] : Option (List TRun)).map fun w => (z, w))).map fun q => (y, q))).map fun q => (x, q))).map fun q => (⟨q.1, q.2.1, q.2.2.1, q.2.2.2⟩ : TSpace)) := rfl
  rw [e, ha, hb, hc, hd]; rfl
def G_law17_TableSpace_26 : GCode := .seq (.seq (.seq .weak (.region [⟨(some 31), none, .assign (.const (.int .i64 0))⟩])) (.block 4 (.loop (.seq .weak (.seq (.seq (.region [⟨(some 154), none, .move (.tmp 31)⟩, ⟨(some 155), none, .move (.tmp 30)⟩, ⟨(some 156), none, .call ⟨.builtin .len, #[.tmp 155], #[44]⟩⟩, ⟨(some 157), none, .binOp .lss 3 (.tmp 154) (.tmp 156) 3⟩]) (.cond (.tmp 157) (.skip) (.exit 4))) (.seq (.block 5 (.seq (.region [⟨(some 32), none, .assign (.const (.int .i64 0))⟩]) (.block 6 (.loop (.seq .weak (.seq (.seq (.region [⟨(some 160), none, .move (.tmp 32)⟩, ⟨(some 161), none, .binOp .lss 3 (.tmp 160) (.const (.int .i64 4)) 3⟩]) (.cond (.tmp 161) (.skip) (.exit 6))) (.seq (.block 7 (.seq (.seq .weak (.region [⟨(some 165), none, .move (.tmp 25)⟩, ⟨(some 166), none, .move (.tmp 32)⟩, ⟨(some 167), none, .indexAddr 58 (.tmp 165) (.tmp 166)⟩, ⟨(some 168), none, .load 3 (.tmp 167)⟩, ⟨(some 169), none, .move (.tmp 30)⟩, ⟨(some 170), none, .move (.tmp 31)⟩, ⟨(some 171), none, .indexAddr 44 (.tmp 169) (.tmp 170)⟩, ⟨(some 172), none, .load 9 (.tmp 171)⟩, ⟨(some 173), none, .call ⟨.value (.func 28), #[.tmp 168, .tmp 172], #[3, 9]⟩⟩, ⟨(some 164), none, .move (.tmp 173)⟩, ⟨(some 174), none, .extract (.tmp 164) 0⟩, ⟨(some 175), none, .extract (.tmp 164) 1⟩, ⟨(some 33), none, .alloc 56⟩, ⟨none, none, .store 56 (.tmp 33) (.tmp 174)⟩, ⟨(some 34), none, .assign (.tmp 175)⟩])) (.seq (.seq .weak (.region [⟨(some 177), none, .move (.tmp 25)⟩, ⟨(some 178), none, .move (.tmp 32)⟩, ⟨(some 179), none, .indexAddr 58 (.tmp 177) (.tmp 178)⟩, ⟨(some 180), none, .load 3 (.tmp 179)⟩, ⟨(some 181), none, .move (.tmp 30)⟩, ⟨(some 182), none, .move (.tmp 31)⟩, ⟨(some 183), none, .indexAddr 44 (.tmp 181) (.tmp 182)⟩, ⟨(some 184), none, .load 9 (.tmp 183)⟩, ⟨(some 185), none, .call ⟨.value (.func 29), #[.tmp 180, .tmp 184], #[3, 9]⟩⟩, ⟨(some 176), none, .move (.tmp 185)⟩, ⟨(some 186), none, .extract (.tmp 176) 0⟩, ⟨(some 187), none, .extract (.tmp 176) 1⟩, ⟨(some 35), none, .alloc 56⟩, ⟨none, none, .store 56 (.tmp 35) (.tmp 186)⟩, ⟨(some 36), none, .assign (.tmp 187)⟩])) (.seq (.seq .weak (.region [⟨(some 188), none, .move (.tmp 34)⟩, ⟨(some 189), none, .move (.tmp 36)⟩, ⟨(some 190), none, .binOp .neq 4 (.tmp 188) (.tmp 189) 4⟩, ⟨(some 191), none, .move (.tmp 190)⟩, ⟨(some 192), (some (191, false)), .load 56 (.tmp 33)⟩, ⟨(some 193), (some (191, false)), .load 56 (.tmp 35)⟩, ⟨(some 194), (some (191, false)), .call ⟨.value (.func 30), #[.tmp 192, .tmp 193], #[56, 56]⟩⟩, ⟨(some 195), (some (191, false)), .unOp .not 4 (.tmp 194)⟩, ⟨(some 196), none, .pick (.tmp 191) (.const (.bool true)) (.tmp 195)⟩])) (.cond (.tmp 196) (.seq (.region [⟨(some 18), none, .assign (.const (.bool false))⟩]) (.ret)) (.skip)))))) (.region [⟨(some 162), none, .move (.tmp 32)⟩, ⟨(some 163), none, .binOp .add 3 (.tmp 162) (.const (.int .i64 1)) 3⟩, ⟨(some 32), none, .assign (.tmp 163)⟩])))))))) (.region [⟨(some 158), none, .move (.tmp 31)⟩, ⟨(some 159), none, .binOp .add 3 (.tmp 158) (.const (.int .i64 1)) 3⟩, ⟨(some 31), none, .assign (.tmp 159)⟩]))))))) (.seq (.region [⟨(some 18), none, .assign (.const (.bool true))⟩]) (.ret))
def G_law17_TableSpace_22 : GCode := .seq (.seq .weak (.region [⟨(some 130), none, .load 56 (.tmp 21)⟩, ⟨(some 131), none, .call ⟨.value (.func 27), #[.const (.int .i64 60), .tmp 130], #[3, 56]⟩⟩, ⟨(some 28), none, .assign (.tmp 131)⟩])) (.seq (.seq .weak (.region [⟨(some 132), none, .move (.tmp 28)⟩, ⟨(some 133), none, .convert 9 22 (.tmp 132)⟩, ⟨(some 29), none, .assign (.tmp 133)⟩])) (.seq (.region [⟨(some 134), none, .move (.tmp 29)⟩, ⟨(some 135), none, .move (.tmp 7)⟩, ⟨(some 136), none, .convert 5 3 (.tmp 135)⟩, ⟨(some 137), none, .move (.tmp 29)⟩, ⟨(some 138), none, .call ⟨.builtin .len, #[.tmp 137], #[22]⟩⟩, ⟨(some 139), none, .binOp .rem 3 (.tmp 136) (.tmp 138) 3⟩, ⟨(some 140), none, .indexAddr 22 (.tmp 134) (.tmp 139)⟩, ⟨(some 141), none, .load 5 (.tmp 140)⟩, ⟨(some 142), none, .move (.tmp 8)⟩, ⟨(some 143), none, .binOp .xor 5 (.tmp 141) (.tmp 142) 5⟩, ⟨(some 144), none, .indexAddr 22 (.tmp 134) (.tmp 139)⟩, ⟨none, none, .store 5 (.tmp 144) (.tmp 143)⟩]) (.seq (.seq .weak (.region [⟨(some 145), none, .move (.tmp 28)⟩, ⟨(some 146), none, .move (.tmp 29)⟩, ⟨(some 147), none, .convert 22 9 (.tmp 146)⟩, ⟨(some 148), none, .move (.tmp 5)⟩, ⟨(some 149), none, .move (.tmp 28)⟩, ⟨(some 150), none, .binOp .add 9 (.tmp 149) (.const (.string ⟨#[120]⟩)) 9⟩, ⟨(some 151), none, .load 56 (.tmp 21)⟩, ⟨(some 152), none, .call ⟨.value (.func 27), #[.const (.int .i64 40), .tmp 151], #[3, 56]⟩⟩, ⟨(some 153), none, .buildSlice 44 5 #[(0, .tmp 145), (1, .tmp 147), (2, .tmp 148), (3, .tmp 150), (4, .tmp 152)]⟩, ⟨(some 30), none, .assign (.tmp 153)⟩])) (G_law17_TableSpace_26))))
def G_law17_TableSpace_14 : GCode := .seq (.seq (.seq .weak (.region [⟨(some 26), none, .assign (.const (.int .i64 0))⟩])) (.block 0 (.loop (.seq .weak (.seq (.seq (.region [⟨(some 103), none, .move (.tmp 26)⟩, ⟨(some 104), none, .binOp .lss 3 (.tmp 103) (.const (.int .i64 4)) 3⟩]) (.cond (.tmp 104) (.skip) (.exit 0))) (.seq (.block 1 (.seq (.region [⟨(some 27), none, .assign (.const (.int .i64 0))⟩]) (.block 2 (.loop (.seq .weak (.seq (.seq (.region [⟨(some 107), none, .move (.tmp 27)⟩, ⟨(some 108), none, .binOp .lss 3 (.tmp 107) (.const (.int .i64 4)) 3⟩]) (.cond (.tmp 108) (.skip) (.exit 2))) (.seq (.block 3 (.seq (.seq .weak (.region [⟨(some 111), none, .move (.tmp 25)⟩, ⟨(some 112), none, .move (.tmp 27)⟩, ⟨(some 113), none, .indexAddr 58 (.tmp 111) (.tmp 112)⟩, ⟨(some 114), none, .load 3 (.tmp 113)⟩, ⟨(some 115), none, .move (.tmp 24)⟩, ⟨(some 116), none, .move (.tmp 26)⟩, ⟨(some 117), none, .indexAddr 57 (.tmp 115) (.tmp 116)⟩, ⟨(some 118), none, .load 56 (.tmp 117)⟩, ⟨(some 119), none, .call ⟨.value (.func 26), #[.tmp 114, .tmp 118], #[3, 56]⟩⟩, ⟨(some 120), none, .move (.tmp 25)⟩, ⟨(some 121), none, .move (.tmp 27)⟩, ⟨(some 122), none, .indexAddr 58 (.tmp 120) (.tmp 121)⟩, ⟨(some 123), none, .load 3 (.tmp 122)⟩, ⟨(some 124), none, .move (.tmp 24)⟩, ⟨(some 125), none, .move (.tmp 26)⟩, ⟨(some 126), none, .indexAddr 57 (.tmp 124) (.tmp 125)⟩, ⟨(some 127), none, .load 56 (.tmp 126)⟩, ⟨(some 128), none, .call ⟨.value (.func 27), #[.tmp 123, .tmp 127], #[3, 56]⟩⟩, ⟨(some 129), none, .binOp .neq 9 (.tmp 119) (.tmp 128) 9⟩])) (.cond (.tmp 129) (.seq (.region [⟨(some 18), none, .assign (.const (.bool false))⟩]) (.ret)) (.skip)))) (.region [⟨(some 109), none, .move (.tmp 27)⟩, ⟨(some 110), none, .binOp .add 3 (.tmp 109) (.const (.int .i64 1)) 3⟩, ⟨(some 27), none, .assign (.tmp 110)⟩])))))))) (.region [⟨(some 105), none, .move (.tmp 26)⟩, ⟨(some 106), none, .binOp .add 3 (.tmp 105) (.const (.int .i64 1)) 3⟩, ⟨(some 26), none, .assign (.tmp 106)⟩]))))))) (G_law17_TableSpace_22)
def G_law17_TableSpace : GCode := .seq (.region [⟨(some 18), none, .assign (.const (.bool false))⟩]) (.seq (.seq (.region [⟨(some 37), none, .call ⟨.value (.func 9), #[], #[]⟩⟩, ⟨(some 38), none, .unOp .not 4 (.tmp 37)⟩]) (.cond (.tmp 38) (.seq (.region [⟨(some 18), none, .assign (.const (.bool false))⟩]) (.ret)) (.skip))) (.seq (.seq (.region [⟨(some 39), none, .move (.tmp 0)⟩, ⟨(some 40), none, .call ⟨.builtin .len, #[.tmp 39], #[22]⟩⟩, ⟨(some 41), none, .binOp .gtr 3 (.tmp 40) (.const (.int .i64 20)) 3⟩, ⟨(some 42), none, .move (.tmp 41)⟩, ⟨(some 43), (some (42, false)), .move (.tmp 1)⟩, ⟨(some 44), (some (42, false)), .call ⟨.builtin .len, #[.tmp 43], #[22]⟩⟩, ⟨(some 45), (some (42, false)), .binOp .gtr 3 (.tmp 44) (.const (.int .i64 20)) 3⟩, ⟨(some 46), none, .pick (.tmp 42) (.const (.bool true)) (.tmp 45)⟩, ⟨(some 47), none, .move (.tmp 46)⟩, ⟨(some 48), (some (47, false)), .move (.tmp 2)⟩, ⟨(some 49), (some (47, false)), .call ⟨.builtin .len, #[.tmp 48], #[22]⟩⟩, ⟨(some 50), (some (47, false)), .binOp .gtr 3 (.tmp 49) (.const (.int .i64 20)) 3⟩, ⟨(some 51), none, .pick (.tmp 47) (.const (.bool true)) (.tmp 50)⟩, ⟨(some 52), none, .move (.tmp 51)⟩, ⟨(some 53), (some (52, false)), .move (.tmp 3)⟩, ⟨(some 54), (some (52, false)), .call ⟨.builtin .len, #[.tmp 53], #[22]⟩⟩, ⟨(some 55), (some (52, false)), .binOp .gtr 3 (.tmp 54) (.const (.int .i64 20)) 3⟩, ⟨(some 56), none, .pick (.tmp 52) (.const (.bool true)) (.tmp 55)⟩, ⟨(some 57), none, .move (.tmp 56)⟩, ⟨(some 58), (some (57, false)), .move (.tmp 4)⟩, ⟨(some 59), (some (57, false)), .call ⟨.builtin .len, #[.tmp 58], #[52]⟩⟩, ⟨(some 60), (some (57, false)), .binOp .gtr 3 (.tmp 59) (.const (.int .i64 5)) 3⟩, ⟨(some 61), none, .pick (.tmp 57) (.const (.bool true)) (.tmp 60)⟩, ⟨(some 62), none, .move (.tmp 61)⟩, ⟨(some 63), (some (62, false)), .move (.tmp 5)⟩, ⟨(some 64), (some (62, false)), .call ⟨.builtin .len, #[.tmp 63], #[9]⟩⟩, ⟨(some 65), (some (62, false)), .binOp .gtr 3 (.tmp 64) (.const (.int .i64 130)) 3⟩, ⟨(some 66), none, .pick (.tmp 62) (.const (.bool true)) (.tmp 65)⟩]) (.cond (.tmp 66) (.seq (.region [⟨(some 18), none, .assign (.const (.bool true))⟩]) (.ret)) (.skip))) (.seq (.seq .weak (.region [⟨(some 67), none, .move (.tmp 0)⟩, ⟨(some 68), none, .call ⟨.value (.func 11), #[.tmp 67], #[22]⟩⟩, ⟨(some 69), none, .call ⟨.value (.func 24), #[.tmp 68, .const (.int .i64 8)], #[38, 3]⟩⟩, ⟨(some 19), none, .assign (.tmp 69)⟩])) (.seq (.seq .weak (.region [⟨(some 70), none, .move (.tmp 1)⟩, ⟨(some 71), none, .call ⟨.value (.func 11), #[.tmp 70], #[22]⟩⟩, ⟨(some 72), none, .call ⟨.value (.func 24), #[.tmp 71, .const (.int .i64 8)], #[38, 3]⟩⟩, ⟨(some 73), none, .move (.tmp 19)⟩, ⟨(some 74), none, .call ⟨.value (.func 25), #[.tmp 72, .tmp 73], #[52, 52]⟩⟩, ⟨(some 20), none, .assign (.tmp 74)⟩])) (.seq (.seq .weak (.region [⟨(some 75), none, .move (.tmp 19)⟩, ⟨(some 76), none, .move (.tmp 20)⟩, ⟨(some 77), none, .move (.tmp 2)⟩, ⟨(some 78), none, .call ⟨.value (.func 11), #[.tmp 77], #[22]⟩⟩, ⟨(some 79), none, .call ⟨.value (.func 24), #[.tmp 78, .const (.int .i64 8)], #[38, 3]⟩⟩, ⟨(some 80), none, .move (.tmp 19)⟩, ⟨(some 81), none, .call ⟨.value (.func 25), #[.tmp 79, .tmp 80], #[52, 52]⟩⟩, ⟨(some 82), none, .move (.tmp 20)⟩, ⟨(some 83), none, .call ⟨.value (.func 25), #[.tmp 81, .tmp 82], #[52, 52]⟩⟩, ⟨(some 84), none, .move (.tmp 3)⟩, ⟨(some 85), none, .call ⟨.value (.func 11), #[.tmp 84], #[22]⟩⟩, ⟨(some 86), none, .call ⟨.value (.func 24), #[.tmp 85, .const (.int .i64 8)], #[38, 3]⟩⟩, ⟨(some 87), none, .build 56 #[(0, .tmp 75), (1, .tmp 76), (2, .tmp 83), (3, .tmp 86)]⟩, ⟨(some 21), none, .alloc 56⟩, ⟨none, none, .store 56 (.tmp 21) (.tmp 87)⟩])) (.seq (.seq .weak (.seq .weak (.region [⟨(some 88), none, .load 56 (.tmp 21)⟩, ⟨(some 22), none, .alloc 56⟩, ⟨none, none, .store 56 (.tmp 22) (.tmp 88)⟩]))) (.seq (.seq .weak (.region [⟨(some 89), none, .move (.tmp 2)⟩, ⟨(some 90), none, .call ⟨.value (.func 11), #[.tmp 89], #[22]⟩⟩, ⟨(some 91), none, .call ⟨.value (.func 24), #[.tmp 90, .const (.int .i64 8)], #[38, 3]⟩⟩, ⟨(some 92), none, .fieldAddr 56 (.tmp 22) 2⟩, ⟨none, none, .store 52 (.tmp 92) (.tmp 91)⟩])) (.seq (.seq .weak (.seq .weak (.region [⟨(some 93), none, .load 56 (.tmp 21)⟩, ⟨(some 23), none, .alloc 56⟩, ⟨none, none, .store 56 (.tmp 23) (.tmp 93)⟩]))) (.seq (.seq .weak (.region [⟨(some 94), none, .move (.tmp 4)⟩, ⟨(some 95), none, .fieldAddr 56 (.tmp 23) 3⟩, ⟨none, none, .store 52 (.tmp 95) (.tmp 94)⟩])) (.seq (.seq .weak (.region [⟨(some 96), none, .load 56 (.tmp 21)⟩, ⟨(some 97), none, .load 56 (.tmp 22)⟩, ⟨(some 98), none, .load 56 (.tmp 23)⟩, ⟨(some 99), none, .build 56 #[]⟩, ⟨(some 100), none, .buildSlice 57 4 #[(0, .tmp 96), (1, .tmp 97), (2, .tmp 98), (3, .tmp 99)]⟩, ⟨(some 24), none, .assign (.tmp 100)⟩])) (.seq (.seq .weak (.region [⟨(some 101), none, .move (.tmp 6)⟩, ⟨(some 102), none, .buildSlice 58 4 #[(0, .const (.int .i64 40)), (1, .tmp 101), (2, .const (.int .i64 60)), (3, .const (.int .i64 240))]⟩, ⟨(some 25), none, .assign (.tmp 102)⟩])) (G_law17_TableSpace_14))))))))))))
noncomputable def l_law17_TableSpace : List (Nat × Con) := [(9, c_law17_begun), (11, c_made_Made), (24, c_made_Picks_Runs), (25, c_ref8_Less), (26, c_table_Space), (27, c_ref16_PutSpace), (28, c_table_TakeSpace), (29, c_ref16_TakeSpace), (30, c_ref8_SameSpace)]
noncomputable abbrev K_law17_TableSpace : Ctx := ctx (cl l_law17_TableSpace)
theorem geq_law17_TableSpace : gof K_law17_TableSpace Try.f4 = some G_law17_TableSpace.strip := by kernel_rfl
theorem sys_law17_TableSpace : Go.Eng.Sys Try.prog K_law17_TableSpace := sys_of' ⟨ok_law17_begun, ok_made_Made, ok_made_Picks_Runs, ok_ref8_Less, ok_table_Space, ok_ref16_PutSpace, ok_table_TakeSpace, ok_ref16_TakeSpace, ok_ref8_SameSpace, trivial⟩
theorem hm_law17_TableSpace : ConMono K_law17_TableSpace := conMono_of sys_law17_TableSpace.con
noncomputable def k_law17_TableSpace_law17_begun := PLift.up (call_scal (C := K_law17_TableSpace) (f := 9) (A := A_law17_begun) (p := p_law17_begun) (r := r_law17_begun) rfl)
noncomputable def k_law17_TableSpace_made_Made := PLift.up (call_new (C := K_law17_TableSpace) (f := 11) (c := q_made_Made) (e := e_made_Made) (mk := mk_made_Made) rfl)
noncomputable def k_law17_TableSpace_made_Picks_Runs := PLift.up (call_gen (C := K_law17_TableSpace) (f := 24) (modes := m_made_Picks_Runs) (F := F_made_Picks_Runs) rfl)
noncomputable def k_law17_TableSpace_ref8_Less := PLift.up (call_fn (C := K_law17_TableSpace) (f := 25) (A := A_ref8_Less) (p := p_ref8_Less) (r := r_ref8_Less) rfl)
noncomputable def k_law17_TableSpace_table_Space := PLift.up (call_scal (C := K_law17_TableSpace) (f := 26) (A := A_table_Space) (p := p_table_Space) (r := r_table_Space) rfl)
noncomputable def k_law17_TableSpace_ref16_PutSpace := PLift.up (call_scal (C := K_law17_TableSpace) (f := 27) (A := A_ref16_PutSpace) (p := p_ref16_PutSpace) (r := r_ref16_PutSpace) rfl)
noncomputable def k_law17_TableSpace_table_TakeSpace := PLift.up (call_fn (C := K_law17_TableSpace) (f := 28) (A := A_table_TakeSpace) (p := p_table_TakeSpace) (r := r_table_TakeSpace) rfl)
noncomputable def k_law17_TableSpace_ref16_TakeSpace := PLift.up (call_fn (C := K_law17_TableSpace) (f := 29) (A := A_ref16_TakeSpace) (p := p_ref16_TakeSpace) (r := r_ref16_TakeSpace) rfl)
noncomputable def k_law17_TableSpace_ref8_SameSpace := PLift.up (call_scal (C := K_law17_TableSpace) (f := 30) (A := A_ref8_SameSpace) (p := p_ref8_SameSpace) (r := r_ref8_SameSpace) rfl)
set_option maxHeartbeats 4000000 in
theorem space_26 {W : List (List UInt8)} {D : List Int} (hW : W.length = 5) (hD : D.length = 4) (hw : ∀ w ∈ W, w.length ≤ 1000000) {σ : St} (hσ : Wk σ (mkS [(25, .t (sl D)), (30, .t (sl W))] .empty)) :
    avp K_law17_TableSpace G_law17_TableSpace_26 (Ret K_law17_TableSpace [.tmp 18] fun v _ => v = .t (.bool true)) σ := by
  unfold G_law17_TableSpace_26
  simp only [avp_seq]
  refine ⟨_, hσ, ?_⟩
  simp only [vP.down, vS.down, vE.down, qA, qB, qC, qD, qE, qF, qG, reduceIte, reduceCtorEq, qH, qI, qJ, ↓avp_condG, ↓tf_arrow, ↓ft_arrow]
  refine loop_weak hm_law17_TableSpace (fun m σ => ∃ i : Nat, m = 5 - i ∧ i ≤ 5 ∧ σ = mkS [(25, .t (sl D)), (30, .t (sl W)), (31, .t (.int .i64 (i : Nat)))] .empty) ⟨0, rfl, by omega, rfl⟩ (wk_to fewer_refl (by simp only [vP.down, vS.down, vE.down, qA, qB, qC, qD, qE, qF, qG, reduceIte, reduceCtorEq, qH, qI, qJ, ↓avp_condG, ↓tf_arrow, ↓ft_arrow, wP.down, Int.natCast_zero])) ?_
  rintro m _ ⟨i, rfl, hi, rfl⟩
  have hi1 : IntKind.i64.wrap ((i : Int) + 1) = ((i + 1 : Nat) : Int) := by rw [IntWalk.i64_in _ (by omega)]; rfl
  by_cases hlt : i < 5
  case neg =>
    obtain rfl : i = 5 := by omega
    have hge : ¬ ((5 : Int) < 5) := by omega
    simp only [vP.down, vS.down, vE.down, qA, qB, qC, qD, qE, qF, qG, reduceIte, reduceCtorEq, qH, qI, qJ, ↓avp_condG, ↓tf_arrow, ↓ft_arrow, hW, hge, show ((5 : Nat) : Int) = 5 from rfl]
    simp only [vP.down, vS.down, vE.down, qA, qB, qC, qD, qE, qF, qG, reduceIte, reduceCtorEq, qH, qI, qJ, ↓avp_condG, ↓tf_arrow, ↓ft_arrow, vT.down]
  have hlt' : (i : Int) < 5 := by omega
  have x0 := idx_at (C := K_law17_TableSpace) (l := W) (i := i) ty_Lstring ty_string rfl (by omega) .i64
  have hq : (W.getD i default).length ≤ 1000000 := hw _ (by
    rw [List.getD_eq_getElem?_getD, List.getElem?_eq_getElem (by omega)]; exact List.getElem_mem _)
  obtain ⟨q, hq'⟩ : ∃ q, q = W.getD i default := ⟨_, rfl⟩
  rw [← hq'] at x0 hq
  simp only [vP.down, vS.down, vE.down, qA, qB, qC, qD, qE, qF, qG, reduceIte, reduceCtorEq, qH, qI, qJ, ↓avp_condG, ↓tf_arrow, ↓ft_arrow, hW, show ((5 : Nat) : Int) = 5 from rfl, hlt']
  refine loop_weak hm_law17_TableSpace (fun m σ => ∃ j : Nat, m = 4 - j ∧ j ≤ 4 ∧ σ = mkS [(25, .t (sl D)), (30, .t (sl W)), (31, .t (.int .i64 (i : Nat))), (32, .t (.int .i64 (j : Nat)))] .empty) ⟨0, rfl, by omega, rfl⟩ (wk_to fewer_refl (by simp only [vP.down, vS.down, vE.down, qA, qB, qC, qD, qE, qF, qG, reduceIte, reduceCtorEq, qH, qI, qJ, ↓avp_condG, ↓tf_arrow, ↓ft_arrow, wP.down, Int.natCast_zero])) ?_
  rintro m _ ⟨j, rfl, hj, rfl⟩
  have hj1 : IntKind.i64.wrap ((j : Int) + 1) = ((j + 1 : Nat) : Int) := by rw [IntWalk.i64_in _ (by omega)]; rfl
  by_cases hlj : j < 4
  case neg =>
    obtain rfl : j = 4 := by omega
    have hge : ¬ ((4 : Int) < 4) := by omega
    simp only [vP.down, vS.down, vE.down, qA, qB, qC, qD, qE, qF, qG, reduceIte, reduceCtorEq, qH, qI, qJ, ↓avp_condG, ↓tf_arrow, ↓ft_arrow, hge, show ((4 : Nat) : Int) = 4 from rfl]
    exact round_to (5 - (i + 1)) [(25, .t (sl D)), (30, .t (sl W)), (31, .t (.int .i64 (i + 1 : Nat)))] .empty (by omega) fewer_refl (by simp only [vP.down, vS.down, vE.down, qA, qB, qC, qD, qE, qF, qG, reduceIte, reduceCtorEq, qH, qI, qJ, ↓avp_condG, ↓tf_arrow, ↓ft_arrow, wP.down, hi1]) ⟨i + 1, rfl, by omega, rfl⟩
  have hlj' : (j : Int) < 4 := by omega
  have x1 := idx_at (C := K_law17_TableSpace) (l := D) (i := j) ty_Lint ty_int rfl (by omega) .i64
  obtain ⟨d, hd⟩ : ∃ d, d = D.getD j default := ⟨_, rfl⟩
  rw [← hd] at x1
  have hl := sp_len (n := d) (s := q)
  simp only [vP.down, vS.down, vE.down, qA, qB, qC, qD, qE, qF, qG, reduceIte, reduceCtorEq, qH, qI, qJ, ↓avp_condG, ↓tf_arrow, ↓ft_arrow, hlj']
  refine weak_at [(25, .t (sl D)), (30, .t (sl W)), (31, .t (.int .i64 (i : Nat))), (32, .t (.int .i64 (j : Nat)))] .empty fewer_refl (by simp only [vP.down, vS.down, vE.down, qA, qB, qC, qD, qE, qF, qG, reduceIte, reduceCtorEq, qH, qI, qJ, ↓avp_condG, ↓tf_arrow, ↓ft_arrow, wP.down]) ?_
  obtain ⟨Z, hZ⟩ : ∃ X, X = (takeSp d q).1 := ⟨_, rfl⟩
  obtain ⟨o, ho⟩ : ∃ X, X = (takeSp d q).2 := ⟨_, rfl⟩
  rw [← hZ] at hl
  simp only [vP.down, vS.down, vE.down, qA, qB, qC, qD, qE, qF, qG, reduceIte, reduceCtorEq, qH, qI, qJ, ↓avp_condG, ↓tf_arrow, ↓ft_arrow, x0, x1, hq, ← hZ, ← ho, spC, k_law17_TableSpace_table_TakeSpace.down, A_table_TakeSpace, p_table_TakeSpace, r_table_TakeSpace, k_law17_TableSpace_ref16_TakeSpace.down, A_ref16_TakeSpace, p_ref16_TakeSpace, r_ref16_TakeSpace]
  intro g33 hg33
  refine weak_at [(25, .t (sl D)), (30, .t (sl W)), (31, .t (.int .i64 (i : Nat))), (32, .t (.int .i64 (j : Nat))), (33, .imm (spC Z)), (34, .t (.bool o))] .empty fewer_empty (by
    simp only [vP.down, vS.down, vE.down, qA, qB, qC, qD, qE, qF, qG, reduceIte, reduceCtorEq, qH, qI, qJ, ↓avp_condG, ↓tf_arrow, ↓ft_arrow, wP.down, spC]
    exact w2_imm (l := spC Z) (ro := false) (Store.set_same _ _ _) rfl) ?_
  clear hg33
  simp only [vP.down, vS.down, vE.down, qA, qB, qC, qD, qE, qF, qG, reduceIte, reduceCtorEq, qH, qI, qJ, ↓avp_condG, ↓tf_arrow, ↓ft_arrow, x0, x1, hq, ← hZ, ← ho, spC, k_law17_TableSpace_table_TakeSpace.down, A_table_TakeSpace, p_table_TakeSpace, r_table_TakeSpace, k_law17_TableSpace_ref16_TakeSpace.down, A_ref16_TakeSpace, p_ref16_TakeSpace, r_ref16_TakeSpace]
  intro g35 hg35
  refine weak_at [(25, .t (sl D)), (30, .t (sl W)), (31, .t (.int .i64 (i : Nat))), (32, .t (.int .i64 (j : Nat))), (33, .imm (spC Z)), (34, .t (.bool o)), (35, .imm (spC Z)), (36, .t (.bool o))] .empty fewer_empty (by
    simp only [vP.down, vS.down, vE.down, qA, qB, qC, qD, qE, qF, qG, reduceIte, reduceCtorEq, qH, qI, qJ, ↓avp_condG, ↓tf_arrow, ↓ft_arrow, wP.down, spC]
    exact w2_imm (l := spC Z) (ro := false) (Store.set_same _ _ _) rfl) ?_
  clear hg35
  simp only [vP.down, vS.down, vE.down, qA, qB, qC, qD, qE, qF, qG, reduceIte, reduceCtorEq, qH, qI, qJ, ↓avp_condG, ↓tf_arrow, ↓ft_arrow, hl, spC, bne_self_eq_false, pick_of, pick_ot, false_implies, k_law17_TableSpace_ref8_SameSpace.down, A_ref8_SameSpace, p_ref8_SameSpace, r_ref8_SameSpace]
  exact round_to (4 - (j + 1)) [(25, .t (sl D)), (30, .t (sl W)), (31, .t (.int .i64 (i : Nat))), (32, .t (.int .i64 (j + 1 : Nat)))] .empty (by omega) fewer_refl (by simp only [vP.down, vS.down, vE.down, qA, qB, qC, qD, qE, qF, qG, reduceIte, reduceCtorEq, qH, qI, qJ, ↓avp_condG, ↓tf_arrow, ↓ft_arrow, wP.down, hj1, spC]) ⟨j + 1, rfl, by omega, rfl⟩
set_option maxHeartbeats 4000000 in
theorem space_22 {s : TSpace} (hS : Sp s) {D : List Int} (hD : D.length = 4) {f : List UInt8} (hf : f.length ≤ 130) {at_ by_ : UInt8} {σ : St} (hσ : Wk σ (mkS [(5, .t (.str f)), (7, .t (.int .u8 (at_.toNat : Int))), (8, .t (.int .u8 (by_.toNat : Int))), (21, .imm (spC s)), (25, .t (sl D))] .empty)) :
    avp K_law17_TableSpace G_law17_TableSpace_22 (Ret K_law17_TableSpace [.tmp 18] fun v _ => v = .t (.bool true)) σ := by
  unfold G_law17_TableSpace_22
  simp only [avp_seq]
  refine ⟨_, hσ, ?_⟩
  have hl := hS.len
  obtain ⟨T, hT⟩ : ∃ T, T = spaceB 60 s := ⟨_, rfl⟩
  have tl : T.length = 32 := hT ▸ (sp_back (n := 60) rfl hS).2
  obtain ⟨U, hU⟩ : ∃ T, T = spaceB 40 s := ⟨_, rfl⟩
  have ul : U.length = 20 := hU ▸ (sp_back (n := 40) rfl hS).2
  have c1 : T.length ≤ 140737488355328 := by omega
  simp only [vP.down, vS.down, vE.down, qA, qB, qC, qD, qE, qF, qG, reduceIte, reduceCtorEq, qH, qI, qJ, ↓avp_condG, ↓tf_arrow, ↓ft_arrow, spC, hl, ← hT, k_law17_TableSpace_table_Space.down, A_table_Space, p_table_Space, r_table_Space, k_law17_TableSpace_ref16_PutSpace.down, A_ref16_PutSpace, p_ref16_PutSpace, r_ref16_PutSpace]
  refine weak_at [(5, .t (.str f)), (7, .t (.int .u8 (at_.toNat : Int))), (8, .t (.int .u8 (by_.toNat : Int))), (21, .imm (spC s)), (25, .t (sl D)), (28, .t (.str T))] .empty fewer_refl (by simp only [vP.down, vS.down, vE.down, qA, qB, qC, qD, qE, qF, qG, reduceIte, reduceCtorEq, qH, qI, qJ, ↓avp_condG, ↓tf_arrow, ↓ft_arrow, wP.down, spC]) ?_
  obtain ⟨i, hi⟩ : ∃ i, i = at_.toNat % T.length := ⟨_, rfl⟩
  have il : i < T.length := hi ▸ Nat.mod_lt _ (by omega)
  have wat : IntKind.i64.wrap (at_.toNat : Int) = (at_.toNat : Int) := IntWalk.i64_in _ (by have := at_.toNat_lt; omega)
  have hti : (at_.toNat : Int).tmod (T.length : Int) = (i : Int) := by rw [Int.tmod_eq_emod_of_nonneg (by omega), hi]; rfl
  have l1 : ((T.map Byt.mk).map Cell.enc).length = T.length := by simp
  have z1 : ¬ ((T.length : Int) = 0) := by omega
  have w1 : IntKind.i64.wrap (i : Int) = (i : Int) := IntWalk.i64_in _ (by omega)
  simp only [vP.down, vS.down, vE.down, qA, qB, qC, qD, qE, qF, qG, reduceIte, reduceCtorEq, qH, qI, qJ, ↓avp_condG, ↓tf_arrow, ↓ft_arrow, c1]
  intro g29 hg29
  simp only [vP.down, vS.down, vE.down, qA, qB, qC, qD, qE, qF, qG, reduceIte, reduceCtorEq, qH, qI, qJ, ↓avp_condG, ↓tf_arrow, ↓ft_arrow, z1, wat, hti, w1, Int.toNat_natCast, set_f, row_byt il, turn_byt, l1, or_self, and_self, not_false_eq_true, true_implies, false_implies]
  refine ⟨⟨by omega, by omega⟩, il, ⟨by omega, by omega⟩, il, by simp, ?_⟩
  refine weak_at [(5, .t (.str f)), (21, .imm (spC s)), (25, .t (sl D)), (28, .t (.str T)), (29, .t (sl ((turnS T i by_).map Byt.mk)))] .empty fewer_empty (by
    simp only [vP.down, vS.down, vE.down, qA, qB, qC, qD, qE, qF, qG, reduceIte, reduceCtorEq, qH, qI, qJ, ↓avp_condG, ↓tf_arrow, ↓ft_arrow, wP.down, spC]
    refine LV.w2 (s' := Store.empty) (lv_at (α := Byt) (l := (turnS T i by_).map Byt.mk) (ro := false) (by rw [List.length_map, turnS_len]) ?_) (fun _ _ => rfl)
    simp only [set_f, if_true, if_false]; rfl) ?_
  clear hg29
  have l2 : (turnS T i by_).length = 32 := by rw [turnS_len, tl]
  obtain ⟨V, hV⟩ : ∃ V, V = turnS T i by_ := ⟨_, rfl⟩
  rw [← hV] at l2 ⊢
  simp only [vP.down, vS.down, vE.down, qA, qB, qC, qD, qE, qF, qG, reduceIte, reduceCtorEq, qH, qI, qJ, ↓avp_condG, ↓tf_arrow, ↓ft_arrow, map_mk_v, spC, hl, ← hU, k_law17_TableSpace_table_Space.down, A_table_Space, p_table_Space, r_table_Space, k_law17_TableSpace_ref16_PutSpace.down, A_ref16_PutSpace, p_ref16_PutSpace, r_ref16_PutSpace]
  refine ⟨by omega, fun g30 hg30 => ?_⟩
  refine space_26 (W := [T, V, f, T ++ [120], U]) (D := D) rfl hD (fun w hw => ?_) (wk_to fewer_empty (by
    simp only [vP.down, vS.down, vE.down, qA, qB, qC, qD, qE, qF, qG, reduceIte, reduceCtorEq, qH, qI, qJ, ↓avp_condG, ↓tf_arrow, ↓ft_arrow, wP.down, spC]
    exact (lv_at (α := List UInt8) (l := [T, V, f, T ++ [120], U]) (ro := false) rfl (Store.set_same _ _ _)).w2 fun _ _ => rfl))
  simp only [List.mem_cons, List.not_mem_nil, or_false] at hw
  rcases hw with rfl | rfl | rfl | rfl | rfl
  · omega
  · omega
  · omega
  · rw [List.length_append, tl]; decide
  · omega
set_option maxHeartbeats 4000000 in
theorem space_14 {s : TSpace} (hS : Sp s) {M : List TSpace} {D : List Int} (hM : M.length = 4) (hD : D.length = 4) (hm : ∀ q ∈ M, lenS q) {f : List UInt8} (hf : f.length ≤ 130) {at_ by_ : UInt8} {σ : St} (hσ : Wk σ (mkS [(5, .t (.str f)), (7, .t (.int .u8 (at_.toNat : Int))), (8, .t (.int .u8 (by_.toNat : Int))), (21, .imm (spC s)), (24, .t (sl M)), (25, .t (sl D))] .empty)) :
    avp K_law17_TableSpace G_law17_TableSpace_14 (Ret K_law17_TableSpace [.tmp 18] fun v _ => v = .t (.bool true)) σ := by
  unfold G_law17_TableSpace_14
  simp only [avp_seq]
  refine ⟨_, hσ, ?_⟩
  simp only [vP.down, vS.down, vE.down, qA, qB, qC, qD, qE, qF, qG, reduceIte, reduceCtorEq, qH, qI, qJ, ↓avp_condG, ↓tf_arrow, ↓ft_arrow]
  refine loop_weak hm_law17_TableSpace (fun m σ => ∃ i : Nat, m = 4 - i ∧ i ≤ 4 ∧ σ = mkS [(5, .t (.str f)), (7, .t (.int .u8 (at_.toNat : Int))), (8, .t (.int .u8 (by_.toNat : Int))), (21, .imm (spC s)), (24, .t (sl M)), (25, .t (sl D)), (26, .t (.int .i64 (i : Nat)))] .empty) ⟨0, rfl, by omega, rfl⟩ (wk_to fewer_refl (by simp only [vP.down, vS.down, vE.down, qA, qB, qC, qD, qE, qF, qG, reduceIte, reduceCtorEq, qH, qI, qJ, ↓avp_condG, ↓tf_arrow, ↓ft_arrow, wP.down, Int.natCast_zero, spC])) ?_
  rintro m _ ⟨i, rfl, hi, rfl⟩
  have hi1 : IntKind.i64.wrap ((i : Int) + 1) = ((i + 1 : Nat) : Int) := by rw [IntWalk.i64_in _ (by omega)]; rfl
  by_cases hlt : i < 4
  case neg =>
    obtain rfl : i = 4 := by omega
    have hge : ¬ ((4 : Int) < 4) := by omega
    simp only [vP.down, vS.down, vE.down, qA, qB, qC, qD, qE, qF, qG, reduceIte, reduceCtorEq, qH, qI, qJ, ↓avp_condG, ↓tf_arrow, ↓ft_arrow, hge, show ((4 : Nat) : Int) = 4 from rfl]
    exact space_22 (at_ := at_) (by_ := by_) hS hD hf (wk_to fewer_refl (by simp only [vP.down, vS.down, vE.down, qA, qB, qC, qD, qE, qF, qG, reduceIte, reduceCtorEq, qH, qI, qJ, ↓avp_condG, ↓tf_arrow, ↓ft_arrow, wP.down, spC]))
  have hlt' : (i : Int) < 4 := by omega
  have x0 := idx_at (C := K_law17_TableSpace) (l := M) (i := i) ty_Lapi_Space ty_api_Space rfl (by omega) .i64
  have hq : lenS (M.getD i default) := hm _ (by
    rw [List.getD_eq_getElem?_getD, List.getElem?_eq_getElem (by omega)]; exact List.getElem_mem _)
  obtain ⟨q, hq'⟩ : ∃ q, q = M.getD i default := ⟨_, rfl⟩
  rw [← hq'] at x0 hq
  simp only [vP.down, vS.down, vE.down, qA, qB, qC, qD, qE, qF, qG, reduceIte, reduceCtorEq, qH, qI, qJ, ↓avp_condG, ↓tf_arrow, ↓ft_arrow, show ((4 : Nat) : Int) = 4 from rfl, hlt']
  refine loop_weak hm_law17_TableSpace (fun m σ => ∃ j : Nat, m = 4 - j ∧ j ≤ 4 ∧ σ = mkS [(5, .t (.str f)), (7, .t (.int .u8 (at_.toNat : Int))), (8, .t (.int .u8 (by_.toNat : Int))), (21, .imm (spC s)), (24, .t (sl M)), (25, .t (sl D)), (26, .t (.int .i64 (i : Nat))), (27, .t (.int .i64 (j : Nat)))] .empty) ⟨0, rfl, by omega, rfl⟩ (wk_to fewer_refl (by simp only [vP.down, vS.down, vE.down, qA, qB, qC, qD, qE, qF, qG, reduceIte, reduceCtorEq, qH, qI, qJ, ↓avp_condG, ↓tf_arrow, ↓ft_arrow, wP.down, Int.natCast_zero, spC])) ?_
  rintro m _ ⟨j, rfl, hj, rfl⟩
  have hj1 : IntKind.i64.wrap ((j : Int) + 1) = ((j + 1 : Nat) : Int) := by rw [IntWalk.i64_in _ (by omega)]; rfl
  by_cases hlj : j < 4
  case neg =>
    obtain rfl : j = 4 := by omega
    have hge : ¬ ((4 : Int) < 4) := by omega
    simp only [vP.down, vS.down, vE.down, qA, qB, qC, qD, qE, qF, qG, reduceIte, reduceCtorEq, qH, qI, qJ, ↓avp_condG, ↓tf_arrow, ↓ft_arrow, hge, show ((4 : Nat) : Int) = 4 from rfl]
    exact round_to (4 - (i + 1)) [(5, .t (.str f)), (7, .t (.int .u8 (at_.toNat : Int))), (8, .t (.int .u8 (by_.toNat : Int))), (21, .imm (spC s)), (24, .t (sl M)), (25, .t (sl D)), (26, .t (.int .i64 (i + 1 : Nat)))] .empty (by omega) fewer_refl (by simp only [vP.down, vS.down, vE.down, qA, qB, qC, qD, qE, qF, qG, reduceIte, reduceCtorEq, qH, qI, qJ, ↓avp_condG, ↓tf_arrow, ↓ft_arrow, wP.down, hi1, spC]) ⟨i + 1, rfl, by omega, rfl⟩
  have hlj' : (j : Int) < 4 := by omega
  have x1 := idx_at (C := K_law17_TableSpace) (l := D) (i := j) ty_Lint ty_int rfl (by omega) .i64
  obtain ⟨d, hd⟩ : ∃ d, d = D.getD j default := ⟨_, rfl⟩
  rw [← hd] at x1
  simp only [vP.down, vS.down, vE.down, qA, qB, qC, qD, qE, qF, qG, reduceIte, reduceCtorEq, qH, qI, qJ, ↓avp_condG, ↓tf_arrow, ↓ft_arrow, hlj']
  refine weak_at [(5, .t (.str f)), (7, .t (.int .u8 (at_.toNat : Int))), (8, .t (.int .u8 (by_.toNat : Int))), (21, .imm (spC s)), (24, .t (sl M)), (25, .t (sl D)), (26, .t (.int .i64 (i : Nat))), (27, .t (.int .i64 (j : Nat)))] .empty fewer_refl (by simp only [vP.down, vS.down, vE.down, qA, qB, qC, qD, qE, qF, qG, reduceIte, reduceCtorEq, qH, qI, qJ, ↓avp_condG, ↓tf_arrow, ↓ft_arrow, wP.down, spC]) ?_
  simp only [vP.down, vS.down, vE.down, qA, qB, qC, qD, qE, qF, qG, reduceIte, reduceCtorEq, qH, qI, qJ, ↓avp_condG, ↓tf_arrow, ↓ft_arrow, x0, x1, hq, bne_self_eq_false, pick_of, pick_ot, false_implies, k_law17_TableSpace_table_Space.down, A_table_Space, p_table_Space, r_table_Space, k_law17_TableSpace_ref16_PutSpace.down, A_ref16_PutSpace, p_ref16_PutSpace, r_ref16_PutSpace]
  exact round_to (4 - (j + 1)) [(5, .t (.str f)), (7, .t (.int .u8 (at_.toNat : Int))), (8, .t (.int .u8 (by_.toNat : Int))), (21, .imm (spC s)), (24, .t (sl M)), (25, .t (sl D)), (26, .t (.int .i64 (i : Nat))), (27, .t (.int .i64 (j + 1 : Nat)))] .empty (by omega) fewer_refl (by simp only [vP.down, vS.down, vE.down, qA, qB, qC, qD, qE, qF, qG, reduceIte, reduceCtorEq, qH, qI, qJ, ↓avp_condG, ↓tf_arrow, ↓ft_arrow, wP.down, hj1, spC]) ⟨j + 1, rfl, by omega, rfl⟩
noncomputable def A_law17_TableSpace : Arms ((List Byt) × (List Byt) × (List Byt) × (List Byt) × (List TRun) × (List UInt8) × Int × Byt × Byt × Unit) := Arms.cons (argT (List Byt)) (Arms.cons (argT (List Byt)) (Arms.cons (argT (List Byt)) (Arms.cons (argT (List Byt)) (Arms.cons (argT (List TRun)) (Arms.cons (argT (List UInt8)) (Arms.cons (argT Int) (Arms.cons (argT Byt) (Arms.cons (argT Byt) (Arms.nil)))))))))
def p_law17_TableSpace (x : (List Byt) × (List Byt) × (List Byt) × (List Byt) × (List TRun) × (List UInt8) × Int × Byt × Byt × Unit) : Prop := (goodList (fun x : Byt => goodAny x) x.1) ∧ (goodList (fun x : Byt => goodAny x) x.2.1) ∧ (goodList (fun x : Byt => goodAny x) x.2.2.1) ∧ (goodList (fun x : Byt => goodAny x) x.2.2.2.1) ∧ (goodList (fun x : TRun => (goodInt x.From ∧ (goodInt x.To))) x.2.2.2.2.1) ∧ (goodStr x.2.2.2.2.2.1) ∧ (goodInt x.2.2.2.2.2.2.1) ∧ (goodAny x.2.2.2.2.2.2.2.1) ∧ (goodAny x.2.2.2.2.2.2.2.2.1) ∧ goodAny (x.2.2.2.2.2.2.2.2.2)
abbrev r_law17_TableSpace (x : (List Byt) × (List Byt) × (List Byt) × (List Byt) × (List TRun) × (List UInt8) × Int × Byt × Byt × Unit) : AV := rTrue x
theorem rd_law17_TableSpace : ReadsA Try.prog [22, 22, 22, 22, 52, 9, 3, 5, 5] A_law17_TableSpace p_law17_TableSpace := (readsA_T (reads_list Try.underlying22 (reads_u8 Try.underlying5) (by kernel_rfl) (by decide)) (by kernel_rfl) (readsA_T (reads_list Try.underlying22 (reads_u8 Try.underlying5) (by kernel_rfl) (by decide)) (by kernel_rfl) (readsA_T (reads_list Try.underlying22 (reads_u8 Try.underlying5) (by kernel_rfl) (by decide)) (by kernel_rfl) (readsA_T (reads_list Try.underlying22 (reads_u8 Try.underlying5) (by kernel_rfl) (by decide)) (by kernel_rfl) (readsA_T (reads_list Try.underlying52 (reads_iso (h := fun _ => rfl) (h' := fun _ => rfl) (reads_struct Try.underlying69 (by kernel_rfl) (by kernel_rfl) (readsL_cons (reads_int Try.underlying3) (by kernel_rfl) (readsL_one (reads_int Try.underlying3) (by kernel_rfl))))) (by kernel_rfl) (by decide)) (by kernel_rfl) (readsA_T (reads_str Try.underlying9) (by kernel_rfl) (readsA_T (reads_int Try.underlying3) (by kernel_rfl) (readsA_T (reads_u8 Try.underlying5) (by kernel_rfl) (readsA_T (reads_u8 Try.underlying5) (by kernel_rfl) readsA_nil)))))))))
set_option maxHeartbeats 4000000 in
theorem body_law17_TableSpace (x) (hx : p_law17_TableSpace x) : avp K_law17_TableSpace G_law17_TableSpace (Ret K_law17_TableSpace [.tmp 18] fun v _ => v = r_law17_TableSpace x) (entry (A_law17_TableSpace.enc x) .empty) := by
  obtain ⟨a, b, c, d, e, f, n, ⟨at_⟩, ⟨by_⟩, ⟨⟩⟩ := x
  change avp _ _ (Ret _ _ fun v _ => v = .t (.bool true)) (entry [.t (sl a), .t (sl b), .t (sl c), .t (sl d), .t (sl e), .t (.str f), .t (.int .i64 n), .t (.int .u8 (at_.toNat : Int)), .t (.int .u8 (by_.toNat : Int))] .empty)
  unfold G_law17_TableSpace
  by_cases c1 : (20 : Int) < (a.length : Int)
  · simp only [vP.down, vS.down, vE.down, qA, qB, qC, qD, qE, qF, qG, reduceIte, reduceCtorEq, qH, qI, qJ, ↓avp_condG, ↓tf_arrow, ↓ft_arrow, k_law17_TableSpace_law17_begun.down, A_law17_begun, p_law17_begun, r_law17_begun, c1, gt_iff_lt, pick_of, pick_ot]
    simp only [vP.down, vS.down, vE.down, qA, qB, qC, qD, qE, qF, qG, reduceIte, reduceCtorEq, qH, qI, qJ, ↓avp_condG, ↓tf_arrow, ↓ft_arrow, vT.down]
  by_cases c2 : (20 : Int) < (b.length : Int)
  · simp only [vP.down, vS.down, vE.down, qA, qB, qC, qD, qE, qF, qG, reduceIte, reduceCtorEq, qH, qI, qJ, ↓avp_condG, ↓tf_arrow, ↓ft_arrow, k_law17_TableSpace_law17_begun.down, A_law17_begun, p_law17_begun, r_law17_begun, c1, c2, gt_iff_lt, pick_of, pick_ot]
    simp only [vP.down, vS.down, vE.down, qA, qB, qC, qD, qE, qF, qG, reduceIte, reduceCtorEq, qH, qI, qJ, ↓avp_condG, ↓tf_arrow, ↓ft_arrow, vT.down]
  by_cases c3 : (20 : Int) < (c.length : Int)
  · simp only [vP.down, vS.down, vE.down, qA, qB, qC, qD, qE, qF, qG, reduceIte, reduceCtorEq, qH, qI, qJ, ↓avp_condG, ↓tf_arrow, ↓ft_arrow, k_law17_TableSpace_law17_begun.down, A_law17_begun, p_law17_begun, r_law17_begun, c1, c2, c3, gt_iff_lt, pick_of, pick_ot]
    simp only [vP.down, vS.down, vE.down, qA, qB, qC, qD, qE, qF, qG, reduceIte, reduceCtorEq, qH, qI, qJ, ↓avp_condG, ↓tf_arrow, ↓ft_arrow, vT.down]
  by_cases c4 : (20 : Int) < (d.length : Int)
  · simp only [vP.down, vS.down, vE.down, qA, qB, qC, qD, qE, qF, qG, reduceIte, reduceCtorEq, qH, qI, qJ, ↓avp_condG, ↓tf_arrow, ↓ft_arrow, k_law17_TableSpace_law17_begun.down, A_law17_begun, p_law17_begun, r_law17_begun, c1, c2, c3, c4, gt_iff_lt, pick_of, pick_ot]
    simp only [vP.down, vS.down, vE.down, qA, qB, qC, qD, qE, qF, qG, reduceIte, reduceCtorEq, qH, qI, qJ, ↓avp_condG, ↓tf_arrow, ↓ft_arrow, vT.down]
  by_cases c5 : (5 : Int) < (e.length : Int)
  · simp only [vP.down, vS.down, vE.down, qA, qB, qC, qD, qE, qF, qG, reduceIte, reduceCtorEq, qH, qI, qJ, ↓avp_condG, ↓tf_arrow, ↓ft_arrow, k_law17_TableSpace_law17_begun.down, A_law17_begun, p_law17_begun, r_law17_begun, c1, c2, c3, c4, c5, gt_iff_lt, pick_of, pick_ot]
    simp only [vP.down, vS.down, vE.down, qA, qB, qC, qD, qE, qF, qG, reduceIte, reduceCtorEq, qH, qI, qJ, ↓avp_condG, ↓tf_arrow, ↓ft_arrow, vT.down]
  by_cases c6 : (130 : Int) < (f.length : Int)
  · simp only [vP.down, vS.down, vE.down, qA, qB, qC, qD, qE, qF, qG, reduceIte, reduceCtorEq, qH, qI, qJ, ↓avp_condG, ↓tf_arrow, ↓ft_arrow, k_law17_TableSpace_law17_begun.down, A_law17_begun, p_law17_begun, r_law17_begun, c1, c2, c3, c4, c5, c6, gt_iff_lt, pick_of, pick_ot]
    simp only [vP.down, vS.down, vE.down, qA, qB, qC, qD, qE, qF, qG, reduceIte, reduceCtorEq, qH, qI, qJ, ↓avp_condG, ↓tf_arrow, ↓ft_arrow, vT.down]
  simp only [vP.down, vS.down, vE.down, qA, qB, qC, qD, qE, qF, qG, reduceIte, reduceCtorEq, qH, qI, qJ, ↓avp_condG, ↓tf_arrow, ↓ft_arrow, k_law17_TableSpace_law17_begun.down, A_law17_begun, p_law17_begun, r_law17_begun, c1, c2, c3, c4, c5, c6, gt_iff_lt, pick_of, pick_ot]
  refine weak_at [(0, .t (sl a)), (1, .t (sl b)), (2, .t (sl c)), (3, .t (sl d)), (4, .t (sl e)), (5, .t (.str f)), (6, .t (.int .i64 n)), (7, .t (.int .u8 (at_.toNat : Int))), (8, .t (.int .u8 (by_.toNat : Int)))] .empty fewer_refl (by simp only [vP.down, vS.down, vE.down, qA, qB, qC, qD, qE, qF, qG, reduceIte, reduceCtorEq, qH, qI, qJ, ↓avp_condG, ↓tf_arrow, ↓ft_arrow, wP.down]) ?_
  simp only [vP.down, vS.down, vE.down, qA, qB, qC, qD, qE, qF, qG, reduceIte, reduceCtorEq, qH, qI, qJ, ↓avp_condG, ↓tf_arrow, ↓ft_arrow, k_law17_TableSpace_made_Made.down, q_made_Made, e_made_Made, mk_made_Made, k_law17_TableSpace_made_Picks_Runs.down, m_made_Picks_Runs]
  refine ⟨⟨a, rfl⟩, fun g1 hg1 => ?_⟩
  refine runs_any (pk_new hg1 (by omega)) (by omega) (by omega) fun v1 S1 x hv1 hx H1 _ => ?_
  refine weak_at [(1, .t (sl b)), (2, .t (sl c)), (3, .t (sl d)), (4, .t (sl e)), (5, .t (.str f)), (6, .t (.int .i64 n)), (7, .t (.int .u8 (at_.toNat : Int))), (8, .t (.int .u8 (by_.toNat : Int))), (19, .t (sl x))] .empty fewer_empty (by
    simp only [vP.down, vS.down, vE.down, qA, qB, qC, qD, qE, qF, qG, reduceIte, reduceCtorEq, qH, qI, qJ, ↓avp_condG, ↓tf_arrow, ↓ft_arrow, wP.down]
    exact hv1.w2 fun _ _ => rfl) ?_
  clear hv1 H1 hg1
  simp only [vP.down, vS.down, vE.down, qA, qB, qC, qD, qE, qF, qG, reduceIte, reduceCtorEq, qH, qI, qJ, ↓avp_condG, ↓tf_arrow, ↓ft_arrow, k_law17_TableSpace_made_Made.down, q_made_Made, e_made_Made, mk_made_Made, k_law17_TableSpace_made_Picks_Runs.down, m_made_Picks_Runs]
  refine ⟨⟨b, rfl⟩, fun g1 hg1 => ?_⟩
  refine runs_any (pk_new hg1 (by omega)) (by omega) (by omega) fun v1 S1 y hv1 hy H1 _ => ?_
  obtain ⟨u, ros, hb, _, hdc⟩ := hv1.borrow
  have lx := hx.len8
  have ly := hy.len8
  have q1 : y.length + x.length ≤ 1099511627 := by omega
  simp only [vP.down, vS.down, vE.down, qA, qB, qC, qD, qE, qF, qG, reduceIte, reduceCtorEq, qH, qI, qJ, ↓avp_condG, ↓tf_arrow, ↓ft_arrow, hb, hdc, q1, k_law17_TableSpace_ref8_Less.down, A_ref8_Less, p_ref8_Less, r_ref8_Less]
  obtain ⟨o, ho⟩ : ∃ o, o = whereL .less y x := ⟨_, rfl⟩
  rw [← ho]
  refine weak_at [(2, .t (sl c)), (3, .t (sl d)), (4, .t (sl e)), (5, .t (.str f)), (6, .t (.int .i64 n)), (7, .t (.int .u8 (at_.toNat : Int))), (8, .t (.int .u8 (by_.toNat : Int))), (19, .t (sl x)), (20, .t (sl o))] .empty fewer_empty (by simp only [vP.down, vS.down, vE.down, qA, qB, qC, qD, qE, qF, qG, reduceIte, reduceCtorEq, qH, qI, qJ, ↓avp_condG, ↓tf_arrow, ↓ft_arrow, wP.down]) ?_
  clear hv1 H1 hg1 hb hdc
  have no : Nf o := ho ▸ where_nf
  have wo : Wn 14 40 o := ho ▸ less_wn hy.wn
  have lo := nf_len no wo
  simp only [vP.down, vS.down, vE.down, qA, qB, qC, qD, qE, qF, qG, reduceIte, reduceCtorEq, qH, qI, qJ, ↓avp_condG, ↓tf_arrow, ↓ft_arrow, k_law17_TableSpace_made_Made.down, q_made_Made, e_made_Made, mk_made_Made, k_law17_TableSpace_made_Picks_Runs.down, m_made_Picks_Runs]
  refine ⟨⟨c, rfl⟩, fun g1 hg1 => ?_⟩
  refine runs_any (pk_new hg1 (by omega)) (by omega) (by omega) fun v1 S1 w hv1 hw H1 _ => ?_
  obtain ⟨u, ros, hb, _, hdc⟩ := hv1.borrow
  have lw := hw.len8
  have q1 : w.length + x.length ≤ 1099511627 := by omega
  obtain ⟨z0, hz0⟩ : ∃ z, z = whereL .less w x := ⟨_, rfl⟩
  have nz0 : Nf z0 := hz0 ▸ where_nf
  have wz0 : Wn 14 40 z0 := hz0 ▸ less_wn hw.wn
  have lz0 := nf_len nz0 wz0
  have q2 : z0.length + o.length ≤ 1099511627 := by omega
  obtain ⟨z, hz⟩ : ∃ z, z = whereL .less z0 o := ⟨_, rfl⟩
  have nz : Nf z := hz ▸ where_nf
  have wz : Wn 14 40 z := hz ▸ less_wn wz0
  have lz := nf_len nz wz
  simp only [vP.down, vS.down, vE.down, qA, qB, qC, qD, qE, qF, qG, reduceIte, reduceCtorEq, qH, qI, qJ, ↓avp_condG, ↓tf_arrow, ↓ft_arrow, hb, hdc, q1, q2, ← hz0, ← hz, k_law17_TableSpace_ref8_Less.down, A_ref8_Less, p_ref8_Less, r_ref8_Less, k_law17_TableSpace_made_Made.down, q_made_Made, e_made_Made, mk_made_Made, k_law17_TableSpace_made_Picks_Runs.down, m_made_Picks_Runs]
  refine ⟨⟨d, rfl⟩, fun g2 hg2 => ?_⟩
  refine runs_any (pk_new hg2 (by omega)) (by omega) (by omega) fun v2 S2 k hv2 hk H2 _ => ?_
  simp only [vP.down, vS.down, vE.down, qA, qB, qC, qD, qE, qF, qG, reduceIte, reduceCtorEq, qH, qI, qJ, ↓avp_condG, ↓tf_arrow, ↓ft_arrow, hv2.cells, hv2.one]
  intro g21 hg21
  refine weak_at [(2, .t (sl c)), (4, .t (sl e)), (5, .t (.str f)), (6, .t (.int .i64 n)), (7, .t (.int .u8 (at_.toNat : Int))), (8, .t (.int .u8 (by_.toNat : Int))), (21, .ptr g21 0)] (Store.empty.set g21 (some (.box [.t (sl x), .t (sl o), .t (sl z), .t (sl k)] false))) (sp_freeze (Store.set_same _ _ _) (hv2.fresh hg21)) (by simp only [vP.down, vS.down, vE.down, qA, qB, qC, qD, qE, qF, qG, reduceIte, reduceCtorEq, qH, qI, qJ, ↓avp_condG, ↓tf_arrow, ↓ft_arrow, wP.down]) ?_
  simp only [vP.down, vS.down, vE.down, qA, qB, qC, qD, qE, qF, qG, reduceIte, reduceCtorEq, qH, qI, qJ, ↓avp_condG, ↓tf_arrow, ↓ft_arrow]
  have hS : Sp ⟨x, o, z, k⟩ := Sp.mk' hx.nf no nz hk.nf hx.wn wo wz hk.wn (fun i => by
    rw [ho, where_has]
    simp only [How.op]
    cases hasR x i <;> simp) (fun i => by
    rw [hz, where_has, hz0, where_has]
    simp only [How.op]
    cases hasR x i <;> simp) (fun i => by
    rw [hz, where_has]
    simp only [How.op]
    cases hasR o i <;> simp)
  refine weak_at [(2, .t (sl c)), (4, .t (sl e)), (5, .t (.str f)), (6, .t (.int .i64 n)), (7, .t (.int .u8 (at_.toNat : Int))), (8, .t (.int .u8 (by_.toNat : Int))), (21, .imm (spC ⟨x, o, z, k⟩))] .empty fewer_empty (by
    simp only [vP.down, vS.down, vE.down, qA, qB, qC, qD, qE, qF, qG, reduceIte, reduceCtorEq, qH, qI, qJ, ↓avp_condG, ↓tf_arrow, ↓ft_arrow, wP.down, spC]
    exact w2_imm (l := spC ⟨x, o, z, k⟩) (ro := false) (Store.set_same _ _ _) rfl) ?_
  clear hv1 hv2 H1 H2 hg1 hg2 hg21 hb hdc
  obtain ⟨s, hs⟩ : ∃ s, s = (⟨x, o, z, k⟩ : TSpace) := ⟨_, rfl⟩
  rw [← hs] at hS ⊢
  have hl := hS.len
  simp only [vP.down, vS.down, vE.down, qA, qB, qC, qD, qE, qF, qG, reduceIte, reduceCtorEq, qH, qI, qJ, ↓avp_condG, ↓tf_arrow, ↓ft_arrow, spC]
  intro g hg
  refine weak_at [(2, .t (sl c)), (4, .t (sl e)), (5, .t (.str f)), (6, .t (.int .i64 n)), (7, .t (.int .u8 (at_.toNat : Int))), (8, .t (.int .u8 (by_.toNat : Int))), (21, .imm (spC s)), (22, .ptr g 0)] (Store.empty.set g (some (.box ((spC s).map .t) false))) fewer_refl (by simp only [vP.down, vS.down, vE.down, qA, qB, qC, qD, qE, qF, qG, reduceIte, reduceCtorEq, qH, qI, qJ, ↓avp_condG, ↓tf_arrow, ↓ft_arrow, wP.down, spC]) ?_
  obtain ⟨X, hX⟩ : ∃ X, X = (spC s).map AV.t := ⟨_, rfl⟩
  rw [← hX]
  simp only [vP.down, vS.down, vE.down, qA, qB, qC, qD, qE, qF, qG, reduceIte, reduceCtorEq, qH, qI, qJ, ↓avp_condG, ↓tf_arrow, ↓ft_arrow, k_law17_TableSpace_made_Made.down, q_made_Made, e_made_Made, mk_made_Made, k_law17_TableSpace_made_Picks_Runs.down, m_made_Picks_Runs]
  refine ⟨⟨c, rfl⟩, fun g1 hg1 => ?_⟩
  refine runs_any (pk_new hg1 (by omega)) (by omega) (by omega) fun v1 S1 y1 hv1 hy1 H1 _ => ?_
  have f1 : S1.f g = some (.box X false) := H1.keep ((Store.set_other _ _ (Store.ne_new hg1).symm).trans (Store.set_same _ _ _)) (Store.ne_new hg1).symm
  rw [hX] at f1
  unfold spC at f1
  simp only [vP.down, vS.down, vE.down, qA, qB, qC, qD, qE, qF, qG, reduceIte, reduceCtorEq, qH, qI, qJ, ↓avp_condG, ↓tf_arrow, ↓ft_arrow, f1, hv1.cells, hv1.one]
  refine weak_at [(4, .t (sl e)), (5, .t (.str f)), (6, .t (.int .i64 n)), (7, .t (.int .u8 (at_.toNat : Int))), (8, .t (.int .u8 (by_.toNat : Int))), (21, .imm (spC s)), (22, .ptr g 0)] (Store.empty.set g (some (.box [.t (sl s.Held), .t (sl s.One), .t (sl y1), .t (sl s.Kept)] false))) (sp_freeze2 (Store.set_same _ _ _) (hv1.set (hv1.notbox f1))) (by simp only [vP.down, vS.down, vE.down, qA, qB, qC, qD, qE, qF, qG, reduceIte, reduceCtorEq, qH, qI, qJ, ↓avp_condG, ↓tf_arrow, ↓ft_arrow, wP.down, spC]) ?_
  clear hv1 H1 hg1 f1 hX hg
  simp only [vP.down, vS.down, vE.down, qA, qB, qC, qD, qE, qF, qG, reduceIte, reduceCtorEq, qH, qI, qJ, ↓avp_condG, ↓tf_arrow, ↓ft_arrow]
  refine weak_at [(4, .t (sl e)), (5, .t (.str f)), (6, .t (.int .i64 n)), (7, .t (.int .u8 (at_.toNat : Int))), (8, .t (.int .u8 (by_.toNat : Int))), (21, .imm (spC s)), (22, .imm (spC ⟨s.Held, s.One, y1, s.Kept⟩))] .empty fewer_empty (by
    simp only [vP.down, vS.down, vE.down, qA, qB, qC, qD, qE, qF, qG, reduceIte, reduceCtorEq, qH, qI, qJ, ↓avp_condG, ↓tf_arrow, ↓ft_arrow, wP.down, spC]
    exact w2_imm (l := spC ⟨s.Held, s.One, y1, s.Kept⟩) (ro := false) (Store.set_same _ _ _) rfl) ?_
  simp only [vP.down, vS.down, vE.down, qA, qB, qC, qD, qE, qF, qG, reduceIte, reduceCtorEq, qH, qI, qJ, ↓avp_condG, ↓tf_arrow, ↓ft_arrow, spC]
  intro g3 hg3
  refine weak_at [(4, .t (sl e)), (5, .t (.str f)), (6, .t (.int .i64 n)), (7, .t (.int .u8 (at_.toNat : Int))), (8, .t (.int .u8 (by_.toNat : Int))), (21, .imm (spC s)), (22, .imm (spC ⟨s.Held, s.One, y1, s.Kept⟩)), (23, .ptr g3 0)] (Store.empty.set g3 (some (.box ((spC s).map .t) false))) fewer_refl (by simp only [vP.down, vS.down, vE.down, qA, qB, qC, qD, qE, qF, qG, reduceIte, reduceCtorEq, qH, qI, qJ, ↓avp_condG, ↓tf_arrow, ↓ft_arrow, wP.down, spC]) ?_
  simp only [vP.down, vS.down, vE.down, qA, qB, qC, qD, qE, qF, qG, reduceIte, reduceCtorEq, qH, qI, qJ, ↓avp_condG, ↓tf_arrow, ↓ft_arrow, spC, Store.set_same, set_set]
  refine weak_at [(5, .t (.str f)), (6, .t (.int .i64 n)), (7, .t (.int .u8 (at_.toNat : Int))), (8, .t (.int .u8 (by_.toNat : Int))), (21, .imm (spC s)), (22, .imm (spC ⟨s.Held, s.One, y1, s.Kept⟩)), (23, .imm (spC ⟨s.Held, s.One, s.Two, e⟩))] .empty fewer_empty (by
    simp only [vP.down, vS.down, vE.down, qA, qB, qC, qD, qE, qF, qG, reduceIte, reduceCtorEq, qH, qI, qJ, ↓avp_condG, ↓tf_arrow, ↓ft_arrow, wP.down, spC]
    exact w2_imm (l := spC ⟨s.Held, s.One, s.Two, e⟩) (ro := false) (Store.set_same _ _ _) rfl) ?_
  clear hg3
  simp only [vP.down, vS.down, vE.down, qA, qB, qC, qD, qE, qF, qG, reduceIte, reduceCtorEq, qH, qI, qJ, ↓avp_condG, ↓tf_arrow, ↓ft_arrow, spC]
  intro g4 hg4
  have dl : ∀ l : List TRun, Cell.dec [sl l] = some l := fun l => Cell.dec_enc l
  have dn : Cell.dec [TV.nilS] = some ([] : List TRun) := rfl
  have hdec : Cell.dec [TV.seq 4 [[sl s.Held, sl s.One, sl s.Two, sl s.Kept], [sl s.Held, sl s.One, sl y1, sl s.Kept], [sl s.Held, sl s.One, sl s.Two, sl e], [.nilS, .nilS, .nilS, .nilS]]] = some [s, ⟨s.Held, s.One, y1, s.Kept⟩, ⟨s.Held, s.One, s.Two, e⟩, ⟨[], [], [], []⟩] := by
    show (if (4 : Nat) = Cell.width TSpace then decAll _ else none) = _
    have hw4 : (4 : Nat) = Cell.width TSpace := rfl
    rw [if_pos hw4]
    simp only [decAll, sp_dec (dl _) (dl _) (dl _) (dl _), sp_dec dn dn dn dn, Option.bind_some, Option.map_some]
  refine weak_at [(5, .t (.str f)), (6, .t (.int .i64 n)), (7, .t (.int .u8 (at_.toNat : Int))), (8, .t (.int .u8 (by_.toNat : Int))), (21, .imm (spC s)), (24, .t (sl [s, ⟨s.Held, s.One, y1, s.Kept⟩, ⟨s.Held, s.One, s.Two, e⟩, ⟨[], [], [], []⟩]))] .empty fewer_empty (by
    simp only [vP.down, vS.down, vE.down, qA, qB, qC, qD, qE, qF, qG, reduceIte, reduceCtorEq, qH, qI, qJ, ↓avp_condG, ↓tf_arrow, ↓ft_arrow, wP.down, spC]
    exact w2_rows (Store.set_same _ _ _) rfl hdec rfl) ?_
  clear hg4
  simp only [vP.down, vS.down, vE.down, qA, qB, qC, qD, qE, qF, qG, reduceIte, reduceCtorEq, qH, qI, qJ, ↓avp_condG, ↓tf_arrow, ↓ft_arrow]
  intro g5 hg5
  have ly1 := hy1.len8
  refine space_14 (s := s) (f := f) (at_ := at_) (by_ := by_) hS (M := [s, ⟨s.Held, s.One, y1, s.Kept⟩, ⟨s.Held, s.One, s.Two, e⟩, ⟨[], [], [], []⟩]) (D := [40, n, 60, 240]) rfl rfl (fun q hq => ?_) (by omega) (wk_to fewer_empty (by
    simp only [vP.down, vS.down, vE.down, qA, qB, qC, qD, qE, qF, qG, reduceIte, reduceCtorEq, qH, qI, qJ, ↓avp_condG, ↓tf_arrow, ↓ft_arrow, wP.down, spC]
    exact (lv_at (α := Int) (l := [40, n, 60, 240]) (ro := false) rfl (Store.set_same _ _ _)).w2 fun _ _ => rfl))
  simp only [List.mem_cons, List.not_mem_nil, or_false] at hq
  rcases hq with rfl | rfl | rfl | rfl
  · exact hl
  · exact ⟨hl.1, hl.2.1, (by omega : y1.length ≤ 1000), hl.2.2.2⟩
  · exact ⟨hl.1, hl.2.1, hl.2.2.1, (by omega : e.length ≤ 1000)⟩
  · exact gl0
noncomputable def c_law17_TableSpace : Con := fnScal A_law17_TableSpace p_law17_TableSpace r_law17_TableSpace
theorem ok_law17_TableSpace : COk Try.prog 4 c_law17_TableSpace := fn_sok sys_law17_TableSpace mixed Try.func4 (by kernel_rfl) geq_law17_TableSpace Try.ntmps4 (by rw [Try.results4]) (fun x => by simp [rTrue, AV.scal]) fun x hx => ⟨Nat.le_of_ble_eq_true rfl, body_law17_TableSpace x hx⟩
theorem says_law17_TableSpace : SaysTrue Rows.tableSpaceSpec 9 := ⟨rfl, fun H ds h => by
  match ds, h with
  | [d0, d1, d2, d3, d4, d5, d6, d7, d8], _ => exact ⟨rfl, rfl, rfl⟩⟩
set_option maxRecDepth 100000 in
theorem lifted_law17_TableSpace (os : Os) (started : os.Started) (H : Type) (enc : TypeId × Value → H) :
    ReturnsInHanded {} Try.checked os 4 .any (Rows.tableSpaceSpec.pre6 enc Try.prog Try.f4 Rows.tableSpaceRow.domain false) (Rows.tableSpaceSpec.post enc Try.prog Try.f4 false true false false) := by
  refine returnsInHanded_of_change (C := Try.checked) own started (by kernel_rfl) Try.func4
    (ChangeSpec.witness6 (enc := enc) (C := Try.checked) false ⟨#[], #[.slice none 0 0, .slice none 0 0, .slice none 0 0, .slice none 0 0, .slice none 0 0, .string ⟨#[]⟩, .int .i64 0, .int .u8 0, .int .u8 0], []⟩ 8 (by kernel_rfl) (by kernel_rfl) (by kernel_rfl) (by kernel_rfl)) ?_
  intro W base args ds gs before hval hW _ _
  exact law_contract (ts := [22, 22, 22, 22, 52, 9, 3, 5, 5]) (tb := 4) ok_law17_TableSpace (by rw [Try.params4]) (by kernel_rfl) Try.underlying4 laid (by kernel_rfl) rd_law17_TableSpace (fun _ h => h) says_law17_TableSpace H enc W base args ds gs before hval hW
theorem over_law17_TableSpace : Rows.tableSpaceRow.holds Try.pinned (OpenSpec.ofChange Rows.tableSpaceSpec) :=
  OpenClaim.holds_of_wide 4 Try.f4 rfl rfl rfl rfl rfl rfl rfl ⟨rfl, rfl, rfl, rfl, rfl⟩ rfl rfl rfl rfl rfl (by kernel_rfl) Try.func4 (by kernel_rfl)
    (of_decide_eq_true (by kernel_rfl)) (by unfold Func.isWrapper; first | (rw [if_pos (by decide +kernel)]; kernel_rfl) | (rw [if_neg (by decide +kernel)]; exact ⟨rfl, rfl⟩))
    (fun os started H enc _ => lifted_law17_TableSpace os started H enc)
theorem tableSpace_holds : Rows.TableSpaceSaid := over_law17_TableSpace
end Go.Proofs.Ytofcmdkmhbbbjaa
